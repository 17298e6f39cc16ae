/- Plain facts about data; no project text. -/
import Derived.Test.YtkahafmcmiiolaaGreatDoorD
import Derived.Lib.Strings
import Derived.Lib.Bytealg
import Derived.Lib.Join
import Derived.Lib.ItoaNum
import Derived.Test.YtkahafmcmiiolaaGreatDoorAn
import Derived.Lib.IndexMore
set_option linter.unusedSimpArgs false
namespace Go.AL
open Go
theorem u8_lf (c:UInt8):((c.toNat:Int)=10)↔c=10:=by
 constructor
 ·intro h
  have:c.toNat=10:=by omega
  exact UInt8.toNat_inj.1 (by simpa using this)
 ·rintro rfl;rfl
def I2 (cur:Str):Str→List Str
 | []=>if cur=[] then [] else [cur]
 | c::r=>if c=10 then (cur++[c])::I2 [] r else I2 (cur++[c]) r
def F8 (b:Str):List Str:=I2 [] b
theorem B26 (cur:Str) (s:Str):(I2 cur s).length≤s.length+1:=by
 induction s generalizing cur with
 | nil=>unfold I2;split<;>simp
 | cons c r ih=>unfold I2;split<;>simp<;>(have:=ih [];have:=ih (cur++[c]);omega)
theorem B84 (s:Str):(I2 [] s).length≤s.length:=by
 have key:∀(s cur:Str),cur≠[]→(I2 cur s).length≤s.length+1:=fun s cur _=>B26 cur s
 induction s with
 | nil=>simp [I2]
 | cons c r ih=>unfold I2;split<;>simp<;>(have:=B26 ([]++[c]) r;simp at this;omega)
theorem X2 (b:Str):(F8 b).length≤b.length:=B84 b
theorem A65 (cur r:Str) (c:UInt8):I2 cur (c::r)=if c=10 then (cur++[c])::I2 [] r else I2 (cur++[c]) r:=rfl
theorem F93 (cur:Str) (h:cur≠[]):I2 cur []=[cur]:=by simp [I2,h]
theorem or_pick {p q:Prop} [Decidable p] [Decidable q]:(if decide p=true then true else decide q)=decide (p∨q):=by by_cases p<;>simp [*]
theorem T7 {p q:Prop} [Decidable p] [Decidable q]:(if decide p=true then decide q else false)=decide (p∧q):=by by_cases p<;>simp [*]
theorem A41 {α:Type} (l:List (List α)) (i:Nat) (h:i < l.length):(l.take (i+1)).flatten=(l.take i).flatten++l[i]:=by
 rw [List.take_add_one,J60 h,Option.toList_some,J95];simp
theorem B27 {α:Type} (l:List (List α)) (i:Nat):(l.take i).flatten.length≤l.flatten.length:=by
 conv=>rhs;rw [←K01 i l,J95,J63]
 omega
theorem H68 (i:Nat):((i:Int)+1).toNat=i+1:=by omega
theorem F30 {α:Type} (b:List α) (f i:Nat) (hf:f≤i) (hi:i < b.length):(b.drop f).take (i - f)++[b[i]]=(b.drop f).take (i+1 - f):=by
 rw [show i+1 - f=(i - f)+1 by omega,List.take_add_one,J98,show f+(i - f)=i by omega,J60 hi]
 rfl
def ended (s:Str):Bool:=s.getLast? == some 10
theorem J24 (s:Str):ended s=(if decide (s≠[])=true then decide (((s.getLastD 0).toNat:Int)=10) else false):=by
 unfold ended
 by_cases h:s=[]
 ·simp [h]
 ·rw [List.getLast?_eq_some_getLast h,List.getLastD_eq_getLast?,List.getLast?_eq_some_getLast h]
  simp only [ne_eq,h,not_false_eq_true,decide_true,if_true,Option.getD_some,u8_lf]
  rfl
def L8:List Str→Str→Int→Int
 | [],_,_ => -1
 | x::r,s,i=>if x=s then i else L8 r s (i+1)
def a7 (s:Str):Bool:=s.dropLast.all (·≠10)&&s != []
def K9 (b:Str):Int:=if b.length > 1048576∨(F8 b).length > 4096 then 1 else 0
def L9 (out:List Str) (s:Str):List Str:=if s∈out then out else out++[s]
def G9 (files:List (List Str)):List Str:=files.flatten.foldl L9 []
def L5 (names:List Str) (file:List Str):List Int:=file.map (fun s=>L8 names s 0)
theorem D16 (out:List Str) (s:Str):(L9 out s).length≤out.length+1:=by unfold L9;split<;>simp
theorem C25 (l out:List Str):(l.foldl L9 out).length≤out.length+l.length:=by
 induction l generalizing out with
 | nil=>simp
 | cons s r ih=>have h1:=ih (L9 out s);have h2:=D16 out s;simp only [J89,J64];omega
theorem E50 (fs:List (List Str)):(G9 fs).length≤fs.flatten.length:=by have:=C25 fs.flatten [];simpa [G9] using this
end Go.AL
namespace Go.AL
open Go
structure File where
 Path:Str
 Blob:Str
 deriving DecidableEq
structure Delta where
 Path:Str
 Kind:Int
 deriving DecidableEq
structure Commit where
 Parents:List Int
 Date:Int
 Files:List File
 deriving DecidableEq
def y1:File→Nat→Cell:=fun f j=>match j with
 | 0=>.v (.string ⟨f.Path.toArray⟩)
 | _=>.v (.string ⟨f.Blob.toArray⟩)
def B05:Delta→Nat→Cell:=fun d j=>match j with
 | 0=>.v (.string ⟨d.Path.toArray⟩)
 | _=>.v (.int .i64 d.Kind)
def J5:Commit→Nat→Cell:=fun c j=>match j with
 | 0=>.list Int 1 F0 c.Parents
 | 1=>.v (.int .i64 c.Date)
 | _=>.list File 2 y1 c.Files
abbrev B53:List File→Nat→Cell:=fun l _=>.list File 2 y1 l
abbrev j2:List Delta→Nat→Cell:=fun l _=>.list Delta 2 B05 l
abbrev I12 (f:File):PV:=.agg [.v (.string ⟨f.Path.toArray⟩),.v (.string ⟨f.Blob.toArray⟩)]
abbrev pDelta (d:Delta):PV:=.agg [.v (.string ⟨d.Path.toArray⟩),.v (.int .i64 d.Kind)]
abbrev C62 (c:Commit):PV:=.agg [.list Int 1 F0 c.Parents,.v (.int .i64 c.Date),.list File 2 y1 c.Files]
abbrev n6 (l:List File):PV:=.one (.list File 2 y1 l)
abbrev F94 (l:List Delta):PV:=.one (.list Delta 2 B05 l)
abbrev P1 (l:List Commit):PV:=.one (.list Commit 3 J5 l)
abbrev F95 (l:List (List File)):PV:=.one (.list (List File) 1 B53 l)
theorem G78 (a b:Bool):(if a=true then b else false)=(a&&b):=by cases a<;>rfl
theorem ifOr (a b:Bool):(if a=true then true else b)=(a||b):=by cases a<;>rfl
abbrev ltS (a b:Str):Bool:=Op.bytesLess a b
theorem I13 (a:Str):ltS a []=false:=by cases a<;>rfl
theorem A83 (a b:UInt8) (x y:Str):ltS (a::x) (b::y)=(decide (a < b)||(a == b&&ltS x y)):=rfl
theorem X3:∀a:Str,ltS a a=false
 | []=>rfl
 | c::r=>by
  rw [A83,X3 r]
  have:¬c < c:=by rw [UInt8.lt_iff_toNat_lt];omega
  simp [this]
theorem n7:∀{a b c:Str},ltS a b=true→ltS b c=true→ltS a c=true
 | _,[],_,h,_=>by rw [I13] at h;cases h
 | _,_::_,[],_,h=>by rw [I13] at h;cases h
 | [],_::_,_::_,_,_=>rfl
 | a::x,b::y,c::z,h1,h2=>by
  rw [A83,J81,J61,decide_eq_true_eq,UInt8.lt_iff_toNat_lt,beq_iff_eq] at h1 h2
  rw [A83,J81,J61,decide_eq_true_eq,UInt8.lt_iff_toNat_lt,beq_iff_eq]
  rcases h1 with h1 | ⟨rfl,h1⟩
  ·rcases h2 with h2 | ⟨rfl,h2⟩
   ·left;omega
   ·left;omega
  ·rcases h2 with h2 | ⟨rfl,h2⟩
   ·left;omega
   ·right;exact ⟨rfl,n7 h1 h2⟩
theorem B75:∀{a b:Str},ltS a b=false→ltS b a=false→a=b
 | [],[],_,_=>rfl
 | [],_::_,h,_=>by cases h
 | _::_,[],_,h=>by cases h
 | a::x,b::y,h1,h2=>by
  rw [A83,J99,decide_eq_false_iff_not,UInt8.lt_iff_toNat_lt] at h1 h2
  have e:a=b:=UInt8.toNat_inj.1 (by omega)
  subst e
  simp only [beq_self_eq_true,Bool.true_and] at h1 h2
  rw [B75 h1.2 h2.2]
theorem I70 {a b:Str} (h:ltS a b=true):ltS b a=false:=by
 cases h2:ltS b a
 ·rfl
 ·have:=n7 h h2;rw [X3] at this;cases this
theorem I14:∀(a:Str) (c:UInt8) (t:Str),ltS a (a++c::t)=true
 | [],_,_=>rfl
 | x::r,c,t=>by rw [J82,A83,I14 r c t];simp
def R3 (s:Str):Bool:=decide (s≠[]∧s≠[46]∧s≠[46,46])
def J4 (cur:Str):Str→List Str
 | []=>[cur]
 | c::r=>if c=47 then cur::J4 [] r else J4 (cur++[c]) r
def cpGo (cur:Str):Str→Bool
 | []=>R3 cur
 | c::r=>if c=0 then false else if c=47 then R3 cur&&cpGo [] r else cpGo (cur++[c]) r
def d5 (p:Str):Int:=if p.length < 1∨p.length > 200∨cpGo [] p=false then 210 else 0
theorem C26:∀(s cur:Str),cpGo cur s=(!s.contains 0&&(J4 cur s).all R3)
 | [],cur=>by simp [cpGo,J4]
 | c::r,cur=>by
  rw [cpGo,J4]
  by_cases h0:c=0
  ·subst h0;simp
  ·rw [if_neg h0]
   have hc:(c::r).contains 0=r.contains 0:=by
    rw [List.contains_cons]
    have:((0:UInt8) == c)=false:=by simpa using fun e=>h0 e.symm
    rw [this,Bool.false_or]
   rw [hc]
   split
   ·rw [C26 r [],List.all_cons]
    cases R3 cur<;>cases r.contains 0<;>rfl
   ·rw [C26 r]
theorem F96 (p:Str):d5 p=if p.length > 200∨p.contains 0=true then 210 else if (J4 [] p).all R3=true then 0 else 210:=by
 unfold d5
 rw [C26]
 by_cases h1:p.length > 200
 ·rw [if_pos (.inr (.inl h1)),if_pos (.inl h1)]
 ·cases h2:p.contains 0
  ·rw [if_neg (show ¬(p.length > 200∨false=true) by simp [h1])]
   cases h3:(J4 [] p).all R3
   ·simp
   ·have:¬p.length < 1:=by
     intro h
     have:p=[]:=List.length_eq_zero_iff.1 (by omega)
     subst this
     simp [J4,R3] at h3
    rw [if_neg (fun h=>by
     rcases h with h | h | h
     ·exact this h
     ·exact h1 h
     ·cases h)];rfl
  ·rw [if_pos (show p.length > 200∨true=true from .inr rfl),if_pos (.inr (.inr (by simp)))]
def above (a b:Str):Bool:=decide (b.length > a.length∧b.take a.length=a∧b[a.length]?=some 47)
theorem J25 {a b:Str} (h:above a b=true):ltS a b=true:=by
 obtain ⟨h1,h2,h3⟩:=A0 h
 have e:b=a++47::b.drop (a.length+1):=by
  conv=>lhs;rw [←K01 a.length b,h2]
  rw [J71 h1]
  rw [J60 h1] at h3
  rw [Option.some.inj h3]
 rw [e];exact I14 _ _ _
def Y3:List File→Bool
 | []=>true
 | f::r=>r.all (fun x=>ltS f.Path x.Path&&!above f.Path x.Path)&&Y3 r
def G5 (l:List File):Int:=if l.length > 200 then 1 else if l.any (fun f=>decide (d5 f.Path≠0))=true then 210 else if Y3 l=false then 211 else if l.any (fun f=>decide (K9 f.Blob≠0))=true then 1 else 0
def P7 (p:Str) (ps:List Str):Bool:=(List.range p.length).any fun i=>decide (p.take i∈ps)&&decide (p[i]?=some 47)
def ascend:List File→Bool
 | []=>true
 | [_]=>true
 | f::g::r=>ltS f.Path g.Path&&ascend (g::r)
def u5 (l:List File):Bool:=ascend l&&l.all fun f=>!P7 f.Path (l.map (·.Path))
theorem E51 (p:Str) (ps:List Str):P7 p ps=true↔∃a∈ps,above a p=true:=by
 unfold P7
 rw [List.any_eq_true]
 constructor
 ·rintro ⟨i,hi,h⟩
  rw [J61,decide_eq_true_eq,decide_eq_true_eq] at h
  have hlt:i < p.length:=List.mem_range.1 hi
  have hl:(p.take i).length=i:=by rw [J70];omega
  exact ⟨_,h.1,decide_eq_true ⟨by rw [hl];exact hlt,by rw [hl],by rw [hl];exact h.2⟩⟩
 ·rintro ⟨a,ha,h⟩
  obtain ⟨h1,h2,h3⟩:=A0 h
  exact ⟨a.length,List.mem_range.2 h1,by rw [J61,decide_eq_true_eq,decide_eq_true_eq,h2];exact ⟨ha,h3⟩⟩
theorem d6:∀{f:File} {r:List File},ascend (f::r)=true→∀x∈r,ltS f.Path x.Path=true
 | _,[],_,_,hx=>by cases hx
 | f,g::r,h,x,hx=>by
  unfold ascend at h
  rw [J61] at h
  rcases List.mem_cons.1 hx with rfl | hx
  ·exact h.1
  ·exact n7 h.1 (d6 h.2 x hx)
theorem A42 {f:File} {r:List File} (h:ascend (f::r)=true):ascend r=true:=by
 cases r with
 | nil=>rfl
 | cons g r=>unfold ascend at h;rw [J61] at h;exact h.2
theorem j3:∀{l:List File},Y3 l=true→ascend l=true
 | [],_=>rfl
 | [_],_=>rfl
 | f::g::r,h=>by
  unfold Y3 at h
  rw [J61,List.all_eq_true] at h
  have h1:=h.1 g (by simp)
  rw [J61] at h1
  unfold ascend
  rw [h1.1,j3 h.2];rfl
theorem C02:∀{l:List File},Y3 l=true→∀x∈l,∀y∈l,above x.Path y.Path=false
 | [],_,x,hx,_,_=>by cases hx
 | f::r,h,x,hx,y,hy=>by
  have ha:=j3 h
  unfold Y3 at h
  rw [J61,List.all_eq_true] at h
  cases hab:above x.Path y.Path
  ·rfl
  have hlt:=J25 hab
  rcases List.mem_cons.1 hx with rfl | hx0
  ·rcases List.mem_cons.1 hy with rfl | hy
   ·rw [X3] at hlt;cases hlt
   ·have:=h.1 y hy;rw [hab,Bool.not_true,Bool.and_false] at this;cases this
  ·have hx2:=hx0
   rcases List.mem_cons.1 hy with hyf | hy2
   ·have:=d6 ha x hx2;rw [←hyf,I70 hlt] at this;cases this
   ·rw [C02 h.2 x hx2 y hy2] at hab;cases hab
theorem C27:∀{l:List File},ascend l=true→(∀x∈l,∀y∈l,above x.Path y.Path=false)→Y3 l=true
 | [],_,_=>rfl
 | f::r,h,ha=>by
  unfold Y3
  rw [J61,List.all_eq_true]
  refine ⟨fun x hx=>?_,C27 (A42 h) fun x hx y hy=>ha x (by simp [hx]) y (by simp [hy])⟩
  rw [d6 h x hx,ha f (by simp) x (by simp [hx])];rfl
theorem H69 (l:List File):u5 l=Y3 l:=by
 cases h:Y3 l
 ·cases hp:u5 l
  ·rfl
  unfold u5 at hp
  rw [J61,List.all_eq_true] at hp
  have:Y3 l=true:=C27 hp.1 fun x hx y hy=>by
   cases hab:above x.Path y.Path
   ·rfl
   have h1:=hp.2 y hy
   rw [(E51 _ _).2 ⟨x.Path,List.mem_map_of_mem hx,hab⟩] at h1;cases h1
  rw [this] at h;cases h
 ·unfold u5
  rw [J61,List.all_eq_true]
  refine ⟨j3 h,fun y hy=>?_⟩
  cases hn:P7 y.Path (l.map (·.Path))
  ·rfl
  obtain ⟨a,ha,hab⟩:=(E51 _ _).1 hn
  obtain ⟨x,hx,rfl⟩:=List.mem_map.1 ha
  rw [C02 h x hx y hy] at hab;cases hab
def K3:List File→Str→Option Str
 | [],_=>none
 | f::r,p=>if f.Path=p then some f.Blob else K3 r p
def p7 (a:Str) (k:List Str→List Str):List Str→List Str
 | []=>a::k []
 | b::bs=>if ltS a b=true then a::k (b::bs) else if ltS b a=true then b::p7 a k bs else a::k bs
def A12:List Str→List Str→List Str
 | [],bs=>bs
 | a::as,bs=>p7 a (A12 as) bs
def B06 (a b:List File) (p:Str):Option Delta:=match K3 a p,K3 b p with
 | none,_=>some ⟨p,1⟩
 | some _,none=>some ⟨p,2⟩
 | some x,some y=>if x≠y then some ⟨p,3⟩ else none
def V0 (a b:List File):List Delta:=(A12 (a.map (·.Path)) (b.map (·.Path))).filterMap (B06 a b)
def A66 (b:List File) (f:File):Option Delta:=match K3 b f.Path with
 | none=>some ⟨f.Path,2⟩
 | some y=>if y≠f.Blob then some ⟨f.Path,3⟩ else none
def B85 (a:List File) (f:File):Option Delta:=match K3 a f.Path with
 | none=>some ⟨f.Path,1⟩
 | some _=>none
def p8 (a b:List File):List Delta:=a.filterMap (A66 b)++b.filterMap (B85 a)
def B86 (x:Delta):List Delta→List Delta
 | []=>[x]
 | y::r=>if ltS x.Path y.Path=true then y::B86 x r else x::y::r
def l6:List Delta→List Delta→List Delta
 | acc,[]=>acc
 | acc,x::r=>l6 (B86 x acc) r
def C03 (l:List Delta):List Delta:=(l6 [] l).reverse
def diffOf (a b:List File):List Delta:=C03 (p8 a b)
theorem C63 (x:Delta):∀(l:List Delta) (y:Delta),y∈B86 x l↔y=x∨y∈l
 | [],y=>by simp [B86]
 | z::r,y=>by
  unfold B86
  split
  ·rw [J88,C63 x r,J88]
   constructor
   ·rintro (h | h | h)
    ·exact .inr (.inl h)
    ·exact .inl h
    ·exact .inr (.inr h)
   ·rintro (h | h | h)
    ·exact .inr (.inl h)
    ·exact .inl h
    ·exact .inr (.inr h)
  ·rw [J88]
theorem D52 (x:Delta):∀l:List Delta,(B86 x l).length=l.length+1
 | []=>rfl
 | y::r=>by
  unfold B86
  split
  ·rw [J64,D52 x r,J64]
  ·rfl
theorem F31:∀(l acc:List Delta) (y:Delta),y∈l6 acc l↔y∈acc∨y∈l
 | [],acc,y=>by simp [l6]
 | x::r,acc,y=>by
  unfold l6
  rw [F31 r,C63,J88]
  constructor
  ·rintro ((h | h) | h)
   ·exact .inr (.inl h)
   ·exact .inl h
   ·exact .inr (.inr h)
  ·rintro (h | h | h)
   ·exact .inl (.inr h)
   ·exact .inl (.inl h)
   ·exact .inr h
abbrev G79 (l:List Delta):Prop:=l.Pairwise fun x y=>ltS y.Path x.Path=true
abbrev AscD (l:List Delta):Prop:=l.Pairwise fun x y=>ltS x.Path y.Path=true
theorem F32 {x:Delta}:∀{l:List Delta},G79 l→(∀y∈l,y.Path≠x.Path)→G79 (B86 x l)
 | [],_,_=>by simp [B86,G79]
 | y::r,h,hn=>by
  unfold B86
  have h1:=List.pairwise_cons.1 h
  split
  ·rename_i hlt
   refine List.pairwise_cons.2 ⟨fun z hz=>?_,F32 h1.2 fun z hz=>hn z (by simp [hz])⟩
   rcases (C63 x r z).1 hz with rfl | hz
   ·exact hlt
   ·exact h1.1 z hz
  ·rename_i hlt
   have hyx:ltS y.Path x.Path=true:=by
    cases hc:ltS y.Path x.Path
    ·exact absurd (B75 (by simpa using hlt) hc) fun e=>hn y (by simp) e.symm
    ·rfl
   refine List.pairwise_cons.2 ⟨fun z hz=>?_,h⟩
   rcases List.mem_cons.1 hz with rfl | hz
   ·exact hyx
   ·exact n7 (h1.1 z hz) hyx
theorem E52:∀(l acc:List Delta),G79 acc→(l.map (·.Path)).Nodup→(∀x∈l,∀y∈acc,y.Path≠x.Path)→G79 (l6 acc l)
 | [],acc,h,_,_=>h
 | x::r,acc,h,hn,hd=>by
  unfold l6
  rw [J77,List.nodup_cons] at hn
  refine E52 r _ (F32 h (hd x (by simp))) hn.2 fun z hz y hy=>?_
  rcases (C63 x acc y).1 hy with rfl | hy
  ·intro e;exact hn.1 (by rw [e];exact List.mem_map_of_mem hz)
  ·exact hd z (by simp [hz]) y hy
theorem I71 {l:List Delta} (h:(l.map (·.Path)).Nodup):AscD (C03 l):=by
 unfold C03 AscD
 rw [List.pairwise_reverse]
 exact E52 l [] List.Pairwise.nil h fun _ _ _ hy=>by cases hy
theorem I72 (l:List Delta) (y:Delta):y∈C03 l↔y∈l:=by
 unfold C03;rw [List.mem_reverse,F31];simp
theorem I15:∀{l m:List Delta},AscD l→AscD m→(∀y,y∈l↔y∈m)→l=m
 | [],[],_,_,_=>rfl
 | [],y::_,_,_,h=>by have:=(h y).2 (by simp);cases this
 | y::_,[],_,_,h=>by have:=(h y).1 (by simp);cases this
 | x::l,y::m,h1,h2,h=>by
  have a1:=List.pairwise_cons.1 h1
  have a2:=List.pairwise_cons.1 h2
  have e:x=y:=by
   rcases List.mem_cons.1 ((h x).1 (by simp)) with e | hx
   ·exact e
   rcases List.mem_cons.1 ((h y).2 (by simp)) with e | hy
   ·exact e.symm
   have:=n7 (a1.1 y hy) (a2.1 x hx)
   rw [X3] at this;cases this
  subst e
  refine congrArg (x::·) (I15 a1.2 a2.2 fun z=>⟨fun hz=>?_,fun hz=>?_⟩)
  ·rcases List.mem_cons.1 ((h z).1 (by simp [hz])) with rfl | h3
   ·have:=a1.1 z hz;rw [X3] at this;cases this
   ·exact h3
  ·rcases List.mem_cons.1 ((h z).2 (by simp [hz])) with rfl | h3
   ·have:=a2.1 z hz;rw [X3] at this;cases this
   ·exact h3
abbrev E53 (l:List Str):Prop:=l.Pairwise fun x y=>ltS x y=true
theorem B54 {a:Str} {k:List Str→List Str} {as:List Str} (hk:∀bs p,p∈k bs↔p∈as∨p∈bs):∀(bs:List Str) (p:Str),p∈p7 a k bs↔p=a∨p∈as∨p∈bs
 | [],p=>by rw [p7,J88,hk]
 | b :: bs,p=>by
  rw [p7]
  split
  ·rw [J88,hk]
  ·split
   ·rw [J88,B54 hk bs p,J88]
    constructor
    ·rintro (h | h | h | h)
     ·exact .inr (.inr (.inl h))
     ·exact .inl h
     ·exact .inr (.inl h)
     ·exact .inr (.inr (.inr h))
    ·rintro (h | h | h | h)
     ·exact .inr (.inl h)
     ·exact .inr (.inr (.inl h))
     ·exact .inl h
     ·exact .inr (.inr (.inr h))
   ·rename_i h1 h2
    have e:a=b:=B75 (by simpa using h1) (by simpa using h2)
    subst e
    rw [J88,hk,J88]
    constructor
    ·rintro (h | h | h)
     ·exact .inl h
     ·exact .inr (.inl h)
     ·exact .inr (.inr (.inr h))
    ·rintro (h | h | h | h)
     ·exact .inl h
     ·exact .inr (.inl h)
     ·exact .inl h
     ·exact .inr (.inr h)
theorem A13:∀(as bs:List Str) (p:Str),p∈A12 as bs↔p∈as∨p∈bs
 | [],bs,p=>by simp [A12]
 | a::as,bs,p=>by
  rw [A12,B54 (fun bs p=>A13 as bs p) bs p,J88]
  constructor
  ·rintro (h | h | h)
   ·exact .inl (.inl h)
   ·exact .inl (.inr h)
   ·exact .inr h
  ·rintro ((h | h) | h)
   ·exact .inl h
   ·exact .inr (.inl h)
   ·exact .inr (.inr h)
theorem D53 {a:Str} {k:List Str→List Str} {as:List Str} (hk:∀bs p,p∈k bs↔p∈as∨p∈bs) (hka:∀bs,E53 bs→E53 (k bs)) (ha:∀x∈as,ltS a x=true):∀bs:List Str,E53 bs→E53 (p7 a k bs)
 | [],h=>by
  rw [p7]
  refine List.pairwise_cons.2 ⟨fun x hx=>?_,hka [] h⟩
  rcases (hk [] x).1 hx with hx | hx
  ·exact ha x hx
  ·cases hx
 | b::bs,h=>by
  have hb:=List.pairwise_cons.1 h
  rw [p7]
  split
  ·rename_i hlt
   refine List.pairwise_cons.2 ⟨fun x hx=>?_,hka _ h⟩
   rcases (hk _ x).1 hx with hx | hx
   ·exact ha x hx
   ·rcases List.mem_cons.1 hx with rfl | hx
    ·exact hlt
    ·exact n7 hlt (hb.1 x hx)
  ·split
   ·rename_i _ hlt
    refine List.pairwise_cons.2 ⟨fun x hx=>?_,D53 hk hka ha bs hb.2⟩
    rcases (B54 hk bs x).1 hx with rfl | hx | hx
    ·exact hlt
    ·exact n7 hlt (ha x hx)
    ·exact hb.1 x hx
   ·rename_i h1 h2
    have e:a=b:=B75 (by simpa using h1) (by simpa using h2)
    subst e
    refine List.pairwise_cons.2 ⟨fun x hx=>?_,hka _ hb.2⟩
    rcases (hk _ x).1 hx with hx | hx
    ·exact ha x hx
    ·exact hb.1 x hx
theorem E54:∀(as bs:List Str),E53 as→E53 bs→E53 (A12 as bs)
 | [],_,_,h=>h
 | _::as,bs,h1,h2=>by
  have ha:=List.pairwise_cons.1 h1
  exact D53 (fun bs p=>A13 as bs p) (fun bs hb=>E54 as bs ha.2 hb) ha.1 bs h2
theorem A14:∀{l:List File} {p x:Str},K3 l p=some x→∃f∈l,f.Path=p∧f.Blob=x
 | [],_,_,h=>by cases h
 | f::r,p,x,h=>by
  unfold K3 at h
  split at h
  ·rename_i e;exact ⟨f,by simp,e,Option.some.inj h⟩
  ·obtain ⟨g,hg,h2⟩:=A14 h;exact ⟨g,by simp [hg],h2⟩
theorem findF_none {p:Str}:∀{l:List File},K3 l p=none↔p∉l.map (·.Path)
 | []=>by simp [K3]
 | f::r=>by
  unfold K3
  split
  ·rename_i e;simp [e]
  ·rename_i e
   rw [findF_none (l:=r),J77,J88,not_or]
   exact ⟨fun h=>⟨fun e2=>e e2.symm,h⟩,fun h=>h.2⟩
theorem j4:∀{l:List File},ascend l=true→E53 (l.map (·.Path))
 | [],_=>List.Pairwise.nil
 | f::r,h=>by
  rw [J77]
  refine List.pairwise_cons.2 ⟨fun x hx=>?_,j4 (A42 h)⟩
  obtain ⟨g,hg,rfl⟩:=List.mem_map.1 hx
  exact d6 h g hg
theorem E55 {l:List Str} (h:E53 l):l.Nodup:=h.imp fun {a b} hab e=>by rw [e,X3] at hab;cases hab
theorem u6:∀{l:List File},ascend l=true→∀f∈l,K3 l f.Path=some f.Blob
 | [],_,f,hf=>by cases hf
 | g::r,h,f,hf=>by
  unfold K3
  rcases List.mem_cons.1 hf with rfl | hf
  ·rw [if_pos rfl]
  ·have:=d6 h f hf
   rw [if_neg (fun e=>by rw [e,X3] at this;cases this)]
   exact u6 (A42 h) f hf
theorem F97 {a b:List File} {p:Str} {d:Delta} (h:B06 a b p=some d):d.Path=p:=by
 unfold B06 at h
 split at h
 ·cases h;rfl
 ·cases h;rfl
 ·split at h
  ·cases h;rfl
  ·cases h
theorem C04 {f:Str→Option Delta} (hf:∀p d,f p=some d→d.Path=p):∀{l:List Str},E53 l→AscD (l.filterMap f)
 | [],_=>List.Pairwise.nil
 | p::r,h=>by
  have h1:=List.pairwise_cons.1 h
  have ih:=C04 hf h1.2
  rw [List.filterMap_cons]
  cases hp:f p with
  | none=>exact ih
  | some d =>
   refine List.pairwise_cons.2 ⟨fun y hy=>?_,ih⟩
   obtain ⟨q,hq,hqy⟩:=List.mem_filterMap.1 hy
   rw [hf p d hp,hf q y hqy]
   exact h1.1 q hq
theorem F33 {b:List File} {f:File} {d:Delta} (h:A66 b f=some d):d.Path=f.Path:=by
 unfold A66 at h
 split at h
 ·cases h;rfl
 ·split at h
  ·cases h;rfl
  ·cases h
theorem F34 {a:List File} {f:File} {d:Delta} (h:B85 a f=some d):d.Path=f.Path∧f.Path∉a.map (·.Path):=by
 unfold B85 at h
 split at h
 ·rename_i h2;cases h;exact ⟨rfl,findF_none.1 h2⟩
 ·cases h
theorem I73 {a b:List File} (ha:ascend a=true) (hb:ascend b=true):((p8 a b).map (·.Path)).Nodup:=by
 have sub:∀(f:File→Option Delta),(∀x d,f x=some d→d.Path=x.Path)→∀l:List File,((l.filterMap f).map (·.Path)).Sublist (l.map (·.Path)):=by
  intro f hf l
  induction l with
  | nil=>exact List.Sublist.slnil
  | cons x r ih =>
   rw [List.filterMap_cons]
   cases hx:f x with
   | none=>exact ih.cons _
   | some d=>rw [J77,J77,hf x d hx];exact ih.cons_cons _
 unfold p8
 rw [J91,List.nodup_append]
 refine ⟨(E55 (j4 ha)).sublist (sub _ (fun _ _ h=>F33 h) a),(E55 (j4 hb)).sublist (sub _ (fun _ _ h=>(F34 h).1) b),?_⟩
 intro x hx y hy e
 subst e
 obtain ⟨d,hd,e1⟩:=List.mem_map.1 hy
 obtain ⟨f,hf,h1⟩:=List.mem_filterMap.1 hd
 have h2:=F34 h1
 have h3:=(sub _ (fun _ _ h=>F33 h) a).subset hx
 rw [←e1,h2.1] at h3
 exact h2.2 h3
theorem raw_mem {a b:List File} (ha:ascend a=true) (_hb:ascend b=true) (y:Delta):y∈p8 a b↔y∈V0 a b:=by
 unfold p8 V0
 rw [J84,List.mem_filterMap,List.mem_filterMap,List.mem_filterMap]
 constructor
 ·rintro (⟨f,hf,h⟩ | ⟨f,hf,h⟩)
  ·refine ⟨f.Path,(A13 _ _ _).2 (.inl (List.mem_map_of_mem hf)),?_⟩
   unfold A66 at h
   unfold B06
   rw [u6 ha f hf]
   split at h
   ·rename_i h2;rw [h2];exact h
   ·rename_i z h2
    rw [h2]
    dsimp only
    split at h
    ·rename_i h3;rw [if_pos (fun e=>h3 e.symm)];exact h
    ·cases h
  ·refine ⟨f.Path,(A13 _ _ _).2 (.inr (List.mem_map_of_mem hf)),?_⟩
   unfold B85 at h
   unfold B06
   split at h
   ·rename_i h2;rw [h2];exact h
   ·cases h
 ·rintro ⟨p,hp,h⟩
  unfold B06 at h
  split at h
  ·rename_i h2
   rcases (A13 _ _ _).1 hp with hp | hp
   ·exact absurd hp (findF_none.1 h2)
   ·obtain ⟨f,hf,rfl⟩:=List.mem_map.1 hp
    exact .inr ⟨f,hf,by unfold B85;rw [h2];exact h⟩
  ·rename_i x h2 h3
   obtain ⟨f,hf,rfl,rfl⟩:=A14 h2
   exact .inl ⟨f,hf,by unfold A66;rw [h3];exact h⟩
  ·rename_i x z h2 h3
   obtain ⟨f,hf,rfl,rfl⟩:=A14 h2
   refine .inl ⟨f,hf,?_⟩
   unfold A66;rw [h3]
   dsimp only
   split at h
   ·rename_i h4;rw [if_pos (fun e=>h4 e.symm)];exact h
   ·cases h
theorem I74 {a b:List File} (ha:ascend a=true) (hb:ascend b=true):diffOf a b=V0 a b :=
 I15 (I71 (I73 ha hb)) (C04 (fun _ _ h=>F97 h) (E54 _ _ (j4 ha) (j4 hb))) fun y=>(I72 _ y).trans (raw_mem ha hb y)
theorem H70 (a b:List File):(p8 a b).length≤a.length+b.length:=by
 unfold p8;rw [J63]
 have h1:=List.length_filterMap_le (A66 b) a
 have h2:=List.length_filterMap_le (B85 a) b
 omega
theorem p9 {l:List File} (h:G5 l=0):ascend l=true∧l.length≤200∧(∀f∈l,K9 f.Blob=0)∧∀f∈l,d5 f.Path=0:=by
 unfold G5 at h
 split at h
 ·cases h
 ·rename_i h1
  split at h
  ·cases h
  ·rename_i h2
   split at h
   ·cases h
   ·rename_i h3
    split at h
    ·cases h
    ·rename_i h4
     refine ⟨j3 (by simpa using h3),by omega,fun f hf=>?_,fun f hf=>?_⟩
     ·have:=fun e=>h4 (List.any_eq_true.2 ⟨f,hf,e⟩)
      simpa using this
     ·have:=fun e=>h2 (List.any_eq_true.2 ⟨f,hf,e⟩)
      simpa using this
end Go.AL
namespace Go.AL
open Go
theorem B76 {α:Type} [DecidableEq α]:∀{l m:List α},l.Nodup→(∀x∈l,x∈m)→l.length≤m.length
 | [],_,_,_=>Nat.zero_le _
 | x::l,m,h,hs=>by
  have h1:=List.nodup_cons.1 h
  have h2:l.length≤(m.erase x).length:=B76 h1.2 fun y hy=>by
   have hne:y≠x:=fun e=>h1.1 (e ▸ hy)
   exact (List.mem_erase_of_ne hne).2 (hs y (by simp [hy]))
  have h3:=List.length_erase_of_mem (hs x (by simp))
  have h4:0 < m.length:=List.length_pos_of_mem (hs x (by simp))
  rw [J64];omega
theorem j5 {l:List Int} {n:Nat} (h:l.Nodup) (hr:∀x∈l,0≤x∧x < n):l.length≤n:=by
 have:=B76 (m:=(List.range n).map fun i:Nat=>(i:Int)) h fun x hx=>by
  have:=hr x hx
  exact List.mem_map.2 ⟨x.toNat,List.mem_range.2 (by omega),by omega⟩
 simpa using this
theorem J26 {l:List Int} {n:Nat} (h:l.Nodup) (hr:∀x∈l,0≤x∧x < n) (hl:n≤l.length) (c:Nat) (hc:c < n):(c:Int)∈l:=by
 apply Classical.byContradiction
 intro hn
 have:=j5 (l:=(c:Int)::l) (n:=n) (List.nodup_cons.2 ⟨hn,h⟩) fun x hx=>by
  rcases List.mem_cons.1 hx with rfl | hx
  ·exact ⟨by omega,by omega⟩
  ·exact hr x hx
 rw [J64] at this;omega
theorem C28 {q r:Nat→Bool} (x:Nat) (hr:∀y,r y=(q y&&decide (y≠x))):∀{L:List Nat},L.Nodup→L.countP q=L.countP r+(if x∈L∧q x=true then 1 else 0)
 | [],_=>by simp
 | y :: L,h=>by
  have h1:=List.nodup_cons.1 h
  have ih:=C28 x hr h1.2
  rw [List.countP_cons,List.countP_cons,ih,hr y]
  by_cases e:y=x
  ·subst e
   have:¬(y∈L∧q y=true):=fun e=>h1.1 e.1
   rw [if_neg this]
   cases hq:q y<;>simp
  ·have e2:(x∈y::L∧q x=true)↔(x∈L∧q x=true):=by
    rw [J88]
    constructor
    ·rintro ⟨h3 | h3,h4⟩
     ·exact absurd h3.symm e
     ·exact ⟨h3,h4⟩
    ·exact fun ⟨h3,h4⟩=>⟨.inr h3,h4⟩
   rw [show (if x∈y::L∧q x=true then 1 else 0)=(if x∈L∧q x=true then 1 else 0) by simp only [e2]]
   simp only [e,ne_eq,not_false_eq_true,decide_true,Bool.and_true]
   omega
abbrev Graph:=List Commit
def F1 (g:Graph) (c:Nat):List Int:=(g[c]?.map (·.Parents)).getD []
def B55 (n:Int) (seen:List Int):List Int→Bool
 | []=>true
 | p::r=>decide (0≤p∧p < n∧p∉seen)&&B55 n (seen++[p]) r
def related (g:Graph):Bool:=g.all fun c=>B55 g.length [] c.Parents
theorem G80 {n:Int}:∀{ps seen:List Int},B55 n seen ps=true→(∀p∈ps,0≤p∧p < n∧p∉seen)∧ps.Nodup
 | [],_,_=>⟨(fun _ h=>by cases h),List.nodup_nil⟩
 | p::r,seen,h=>by
  unfold B55 at h
  rw [J61,decide_eq_true_eq] at h
  obtain ⟨h1,h2⟩:=G80 h.2
  refine ⟨fun q hq=>?_,List.nodup_cons.2 ⟨fun hp=>(h1 p hp).2.2 (by simp),h2⟩⟩
  rcases List.mem_cons.1 hq with rfl | hq
  ·exact h.1
  ·have:=h1 q hq;exact ⟨this.1,this.2.1,fun hs=>this.2.2 (by simp [hs])⟩
theorem u7 {g:Graph} {c:Nat} (hc:c < g.length):F1 g c=g[c].Parents:=by unfold F1;rw [J60 hc];rfl
theorem B56 {g:Graph} {c:Nat} (hc:¬c < g.length):F1 g c=[]:=by unfold F1;rw [J80 (by omega)];rfl
theorem K5 {g:Graph} (h:related g=true) (c:Nat):(∀p∈F1 g c,0≤p∧p < g.length)∧(F1 g c).Nodup:=by
 by_cases hc:c < g.length
 ·rw [u7 hc]
  have:=G80 (List.all_eq_true.1 h g[c] (J66 hc))
  exact ⟨fun p hp=>⟨(this.1 p hp).1,(this.1 p hp).2.1⟩,this.2⟩
 ·rw [B56 hc];exact ⟨(fun _ h=>by cases h),List.nodup_nil⟩
inductive Reaches (g:Graph):Nat→Nat→Prop
 | one {c p:Nat} (h:(p:Int)∈F1 g c):Reaches g c p
 | more {c d p:Nat} (h:Reaches g c d) (h2:(p:Int)∈F1 g d):Reaches g c p
theorem Reaches.trans {g:Graph} {a b c:Nat} (h:Reaches g a b) (h2:Reaches g b c):Reaches g a c:=by
 induction h2 with
 | one h2=>exact .more h h2
 | more _ h3 ih=>exact .more ih h3
theorem Reaches.lt {g:Graph} (hr:related g=true) {a b:Nat} (h:Reaches g a b):a < g.length∧b < g.length:=by
 have key:∀{c p:Nat},(p:Int)∈F1 g c→c < g.length∧p < g.length:=fun {c p} h=>by
  refine ⟨?_,by have:=(K5 hr c).1 p h;omega⟩
  apply Classical.byContradiction
  intro hc;rw [B56 hc] at h;cases h
 induction h with
 | one h=>exact key h
 | more _ h2 ih=>exact ⟨ih.1,(key h2).2⟩
def n8 (ps:List Int) (l:List Bool):List Bool:=ps.foldl (fun l p=>l.set p.toNat true) l
def K7 (l:List Bool) (c:Nat):Bool:=l[c]?.getD false
def l7 (g:Graph) (l:List Bool) (c:Nat):List Bool:=if K7 l c=true then n8 (F1 g c) l else l
def C29 (g:Graph) (l:List Bool):List Bool:=(List.range g.length).foldl (l7 g) l
def u9 (g:Graph):Nat→List Bool→List Bool
 | 0,l=>l
 | k+1,l=>u9 g k (C29 g l)
def Q9 (g:Graph) (starts:List Int):List Bool:=u9 g g.length (n8 starts (List.replicate g.length false))
theorem J27 {l:List Bool} {i c:Nat}:K7 (l.set i true) c=(K7 l c||decide (i=c∧c < l.length)):=by
 unfold K7
 rw [List.getElem?_set]
 split
 ·rename_i e;subst e
  split
  ·rename_i h;simp [h]
  ·rename_i h;simp [h,J80 (Nat.le_of_not_lt h)]
 ·rename_i h;simp [h]
theorem a8:∀(ps:List Int) (l:List Bool),(n8 ps l).length=l.length
 | [],_=>rfl
 | p::r,l=>by show (n8 r (l.set p.toNat true)).length=_;rw [a8 r];simp
theorem d7:∀(ps:List Int) (l:List Bool) (c:Nat),K7 (n8 ps l) c=(K7 l c||(decide (c < l.length)&&ps.any fun p=>decide (p.toNat=c)))
 | [],l,c=>by simp [n8]
 | p::r,l,c=>by
  show K7 (n8 r (l.set p.toNat true)) c=_
  rw [d7 r,J27,J83,List.any_cons]
  by_cases h1:p.toNat=c<;>by_cases h2:c < l.length<;>simp [h1,h2]
theorem I75 (g:Graph) (l:List Bool) (c:Nat):(l7 g l c).length=l.length:=by unfold l7;split<;>simp [a8]
theorem F35 (g:Graph):∀(cs:List Nat) (l:List Bool),(cs.foldl (l7 g) l).length=l.length
 | [],_=>rfl
 | c::r,l=>by rw [J89,F35 g r,I75]
theorem E56 (g:Graph) (l:List Bool):(C29 g l).length=l.length:=F35 g _ l
theorem D17 (g:Graph):∀(k:Nat) (l:List Bool),(u9 g k l).length=l.length
 | 0,_=>rfl
 | k+1,l=>by rw [u9,D17 g k,E56]
theorem G81 (g:Graph) (s:List Int):(Q9 g s).length=g.length:=by unfold Q9;rw [D17,a8];simp
def LeB (a b:List Bool):Prop:=a.length=b.length∧∀c,K7 a c=true→K7 b c=true
theorem LeB.refl (a:List Bool):LeB a a:=⟨rfl,fun _ h=>h⟩
theorem LeB.trans {a b c:List Bool} (h:LeB a b) (h2:LeB b c):LeB a c:=⟨h.1.trans h2.1,fun x hx=>h2.2 x (h.2 x hx)⟩
theorem B77:∀{a b:List Bool},LeB a b→a=b∨a.countP id < b.countP id
 | [],[],_=>.inl rfl
 | [],_::_,h=>by have:=h.1;simp at this
 | _::_,[],h=>by have:=h.1;simp at this
 | x::a,y::b,h=>by
  have h1:LeB a b:=⟨by simpa using h.1,fun c hc=>h.2 (c+1) hc⟩
  have h2:x=true→y=true:=fun hx=>by simpa [K7] using h.2 0 (by simpa [K7] using hx)
  rw [List.countP_cons,List.countP_cons]
  rcases B77 h1 with rfl | h3
  ·cases x<;>cases y
   ·exact .inl rfl
   ·right;simp
   ·exact absurd (h2 rfl) (by decide)
   ·exact .inl rfl
  ·right
   cases x<;>cases y
   ·simpa using h3
   ·simp;omega
   ·exact absurd (h2 rfl) (by decide)
   ·simpa using h3
theorem G82 {a b:List Bool} (h:LeB a b) (h2:LeB b a):a=b:=by
 rcases B77 h with e | e
 ·exact e
 ·rcases B77 h2 with e2 | e2
  ·exact e2.symm
  ·omega
theorem F36 (ps:List Int) (l:List Bool):LeB l (n8 ps l):=⟨(a8 ps l).symm,fun c h=>by rw [d7,h];rfl⟩
theorem G83 (g:Graph) (l:List Bool) (c:Nat):LeB l (l7 g l c):=by unfold l7;split<;>first | exact F36 _ _ | exact LeB.refl _
theorem C64 (g:Graph):∀(cs:List Nat) (l:List Bool),LeB l (cs.foldl (l7 g) l)
 | [],l=>LeB.refl l
 | c::r,l=>(G83 g l c).trans (C64 g r _)
theorem G84 (g:Graph):∀(k:Nat) (l:List Bool),LeB l (u9 g k l)
 | 0,l=>LeB.refl l
 | k+1,l=>(C64 g _ l).trans (G84 g k _)
def A43 (g:Graph) (l:List Bool):Prop:=∀c,K7 l c=true→∀p∈F1 g c,K7 l p.toNat=true
theorem G85 (g:Graph):∀(cs:List Nat) (l:List Bool),cs.foldl (l7 g) l=l→∀c∈cs,l7 g l c=l
 | [],_,_,_,h=>by cases h
 | d::r,l,h,c,hc=>by
  rw [J89] at h
  have h1:l7 g l d=l:=G82 (by have:=C64 g r (l7 g l d);rw [h] at this;exact this) (G83 g l d)
  rcases List.mem_cons.1 hc with rfl | hc
  ·exact h1
  ·rw [h1] at h;exact G85 g r l h c hc
theorem I16 {l:List Bool} {c:Nat} (h:K7 l c=true):c < l.length:=by
 unfold K7 at h
 apply Classical.byContradiction
 intro hn;rw [J80 (by omega)] at h;cases h
theorem H71 {g:Graph} {l:List Bool} (hr:related g=true) (hl:l.length=g.length) (h:C29 g l=l):A43 g l:=by
 intro c hc p hp
 have h1:=G85 g _ l h c (List.mem_range.2 (by rw [←hl];exact I16 hc))
 unfold l7 at h1
 rw [if_pos hc] at h1
 rw [←h1,d7]
 have:=(K5 hr c).1 p hp
 rw [J81];right
 rw [J61,decide_eq_true_eq,List.any_eq_true]
 exact ⟨by omega,p,hp,by simp⟩
theorem C65 {g:Graph} {l:List Bool} (h:A43 g l):C29 g l=l:=by
 have key:∀(cs:List Nat),cs.foldl (l7 g) l=l:=by
  intro cs
  induction cs with
  | nil=>rfl
  | cons c r ih =>
   rw [J89]
   have:l7 g l c=l:=by
    unfold l7
    split
    ·rename_i hc
     refine G82 ⟨a8 _ _,fun x hx=>?_⟩ (F36 _ _)
     rw [d7,J81,J61,List.any_eq_true] at hx
     rcases hx with hx | ⟨_,p,hp,e⟩
     ·exact hx
     ·rw [←A0 e];exact h c hc p hp
    ·rfl
   rw [this];exact ih
 exact key _
theorem D54 {g:Graph} (hr:related g=true):∀(k:Nat) {l:List Bool},l.length=g.length→A43 g (u9 g k l)∨l.countP id+k≤(u9 g k l).countP id
 | 0,l,_=>.inr (by simp [u9])
 | k+1,l,hl=>by
  rw [u9]
  rcases B77 (C64 g (List.range g.length) l) with e | e
  ·left
   have h1:A43 g l:=H71 hr hl e.symm
   rw [show C29 g l=l from e.symm]
   have:∀k,u9 g k l=l:=fun k=>by
    induction k with
    | zero=>rfl
    | succ k ih=>rw [u9,C65 h1];exact ih
   rw [this];exact h1
  ·rcases D54 hr k (l:=C29 g l) (by rw [E56];exact hl) with h | h
   ·exact .inl h
   ·right
    have e:l.countP id < (C29 g l).countP id:=e
    omega
theorem B07 {g:Graph} (hr:related g=true) (s:List Int) (hs:∀f∈s,0≤f∧f < g.length):A43 g (Q9 g s):=by
 by_cases h0:s=[]
 ·subst h0
  have:A43 g (List.replicate g.length false):=fun c hc=>by
   unfold K7 at hc
   rw [List.getElem?_replicate] at hc
   split at hc<;>cases hc
  have e:∀k,u9 g k (List.replicate g.length false)=List.replicate g.length false:=fun k=>by
   induction k with
   | zero=>rfl
   | succ k ih=>rw [u9,C65 this];exact ih
  unfold Q9
  show A43 g (u9 g g.length (List.replicate g.length false))
  rw [e];exact this
 ·rcases D54 hr g.length (l:=n8 s (List.replicate g.length false)) (by rw [a8];simp) with h | h
  ·exact h
  ·obtain ⟨f,r,rfl⟩:=List.exists_cons_of_ne_nil h0
   have h1:(u9 g g.length (n8 (f::r) (List.replicate g.length false))).countP id≤g.length:=by
    have:=List.countP_le_length (p:=id) (l:=u9 g g.length (n8 (f::r) (List.replicate g.length false)))
    rw [D17,a8,J90] at this;exact this
   have h2:0 < (n8 (f::r) (List.replicate g.length false)).countP id:=by
    rw [List.countP_pos_iff]
    have hf:=hs f (by simp)
    have hon:K7 (n8 (f::r) (List.replicate g.length false)) f.toNat=true:=by
     rw [d7,J81];right
     rw [J61,decide_eq_true_eq,List.any_eq_true]
     exact ⟨by rw [J90];omega,f,by simp,by simp⟩
    have hlt:=I16 hon
    unfold K7 at hon
    rw [J60 hlt] at hon
    exact ⟨_,J66 hlt,hon⟩
   omega
theorem B78 {g:Graph} (hr:related g=true) {s:List Int} (hs:∀f∈s,0≤f∧f < g.length) (x:Nat):K7 (Q9 g s) x=true↔∃f:Nat,(f:Int)∈s∧(f=x∨Reaches g f x):=by
 constructor
 ·let Good:List Bool→Prop:=fun l=>∀x,K7 l x=true→∃f:Nat,(f:Int)∈s∧(f=x∨Reaches g f x)
  have h1:∀l c,Good l→Good (l7 g l c):=by
   intro l c h x hx
   unfold l7 at hx
   split at hx
   ·rename_i hc
    rw [d7,J81,J61,List.any_eq_true] at hx
    rcases hx with hx | ⟨_,p,hp,e⟩
    ·exact h x hx
    ·have e:=A0 e
     have hp2:=(K5 hr c).1 p hp
     have e2:((x:Nat):Int)=p:=by omega
     obtain ⟨f,hf,h2⟩:=h c hc
     refine ⟨f,hf,.inr ?_⟩
     rcases h2 with rfl | h2
     ·exact .one (by rw [e2];exact hp)
     ·exact .more h2 (by rw [e2];exact hp)
   ·exact h x hx
  have h2:∀(cs:List Nat) l,Good l→Good (cs.foldl (l7 g) l):=by
   intro cs
   induction cs with
   | nil=>exact fun l h=>h
   | cons c r ih=>exact fun l h=>ih _ (h1 l c h)
  have h3:∀k l,Good l→Good (u9 g k l):=by
   intro k
   induction k with
   | zero=>exact fun l h=>h
   | succ k ih=>exact fun l h=>ih _ (h2 _ l h)
  refine h3 _ _ (fun x hx=>?_) x
  rw [d7,J81,J61,List.any_eq_true] at hx
  rcases hx with hx | ⟨_,p,hp,e⟩
  ·unfold K7 at hx
   rw [List.getElem?_replicate] at hx
   split at hx<;>cases hx
  ·have e:=A0 e
   have:=hs p hp
   exact ⟨x,by rw [show ((x:Nat):Int)=p by omega];exact hp,.inl rfl⟩
 ·rintro ⟨f,hf,h⟩
  have hcl:=B07 hr s hs
  have h0:K7 (Q9 g s) f=true:=by
   refine (G84 g _ _).2 f ?_
   rw [d7,J81];right
   rw [J61,decide_eq_true_eq,List.any_eq_true]
   have:=hs f hf
   exact ⟨by rw [J90];omega,f,hf,by simp⟩
  rcases h with rfl | h
  ·exact h0
  ·induction h with
   | one h=>exact hcl _ h0 _ h
   | more _ h2 ih=>exact hcl _ ih _ h2
def cyclic (g:Graph):Bool:=(List.range g.length).any fun c=>decide (F1 g c≠[])&&K7 (Q9 g (F1 g c)) c
theorem B08 {g:Graph} (hr:related g=true):cyclic g=true↔∃c,Reaches g c c:=by
 unfold cyclic
 rw [List.any_eq_true]
 constructor
 ·rintro ⟨c,_,h⟩
  rw [J61] at h
  obtain ⟨f,hf,h2⟩:=(B78 hr (K5 hr c).1 c).1 h.2
  rcases h2 with rfl | h2
  ·exact ⟨f,.one hf⟩
  ·exact ⟨c,(Reaches.one hf).trans h2⟩
 ·rintro ⟨c,h⟩
  have hlt:=(h.lt hr).1
  refine ⟨c,List.mem_range.2 hlt,?_⟩
  have key:∀{a b:Nat},Reaches g a b→∃f:Nat,(f:Int)∈F1 g a∧(f=b∨Reaches g f b):=by
   intro a b h
   induction h with
   | one h=>exact ⟨_,h,.inl rfl⟩
   | more _ h2 ih =>
    obtain ⟨f,hf,h3⟩:=ih
    refine ⟨f,hf,.inr ?_⟩
    rcases h3 with rfl | h3
    ·exact .one h2
    ·exact .more h3 h2
  obtain ⟨f,hf,h2⟩:=key h
  rw [J61,decide_eq_true_eq]
  exact ⟨(fun e=>by rw [e] at hf;cases hf),(B78 hr (K5 hr c).1 c).2 ⟨f,hf,h2⟩⟩
def C66 (g:Graph) (ex:List Int) (p:Nat):Nat:=(List.range g.length).countP fun c:Nat=>decide ((c:Int)∉ex∧(p:Int)∈F1 g c)
theorem F37 {g:Graph} {ex:List Int} {x p:Nat} (hx:(x:Int)∉ex) (hlt:x < g.length):C66 g ex p=C66 g (ex++[(x:Int)]) p+(if (p:Int)∈F1 g x then 1 else 0):=by
 unfold C66
 rw [C28 (q:=fun c:Nat=>decide ((c:Int)∉ex∧(p:Int)∈F1 g c)) (r:=fun c:Nat=>decide ((c:Int)∉ex++[(x:Int)]∧(p:Int)∈F1 g c)) x (fun y=>?_) List.nodup_range]
 ·congr 1
  simp only [K12,hlt,true_and,decide_eq_true_eq,hx,not_false_eq_true]
 ·simp only [J84,List.mem_singleton]
  by_cases h1:(y:Int)∈ex<;>by_cases h2:y=x<;>by_cases h3:(p:Int)∈F1 g y<;>simp [h1,h2,h3]<;>omega
theorem J28 {g:Graph} {ex:List Int} {p:Nat} (h:0 < C66 g ex p):∃c,c < g.length∧(c:Int)∉ex∧(p:Int)∈F1 g c:=by
 unfold C66 at h
 rw [List.countP_pos_iff] at h
 obtain ⟨c,hc,h⟩:=h
 have:=A0 h
 exact ⟨c,List.mem_range.1 hc,this.1,this.2⟩
theorem F38 {g:Graph} {ex:List Int} {p:Nat} (h:C66 g ex p=0) {c:Nat} (hc:c < g.length) (hp:(p:Int)∈F1 g c):(c:Int)∈ex:=by
 apply Classical.byContradiction
 intro hn
 have:0 < C66 g ex p:=by
  unfold C66
  rw [List.countP_pos_iff]
  exact ⟨c,List.mem_range.2 hc,by simp [hn,hp]⟩
 omega
structure KInv (g:Graph) (k i:Nat) (ch:List Int) (out:List Int):Prop where
 len:ch.length=g.length
 nodup:out.Nodup
 rng:∀x∈out,0≤x∧x < g.length
 cnt:∀p,p < g.length→ch[p]?.getD 0+(if (p:Int)∈(F1 g (out.getD k 0).toNat).take i then 1 else 0)=C66 g (out.take k) p
 zero:∀p,p < g.length→((p:Int)∈out↔ch[p]?.getD 0=0)
 kids:∀j (h:j < out.length) (c:Nat),out[j]∈F1 g c→(c:Int)∈out.take j
theorem minimal {R:Nat→Nat→Prop} (tr:∀a b c,R a b→R b c→R a c) (ir:∀a,¬R a a):∀{M:List Nat},M≠[]→∃m∈M,∀x∈M,¬R x m
 | [],h=>absurd rfl h
 | [a],_=>⟨a,by simp,fun x hx=>by rw [List.mem_singleton.1 hx];exact ir a⟩
 | a::b::r,_=>by
  obtain ⟨m,hm,h⟩:=minimal tr ir (M:=b::r) (by simp)
  by_cases ham:R a m
  ·refine ⟨a,by simp,fun x hx hxa=>?_⟩
   rcases List.mem_cons.1 hx with rfl | hx
   ·exact ir _ hxa
   ·exact h x hx (tr _ _ _ hxa ham)
  ·refine ⟨m,List.mem_cons_of_mem _ hm,fun x hx=>?_⟩
   rcases List.mem_cons.1 hx with rfl | hx
   ·exact ham
   ·exact h x hx
theorem KInv.done {g:Graph} (hr:related g=true) {ch out:List Int} (h:KInv g out.length 0 ch out):(decide (out.length < g.length))=cyclic g:=by
 cases hc:cyclic g
 ·rw [decide_eq_false_iff_not]
  intro hlt
  have hno:∀c,¬Reaches g c c:=fun c hcc=>by rw [(B08 hr).2 ⟨c,hcc⟩] at hc;cases hc
  let M:=(List.range g.length).filter fun c:Nat=>decide ((c:Int)∉out)
  have hM:M≠[]:=by
   intro e
   have hall:∀c,c < g.length→(c:Int)∈out:=fun c hc=>by
    apply Classical.byContradiction
    intro hn
    have:c∈M:=List.mem_filter.2 ⟨List.mem_range.2 hc,by simp [hn]⟩
    rw [e] at this;cases this
   have:=B76 (l:=(List.range g.length).map fun i:Nat=>(i:Int)) (m:=out) ((List.nodup_range).map (fun i:Nat=>(i:Int)) (fun _ _ hne e=>hne (Int.ofNat.inj e))) fun x hx=>by
    obtain ⟨i,hi,rfl⟩:=List.mem_map.1 hx
    exact hall i (List.mem_range.1 hi)
   rw [J85,J96] at this;omega
  obtain ⟨m,hm,hmin⟩:=minimal (R:=Reaches g) (fun _ _ _ h1 h2=>h1.trans h2) hno hM
  obtain ⟨hm1,hm2⟩:=List.mem_filter.1 hm
  have hm1:=List.mem_range.1 hm1
  have hm2:=A0 hm2
  have h1:=h.cnt m hm1
  have h2:¬ch[m]?.getD 0=0:=fun e=>hm2 ((h.zero m hm1).2 e)
  rw [J67,List.take_zero,if_neg (by simp),Int.add_zero] at h1
  obtain ⟨c,hc1,hc2,hc3⟩:=J28 (g:=g) (ex:=out) (p:=m) (by omega)
  exact hmin c (List.mem_filter.2 ⟨List.mem_range.2 hc1,by simp [hc2]⟩) (.one hc3)
 ·rw [decide_eq_true_eq]
  obtain ⟨c,hcc⟩:=(B08 hr).1 hc
  apply Classical.byContradiction
  intro hn
  have hin:=J26 h.nodup h.rng (by omega) c (hcc.lt hr).1
  have key:∀{x y:Nat},Reaches g x y→∀j (hj:j < out.length),out[j]=(y:Int)→∃i,∃hi:i < out.length,i < j∧out[i]=(x:Int):=by
   have one:∀{x y:Nat},(y:Int)∈F1 g x→∀j (hj:j < out.length),out[j]=(y:Int)→∃i,∃hi:i < out.length,i < j∧out[i]=(x:Int):=by
    intro x y hxy j hj e
    have:=h.kids j hj x (by rw [e];exact hxy)
    obtain ⟨i,hi,he⟩:=List.getElem_of_mem this
    rw [J70] at hi
    rw [List.getElem_take] at he
    exact ⟨i,by omega,by omega,he⟩
   intro x y hxy
   induction hxy with
   | one h=>exact one h
   | more _ h2 ih =>
    intro j hj e
    obtain ⟨i,hi,hlt,e2⟩:=one h2 j hj e
    obtain ⟨i',hi',hlt',e3⟩:=ih i hi e2
    exact ⟨i',hi',by omega,e3⟩
  obtain ⟨j,hj,e⟩:=List.getElem_of_mem hin
  obtain ⟨i,hi,hlt,e2⟩:=key hcc j hj e
  have:=(List.getElem_inj (i:=i) (j:=j) (h₀:=hi) (h₁:=hj) h.nodup).1 (e2.trans e.symm)
  omega
end Go.AL
namespace Go.AL
open Go
def atG (l:List Int) (p:Nat):Int:=l[p]?.getD 0
def bump (l:List Int) (p:Int):List Int:=l.set p.toNat (atG l p.toNat+1)
def U2 (l:List Int) (p:Int):List Int:=l.set p.toNat (atG l p.toNat - 1)
def U5 (ps:List Int) (l:List Int):List Int:=ps.foldl bump l
def N7 (g:Graph) (i:Nat):List Int:=(g.take i).foldl (fun l c=>U5 c.Parents l) (List.replicate g.length 0)
theorem A44 {l:List Int} {i p:Nat} {v:Int} (h:i < l.length):atG (l.set i v) p=if i=p then v else atG l p:=by
 unfold atG
 rw [List.getElem?_set]
 split
 ·rename_i e;subst e;simp [h]
 ·rfl
theorem B57:∀(ps:List Int) (l:List Int),(U5 ps l).length=l.length
 | [],_=>rfl
 | p::r,l=>by show (U5 r (bump l p)).length=_;rw [B57 r];simp [bump]
theorem C30 {n:Int}:∀{ps:List Int} {l:List Int},(∀p∈ps,0≤p∧p < l.length)→ps.Nodup→∀p:Nat,atG (U5 ps l) p=atG l p+(if (p:Int)∈ps then 1 else 0)
 | [],l,_,_,p=>by simp [U5]
 | q::r,l,h,hn,p=>by
  show atG (U5 r (bump l q)) p=_
  have hq:=h q (by simp)
  have hn:=List.nodup_cons.1 hn
  rw [C30 (n:=n) (fun x hx=>by have:=h x (by simp [hx]);simpa [bump] using this) hn.2 p]
  unfold bump
  rw [A44 (by omega)]
  by_cases e:q.toNat=p
  ·have e2:(p:Int)=q:=by omega
   have h2:¬(p:Int)∈r:=by rw [e2];exact hn.1
   rw [if_pos e,if_neg h2,e2,if_pos (by simp),e];omega
  ·have e2:((p:Int)∈q::r)↔(p:Int)∈r:=by
    rw [J88]
    exact ⟨fun h=>h.resolve_left (by omega),.inr⟩
   rw [if_neg e]
   simp only [e2]
theorem y6 (g:Graph):∀i,(N7 g i).length=g.length:=by
 intro i
 unfold N7
 have key:∀(cs:List Commit) (l:List Int),(cs.foldl (fun l c=>U5 c.Parents l) l).length=l.length:=by
  intro cs
  induction cs with
  | nil=>intro l;rfl
  | cons c r ih=>intro l;rw [J89,ih,B57]
 rw [key];simp
theorem C05 {g:Graph} {i:Nat} (hi:i < g.length):N7 g (i+1)=U5 (F1 g i) (N7 g i):=by
 unfold N7
 rw [List.take_add_one,J60 hi,Option.toList_some,K09,u7 hi];rfl
theorem B58 {g:Graph} (hr:related g=true) (p:Nat) (hp:p < g.length):∀i,i≤g.length→atG (N7 g i) p=((List.range i).countP fun c:Nat=>decide ((p:Int)∈F1 g c):Nat)
 | 0,_=>by
  unfold N7 atG
  simp [List.getElem?_replicate,hp]
 | i+1,hi=>by
  have hpr:=K5 hr i
  rw [C05 (by omega),C30 (n:=0) (fun q hq=>by rw [y6];exact hpr.1 q hq) hpr.2,B58 hr p hp i (by omega),K08,List.countP_append]
  by_cases h:(p:Int)∈F1 g i<;>simp [h]
theorem D55 {g:Graph} (hr:related g=true) (p:Nat) (hp:p < g.length):atG (N7 g g.length) p=C66 g [] p:=by
 rw [B58 hr p hp _ (Nat.le_refl _)]
 unfold C66
 simp
def S4 (ch:List Int) (i:Nat):List Int:=((List.range i).filter fun c=>decide (atG ch c=0)).map fun c:Nat=>(c:Int)
theorem F98 (ch:List Int) (i:Nat):S4 ch (i+1)=if atG ch i=0 then S4 ch i++[(i:Int)] else S4 ch i:=by
 unfold S4
 rw [K08,List.filter_append,J91]
 by_cases h:atG ch i=0<;>simp [h]
theorem D56 (ch:List Int) (i p:Nat):(p:Int)∈S4 ch i↔p < i∧atG ch p=0:=by
 unfold S4
 rw [List.mem_map]
 constructor
 ·rintro ⟨c,hc,e⟩
  have e:c=p:=Int.ofNat.inj e
  subst e
  rw [List.mem_filter,K12,decide_eq_true_eq] at hc
  exact hc
 ·rintro ⟨h1,h2⟩
  exact ⟨p,by rw [List.mem_filter,K12,decide_eq_true_eq];exact ⟨h1,h2⟩,rfl⟩
theorem B59 {ch:List Int} {i:Nat}:∀x∈S4 ch i,0≤x∧x < i:=by
 intro x hx
 unfold S4 at hx
 obtain ⟨c,hc,rfl⟩:=List.mem_map.1 hx
 have:=List.mem_range.1 (List.mem_filter.1 hc).1
 omega
theorem C06 (ch:List Int) (i:Nat):(S4 ch i).Nodup:=by
 unfold S4
 exact (List.nodup_range.filter _).map (fun i:Nat=>(i:Int)) fun _ _ hne e=>hne (Int.ofNat.inj e)
theorem G86 (ch:List Int) (i:Nat):(S4 ch i).length≤i:=j5 (C06 ch i) B59
theorem KInv.start {g:Graph} (hr:related g=true):KInv g 0 0 (N7 g g.length) (S4 (N7 g g.length) g.length) where
 len:=y6 g _
 nodup:=C06 _ _
 rng:=B59
 cnt:=fun p hp=>by
  have:=D55 hr p hp
  unfold atG at this
  rw [this,List.take_zero,List.take_zero];simp
 zero:=fun p hp=>by
  have:=D56 (N7 g g.length) g.length p
  rw [this]
  exact ⟨fun h=>h.2,fun h=>⟨hp,h⟩⟩
 kids:=fun j hj c hc=>by
  have h1:=B59 _ (J66 hj)
  have h2:=(D56 (N7 g g.length) g.length ((S4 (N7 g g.length) g.length)[j]).toNat).1 (by rw [Int.toNat_of_nonneg h1.1];exact J66 hj)
  rw [D55 hr _ h2.1] at h2
  have hlt:c < g.length:=by
   apply Classical.byContradiction
   intro hn;rw [B56 hn] at hc;cases hc
  have:=F38 (g:=g) (ex:=[]) (p:=((S4 (N7 g g.length) g.length)[j]).toNat) (by omega) hlt (by rw [Int.toNat_of_nonneg h1.1];exact hc)
  cases this
theorem KInv.le {g:Graph} {k i:Nat} {ch out:List Int} (h:KInv g k i ch out):out.length≤g.length:=j5 h.nodup h.rng
theorem v6 {α:Type} {l m:List α} {k:Nat} (h:k≤l.length):(l++m).take k=l.take k:=by rw [List.take_append_of_le_length h]
theorem G87 {α:Type} {l m:List α} {k:Nat} {d:α} (h:k < l.length):(l++m).getD k d=l.getD k d:=by
 rw [J65,J65,J75 h]
theorem Q1 {α:Type} {l:List α} {i:Nat} {x:α} (h:i < l.length):x∈l.take (i+1)↔x∈l.take i∨x=l[i]:=by
 rw [List.take_add_one,J60 h,Option.toList_some,J84,List.mem_singleton]
theorem U6 {α:Type} {l:List α} (hn:l.Nodup) {i:Nat} (h:i < l.length):l[i]∉l.take i:=by
 intro hm
 obtain ⟨j,hj,e⟩:=List.getElem_of_mem hm
 rw [J70] at hj
 rw [List.getElem_take] at e
 have:=(List.getElem_inj (i:=j) (j:=i) (h₀:=by omega) (h₁:=h) hn).1 e
 omega
theorem KInv.step {g:Graph} (hr:related g=true) {k i:Nat} {ch out:List Int} (h:KInv g k i ch out) (hk:k < out.length) {c p:Nat} (hc:out[k]=(c:Int)) (hi:i < (F1 g c).length) (hp:(F1 g c)[i]=(p:Int)) :
  p < g.length∧1≤atG ch p∧atG ch p≤g.length∧KInv g k (i+1) (U2 ch p) (if atG ch p - 1=0 then out++[(p:Int)] else out):=by
 have hpr:=K5 hr c
 have hpm:(p:Int)∈F1 g c:=by rw [←hp];exact J66 hi
 have hplt:p < g.length:=by have:=hpr.1 p hpm;omega
 have hclt:c < g.length:=by have:=h.rng out[k] (J66 hk);omega
 have hg0:out.getD k 0=(c:Int):=by rw [J65,J60 hk];exact hc
 have hnt:(c:Int)∉out.take k:=by rw [←hc];exact U6 h.nodup hk
 have hnp:(p:Int)∉(F1 g c).take i:=by rw [←hp];exact U6 hpr.2 hi
 have h1:=h.cnt p hplt
 rw [hg0,J62,if_neg hnp] at h1
 have h2:=F37 (g:=g) (ex:=out.take k) (x:=c) (p:=p) hnt hclt
 rw [if_pos hpm] at h2
 have hle:C66 g (out.take k) p≤g.length:=by
  unfold C66
  have:=List.countP_le_length (p:=fun c:Nat=>decide ((c:Int)∉out.take k∧(p:Int)∈F1 g c)) (l:=List.range g.length)
  rwa [J96] at this
 have hat:atG ch p=ch[p]?.getD 0:=rfl
 have hge:1≤atG ch p:=by omega
 have hnout:(p:Int)∉out:=fun hm=>by have:=(h.zero p hplt).1 hm;omega
 have hst:∀q,atG (U2 ch p) q=if p=q then atG ch p - 1 else atG ch q:=fun q=>by
  unfold U2
  rw [J62,A44 (by rw [h.len];exact hplt)]
 refine ⟨hplt,hge,by omega,?_⟩
 have htake:(if atG ch p - 1=0 then out++[(p:Int)] else out).take k=out.take k:=by split<;>first | exact v6 (by omega) | rfl
 have hget:(if atG ch p - 1=0 then out++[(p:Int)] else out).getD k 0=out.getD k 0:=by split<;>first | exact G87 hk | rfl
 refine ⟨by unfold U2;rw [J83];exact h.len,?_,?_,?_,?_,?_⟩
 ·split
  ·exact List.nodup_append.2 ⟨h.nodup,by simp,fun x hx y hy e=>by rw [List.mem_singleton.1 hy] at e;exact hnout (e ▸ hx)⟩
  ·exact h.nodup
 ·intro x hx
  split at hx
  ·rcases List.mem_append.1 hx with hx | hx
   ·exact h.rng x hx
   ·rw [List.mem_singleton.1 hx];omega
  ·exact h.rng x hx
 ·intro q hq
  rw [htake,hget,hg0,J62]
  have e1:=hst q
  have e2:atG (U2 ch p) q=(U2 ch p)[q]?.getD 0:=rfl
  rw [←e2,e1]
  by_cases e:p=q
  ·subst e
   rw [if_pos rfl,if_pos ((Q1 hi).2 (.inr hp.symm))];omega
  ·rw [if_neg e]
   have h3:=h.cnt q hq
   rw [hg0,J62] at h3
   have h4:((q:Int)∈(F1 g c).take (i+1))↔(q:Int)∈(F1 g c).take i:=by
    rw [Q1 hi,hp]
    exact ⟨fun h=>h.resolve_right (by omega),.inl⟩
   simp only [h4]
   exact h3
 ·intro q hq
  have e1:=hst q
  have e2:atG (U2 ch p) q=(U2 ch p)[q]?.getD 0:=rfl
  rw [←e2,e1]
  by_cases e:p=q
  ·subst e
   rw [if_pos rfl]
   split
   ·rename_i h0;simp [h0]
   ·rename_i h0;exact ⟨fun hm=>absurd hm hnout,fun e=>absurd e h0⟩
  ·rw [if_neg e]
   have h3:=h.zero q hq
   split
   ·rw [J84,List.mem_singleton]
    exact ⟨fun hm=>h3.1 (hm.resolve_right (by omega)),fun e=>.inl (h3.2 e)⟩
   ·exact h3
 ·intro j hj x hx
  split at hj
  ·rename_i h0
   simp only [h0,if_true] at hx ⊢
   by_cases hjl:j < out.length
   ·rw [K07 hjl] at hx
    rw [v6 (by omega)]
    exact h.kids j hjl x hx
   ·have hje:j=out.length:=by rw [J63,List.length_singleton] at hj;omega
    subst hje
    rw [K05 (Nat.le_refl _)] at hx
    simp only [K06,List.getElem_cons_zero] at hx
    have hxl:x < g.length:=by
     apply Classical.byContradiction
     intro hn;rw [B56 hn] at hx;cases hx
    have hz:C66 g (out.take k++[(c:Int)]) p=0:=by omega
    have:=F38 hz hxl hx
    rw [v6 (Nat.le_refl _),J67]
    rcases List.mem_append.1 this with hm | hm
    ·exact List.mem_of_mem_take hm
    ·rw [List.mem_singleton.1 hm,←hc];exact J66 hk
  ·rename_i h0
   simp only [h0,if_false] at hx ⊢
   exact h.kids j hj x hx
theorem KInv.next {g:Graph} {k:Nat} {ch out:List Int} (hk:k < out.length) {c:Nat} (hc:out[k]=(c:Int)) (h:KInv g k (F1 g c).length ch out):KInv g (k+1) 0 ch out where
 len:=h.len
 nodup:=h.nodup
 rng:=h.rng
 cnt:=fun p hp=>by
  have h1:=h.cnt p hp
  have hg0:out.getD k 0=(c:Int):=by rw [J65,J60 hk];exact hc
  have hclt:c < g.length:=by have:=h.rng out[k] (J66 hk);omega
  rw [hg0,J62,J67] at h1
  have h2:=F37 (g:=g) (ex:=out.take k) (x:=c) (p:=p) (by rw [←hc];exact U6 h.nodup hk) hclt
  have e:out.take (k+1)=out.take k++[(c:Int)]:=by rw [List.take_add_one,J60 hk,Option.toList_some,hc]
  rw [e,List.take_zero,if_neg (by simp)]
  split at h1
  ·rename_i hm;rw [if_pos hm] at h2;omega
  ·rename_i hm;rw [if_neg hm] at h2;omega
 zero:=h.zero
 kids:=h.kids
def X4:List Commit→Int
 | []=>0
 | c::r=>if G5 c.Files≠0 then G5 c.Files else X4 r
def j6 (g:Graph):Bool:=decide (g.length≤300)&&!g.any fun c=>decide (c.Parents.length > 32)
def C67 (g:Graph):Bool:=g.any fun c=>decide (c.Date < 0∨c.Date > 2147483647)
def N8 (g:Graph):Int:=if j6 g=false then 1 else if related g=false then 230 else if cyclic g=true then 231 else if C67 g=true then 3 else X4 g
theorem C07:∀{g:List Commit},X4 g=0→∀c∈g,G5 c.Files=0
 | [],_,_,hc=>by cases hc
 | d::r,h,c,hc=>by
  unfold X4 at h
  split at h
  ·rename_i h1;exact absurd h h1
  ·rename_i h1
   rcases List.mem_cons.1 hc with rfl | hc
   ·simpa using h1
   ·exact C07 h c hc
structure Valid (g:Graph):Prop where
 len:g.length≤300
 pars:∀c∈g,c.Parents.length≤32
 rel:related g=true
 acyc:∀c,¬Reaches g c c
 tree:∀c∈g,G5 c.Files=0
theorem A15 {g:Graph} (h:N8 g=0):Valid g:=by
 unfold N8 at h
 split at h
 ·cases h
 ·rename_i h1
  split at h
  ·cases h
  ·rename_i h2
   split at h
   ·cases h
   ·rename_i h3
    split at h
    ·cases h
    ·have h1:j6 g=true:=by simpa using h1
     unfold j6 at h1
     rw [J61,decide_eq_true_eq] at h1
     have h2:related g=true:=by simpa using h2
     refine ⟨h1.1,fun c hc=>?_,h2,fun c hc=>h3 ((B08 h2).2 ⟨c,hc⟩),fun c hc=>C07 h c hc⟩
     apply Classical.byContradiction
     intro hn
     have:g.any (fun c=>decide (c.Parents.length > 32))=true:=List.any_eq_true.2 ⟨c,hc,by simp;omega⟩
     rw [this] at h1;cases h1.2
end Go.AL
namespace Go.AL
open Go
def V7 (i j:Int):List Span→Int→Int→List Change
 | [],m,n=>if m > i∨n > j then [⟨i,m - i,j,n - j⟩] else []
 | x::r,m,n=>(if x.From > i∨x.To > j then [⟨i,x.From - i,j,x.To - j⟩] else [])++V7 (x.From+1) (x.To+1) r m n
def C31 (p:List Span) (m n:Int):List Change:=V7 0 0 p m n
theorem F02 (p:List Span) (i j m n:Int):(V7 i j p m n).length≤p.length+1:=by
 induction p generalizing i j with
 | nil=>unfold V7;split<;>simp
 | cons x r ih=>unfold V7;have:=ih (x.From+1) (x.To+1);split<;>simp<;>omega
def S5 (i j:Int) (n:Nat):List Span:=(List.range n).map fun (t:Nat)=>⟨i+(t:Int),j+(t:Int)⟩
theorem E57 (i j:Int) (n:Nat):(S5 i j n).length=n:=by simp [S5]
theorem F99 (i j:Int) (n:Nat):S5 i j (n+1)=⟨i,j⟩::S5 (i+1) (j+1) n:=by
 unfold S5
 rw [List.range_succ_eq_map,J77,J94]
 congr 1
 ·simp
 ·refine List.map_congr_left fun t _=>?_
  simp only [Function.comp,Span.mk.injEq]
  omega
def A84 (i j:Int):List Change→Int→List Span
 | [],m=>S5 i j (m - i).toNat
 | c::r,m=>S5 i j (c.Old - i).toNat++A84 (max i c.Old+c.OldLen) (j+(c.Old - i).toNat+c.NewLen) r m
def I76 (l:List Change) (m:Int):List Span:=A84 0 0 l m
def dist:List Int→List Int→Nat
 | [],b=>b.length
 | x::a,[]=>(x::a).length
 | x::a,y::b=>if x=y then dist a b else 1+min (dist a (y::b)) (dist (x::a) b)
theorem C68 (a:List Int):dist a []=a.length:=by cases a<;>simp [dist]
theorem G00 (a b:List Int):dist a b≤a.length+b.length:=by
 induction a generalizing b with
 | nil=>simp [dist]
 | cons x a iha =>
  induction b with
  | nil=>simp [dist]
  | cons y b ihb =>
   unfold dist
   split
   ·have:=iha b;simp;omega
   ·have:=iha (y::b);have:=ihb;simp only [J64] at *;omega
def K4 (i j:Int):List Int→List Int→List Span
 | [],_=>[]
 | _::_,[]=>[]
 | x::a,y::b=>if x=y then ⟨i,j⟩::K4 (i+1) (j+1) a b else if dist a (y::b)+1=dist (x::a) (y::b) then K4 (i+1) j a (y::b) else K4 i (j+1) (x::a) b
def B60 (a b:List Int):List Change:=C31 (K4 0 0 a b) a.length b.length
theorem I77 (a b:List Int) (i j:Nat) (hi:i < a.length) (hj:j < b.length) :
  dist (a.drop i) (b.drop j)=if a[i]=b[j] then dist (a.drop (i+1)) (b.drop (j+1)) else 1+min (dist (a.drop (i+1)) (b.drop j)) (dist (a.drop i) (b.drop (j+1))):=by
 rw [J71 hi,J71 hj]
 conv=>lhs;rw [dist]
theorem D57 (a b:List Int) (i j:Nat) (hi:i < a.length) (hj:j < b.length) (p q:Int) :
  K4 p q (a.drop i) (b.drop j)=if a[i]=b[j] then ⟨p,q⟩::K4 (p+1) (q+1) (a.drop (i+1)) (b.drop (j+1)) else
   if dist (a.drop (i+1)) (b.drop j)+1=dist (a.drop i) (b.drop j) then K4 (p+1) q (a.drop (i+1)) (b.drop j) else K4 p (q+1) (a.drop i) (b.drop (j+1)):=by
 rw [J71 hi,J71 hj]
 conv=>lhs;rw [K4]
theorem V1 (p q:Int) (b:List Int):K4 p q [] b=[]:=by simp [K4]
theorem n9 (p q:Int) (a:List Int):K4 p q a []=[]:=by cases a<;>simp [K4]
theorem C08 (p q:Int) (a b:List Int):(K4 p q a b).length≤a.length:=by
 induction a generalizing p q b with
 | nil=>simp [K4]
 | cons x a iha =>
  induction b generalizing p q with
  | nil=>simp [K4]
  | cons y b ihb =>
   unfold K4
   split
   ·have:=iha (p+1) (q+1) b;simp;omega
   ·split
    ·have:=iha (p+1) q (y::b);simp;omega
    ·exact ihb p (q+1)
universe u
theorem F39 {α:Type u} (n k:Nat) (f g:Nat→α) (v:α) (hv:k < n→g k=v) (h:∀q,q < n→q≠k→g q=f q):((List.range n).map f).set k v=(List.range n).map g:=by
 refine List.ext_getElem (by simp) fun q h1 h2=>?_
 have hq:q < n:=by simpa using h2
 rw [List.getElem_set]
 by_cases he:k=q
 ·subst he;simp [hv hq]
 ·rw [if_neg he];simp [h q hq (Ne.symm he)]
theorem I78 {α:Type u} (n k:Nat) (f:Nat→α) (h:k < n):((List.range n).map f)[k]?=some (f k):=by simp [h]
theorem B09 (i j:Int):S5 i j 0=[]:=rfl
theorem G01 (i j:Int) (n:Nat):S5 i j (n+1)=S5 i j n++[⟨i+n,j+n⟩]:=by simp [S5,K08]
def Asc (m n:Int):Int→Int→List Span→Prop
 | i,j,[]=>i≤m∧j≤n
 | i,j,x::r=>i≤x.From∧j≤x.To∧Asc m n (x.From+1) (x.To+1) r
theorem Asc.le {m n:Int}:∀{p:List Span} {i j:Int},Asc m n i j p→i≤m∧j≤n
 | [],i,j,h=>h
 | x::r,i,j,h=>by have:=Asc.le h.2.2;have:=h.1;have:=h.2.1;omega
theorem Asc.weaken {m n:Int} {p:List Span} {i j i' j':Int} (h:Asc m n i j p) (hi:i'≤i) (hj:j'≤j):Asc m n i' j' p:=by
 cases p with
 | nil=>exact ⟨by have:=h.1;omega,by have:=h.2;omega⟩
 | cons x r=>exact ⟨by have:=h.1;omega,by have:=h.2.1;omega,h.2.2⟩
theorem C32 (a b:List Int):∀(p q:Int),Asc (p+a.length) (q+b.length) p q (K4 p q a b):=by
 induction a generalizing b with
 | nil=>intro p q;rw [V1];simp only [Asc,J68];omega
 | cons x a iha =>
  induction b with
  | nil=>intro p q;rw [n9];simp only [Asc,J68];omega
  | cons y b ihb =>
   intro p q
   rw [K4]
   split
   ·have:=iha b (p+1) (q+1)
    refine ⟨Int.le_refl _,Int.le_refl _,?_⟩
    simp only [J64]
    rwa [show p+((a.length+1:Nat):Int)=p+1+a.length by omega,show q+((b.length+1:Nat):Int)=q+1+b.length by omega]
   ·split
    ·have:=(iha (y::b) (p+1) q).weaken (i':=p) (j':=q) (by omega) (Int.le_refl _)
     rwa [show p+((x::a).length:Int)=p+1+a.length by simp;omega]
    ·have:=(ihb p (q+1)).weaken (i':=p) (j':=q) (Int.le_refl _) (by omega)
     rwa [show q+((y::b).length:Int)=q+1+b.length by simp;omega]
theorem Asc.made {m n:Int}:∀{p:List Span} {i j:Int},Asc m n i j p→∀c∈V7 i j p m n,i≤c.Old∧j≤c.New∧0≤c.OldLen∧0≤c.NewLen∧c.Old+c.OldLen≤m∧c.New+c.NewLen≤n
 | [],i,j,h,c,hc=>by
  unfold V7 at hc
  split at hc
  ·simp only [List.mem_singleton] at hc;subst hc
   have:=h.1;have:=h.2
   simp only;omega
  ·cases hc
 | x::r,i,j,h,c,hc=>by
  unfold V7 at hc
  obtain ⟨h1,h2,h3⟩:=h
  have h4:=h3.le
  rcases List.mem_append.1 hc with hc | hc
  ·split at hc
   ·simp only [List.mem_singleton] at hc;subst hc
    simp only;omega
   ·cases hc
  ·have:=Asc.made h3 c hc;omega
theorem G02 (a b:List Int):∀c∈B60 a b,0≤c.Old∧0≤c.New∧0≤c.OldLen∧0≤c.NewLen∧c.Old+c.OldLen≤a.length∧c.New+c.NewLen≤b.length:=by
 have:=C32 a b 0 0
 rw [Int.zero_add,Int.zero_add] at this
 exact this.made
end Go.AL
namespace Go.AL
open Go
def bitAt (m:Int) (c:Nat):Bool:=m / 2 ^ c % 2 == 1
def visB (r:Row) (c:Int):Bool:=if c = -1 then !r.Lost else if c < -1∨32≤c then false else bitAt r.Marks c.toNat == r.Lost
def colOf (rows:List Row) (c:Int):List Str:=(rows.filter (visB · c)).map (·.Text)
def markOk (n:Nat) (r:Row):Bool:=r.Marks / 2 ^ n == 0&&!(r.Lost&&r.Marks == 0)
theorem u64_id {n:Int} (h:0≤n∧n < 18446744073709551616):IntKind.u64.wrap n=n:=by simp [IntKind.wrap,IntKind.signed,IntKind.bits];omega
end Go.AL
namespace Go.AL
open Go
abbrev Loom:=List Int × (Nat→List (List Int))
structure LoomOk (Q:Int→Prop) (B lines n:Nat) (s:Loom):Prop where
 len:s.1.length=lines
 marks:∀m∈s.1,0≤m∧m < 4294967296
 gaps:∀k,(s.2 k).length=n∧∀x∈s.2 k,x.length≤B∧∀v∈x,Q v
theorem E58 (l:List Str) (s:Str):∀k:Int,0≤k→s∈l→k≤L8 l s k∧L8 l s k < k+l.length:=by
 induction l with
 | nil=>intro k _ h;cases h
 | cons x r ih =>
  intro k hk h
  unfold L8
  by_cases hx:x=s
  ·rw [if_pos hx];simp;omega
  ·rw [if_neg hx]
   have:=ih (k+1) (by omega) (by rcases List.mem_cons.1 h with rfl | h;exact absurd rfl hx;exact h)
   simp only [J64];omega
theorem D81 (l:List Str):∀(out:List Str) (s:Str),s∈out∨s∈l→s∈l.foldl L9 out:=by
 induction l with
 | nil=>intro out s h;rcases h with h | h;exact h;cases h
 | cons x r ih =>
  intro out s h
  apply ih
  rcases h with h | h
  ·left;unfold L9;split;exact h;exact List.mem_append_left _ h
  ·rcases List.mem_cons.1 h with rfl | h
   ·left;unfold L9;split;assumption;simp
   ·exact .inr h
theorem D58 (fs:List (List Str)) (s:Str) (f:List Str) (hf:f∈fs) (hs:s∈f):s∈G9 fs:=D81 _ _ _ (.inr (List.mem_flatten.2 ⟨f,hf,hs⟩))
end Go.AL
namespace Go.AL
open Go
theorem C69 (s:Str):Lib.hasSuffix s [10]=ended s:=by
 unfold Lib.hasSuffix ended
 rw [Bool.eq_iff_iff,List.isSuffixOf_iff_suffix,beq_iff_eq]
 constructor
 ·rintro ⟨t,rfl⟩;simp
 ·intro h
  obtain ⟨hne,h2⟩:=List.getLast?_eq_some_iff.1 h
  exact ⟨hne,h2.symm⟩
def R4 (s:Str):Str:=if ended s then s.dropLast else s
theorem F03 (s:Str):Lib.trimSuffix s [10]=R4 s:=by
 unfold Lib.trimSuffix R4
 rw [C69,List.dropLast_eq_take];rfl
theorem Z5 (c:UInt8):∀l:Str,(c∉l∧Lib.indexByte l c = -1)∨∃a b,l=a++c::b∧c∉a∧Lib.indexByte l c=a.length
 | []=>.inl ⟨by simp,rfl⟩
 | x::l=>by
  unfold Lib.indexByte
  by_cases hx:x=c
  ·exact .inr ⟨[],l,by rw [hx];rfl,by simp,by simp [hx]⟩
  ·rcases Z5 c l with ⟨h1,h2⟩ | ⟨a,b,h1,h2,h3⟩
   ·exact .inl ⟨by simp [h1,Ne.symm hx],by simp [hx,h2]⟩
   ·refine .inr ⟨x::a,b,by rw [h1];rfl,by simp [h2,Ne.symm hx],?_⟩
    have h4:¬((a.length:Int) = -1):=by omega
    simp [hx,h3,h4]
theorem C09 (c:UInt8) (l:Str):0≤Lib.indexByte l c↔c∈l:=by
 rcases Z5 c l with ⟨h1,h2⟩ | ⟨a,b,h1,h2,h3⟩
 ·rw [h2];simp [h1]
 ·rw [h3,h1];simp
def and32 (a b:Int):Int:=IntKind.u32.wrap ((BitVec.ofInt IntKind.u32.bits a &&& BitVec.ofInt IntKind.u32.bits b).toNat:Int)
def not32 (a:Int):Int:=IntKind.u32.wrap ((BitVec.ofInt IntKind.u32.bits IntKind.u32.max ^^^ BitVec.ofInt IntKind.u32.bits a).toNat:Int)
def inOf (r:Row):Int:=if r.Lost then r.Marks else not32 r.Marks
def addOk (res:Bool) (par:Int) (r:Row):Bool:=decide (and32 par (inOf r)=0)&&(r.Lost||!res)
structure EndsAt (res:Bool) (par:Int) (bad:Int→Bool):Prop where
 res:res=bad (-1)
 par:∃p:Nat,p < 4294967296∧par=p∧∀c:Nat,c < 32→p.testBit c=bad c
end Go.AL
namespace Go.AL
open Go
def plainB (c:UInt8):Bool:=decide (33≤c.toNat∧c.toNat≤126∧c.toNat≠34∧c.toNat≠92)
def digs8:Str:=[48,49,50,51,52,53,54,55]
def octOf (c:UInt8):Str:=(digs8.drop (c.toNat / 64)).take 1++(digs8.drop (c.toNat / 8 % 8)).take 1++(digs8.drop (c.toNat % 8)).take 1
def escOf (c:UInt8):Str:=if c.toNat=34∨c.toNat=92 then [92,c] else if c.toNat=10 then [92,110] else if c.toNat=9 then [92,116] else if c.toNat < 32∨126 < c.toNat then 92::octOf c else [c]
def I17 (s:Str):Str:=if s≠[]∧s.all plainB=true then s else 34::((s.map escOf).flatten++[34])
def I18 (n:Int):Str:=if n < 0∨2147483647 < n then [] else Lib.itoa n
def I19 (a n:Int):Str:=if a < 0∨n < 0∨2147483647 < a∨2147483647 - a < n then [] else if n=0 then I18 a++[44,48] else if n=1 then I18 (a+1) else I18 (a+1)++[44]++I18 n
end Go.AL
namespace Go.AL
open Go
def N9 (cur:Str):Str→List Str
 | []=>[cur]
 | c::r=>if c=10 then (cur++[c])::N9 [] r else N9 (cur++[c]) r
def P8 (b:Str):List Str:=N9 [] b
theorem F04 (a cur:Str) (h:(10:UInt8)∉a):N9 cur a=[cur++a]:=by
 induction a generalizing cur with
 | nil=>simp [N9]
 | cons c r ih =>
  simp only [J88,not_or] at h
  rw [N9,if_neg (fun e=>h.1 e.symm),ih _ h.2];simp
theorem G03 (a b cur:Str) (h:(10:UInt8)∉a):N9 cur (a++10::b)=(cur++a++[10])::N9 [] b:=by
 induction a generalizing cur with
 | nil=>simp [N9]
 | cons c r ih =>
  simp only [J88,not_or] at h
  rw [J82,N9,if_neg (fun e=>h.1 e.symm),ih _ h.2];simp
theorem X5 (s cur:Str):(N9 cur s).length=s.count 10+1:=by
 induction s generalizing cur with
 | nil=>rfl
 | cons c r ih =>
  by_cases hc:c=10
  ·subst hc;rw [N9,if_pos rfl,J64,ih,List.count_cons_self]
  ·rw [N9,if_neg hc,ih,List.count_cons_of_ne hc]
theorem G88 (s cur:Str):I2 cur s=if (N9 cur s).getLastD []=[] then (N9 cur s).dropLast else N9 cur s:=by
 induction s generalizing cur with
 | nil=>by_cases h:cur=[]<;>simp [I2,N9,h]
 | cons c r ih =>
  rw [I2,N9]
  by_cases hc:c=10
  ·rw [if_pos hc,if_pos hc,ih]
   have hn:N9 [] r≠[]:=fun e=>by have:=X5 r [];rw [e] at this;simp at this
   obtain ⟨x,y,hxy⟩:=List.exists_cons_of_ne_nil hn
   rw [hxy]
   have e1:((cur++[c])::x::y).getLastD []=(x::y).getLastD []:=by cases y<;>simp [List.getLastD]
   rw [e1]
   split
   ·rfl
   ·rfl
  ·rw [if_neg hc,if_neg hc,ih]
theorem E59 (s cur:Str):(I2 cur s).length=s.count 10+if s=[] then (if cur=[] then 0 else 1) else if ended s=true then 0 else 1:=by
 induction s generalizing cur with
 | nil=>by_cases h:cur=[]<;>simp [I2,h]
 | cons c r ih =>
  have he:ended (c::r)=if r=[] then c == 10 else ended r:=by
   cases r with
   | nil=>simp [ended]
   | cons d t=>simp [ended,List.getLast?_cons_cons]
  rw [I2,if_neg (List.cons_ne_nil _ _),he]
  by_cases hc:c=10
  ·subst hc
   rw [if_pos rfl,J64,ih,List.count_cons_self]
   by_cases hr:r=[]<;>simp [hr]
   omega
  ·rw [if_neg hc,ih,List.count_cons_of_ne hc]
   by_cases hr:r=[]<;>simp [hr,hc]
theorem C10 (s:Str):(F8 s).length=s.count 10+if s≠[]∧ended s=false then 1 else 0:=by
 unfold F8
 rw [E59]
 by_cases hs:s=[]<;>simp [hs]
 cases ended s<;>simp
theorem H72 {P:List Str} {i:Nat} {r a b:Str} (h:P.drop i=P8 r) (hr:r=a++10::b) (ha:(10:UInt8)∉a):P[i]?=some (a++[10])∧P.drop (i+1)=P8 b:=by
 have e:P8 r=(a++[10])::P8 b:=by rw [hr];unfold P8;rw [G03 _ _ _ ha];rfl
 rw [e] at h
 refine ⟨by rw [←List.head?_drop,h];rfl,?_⟩
 rw [←List.tail_drop,h];rfl
theorem F40 {α:Type} (P:List α) (z x:α) (i:Nat) (h:P[i]?=some x):(P.take i++List.replicate (P.length - i) z).set i x=P.take (i+1)++List.replicate (P.length - (i+1)) z:=by
 obtain ⟨hi,hx⟩:=List.getElem?_eq_some_iff.1 h
 have hl:(P.take i).length=i:=by rw [J70];omega
 rw [List.set_append_right _ _ (by omega),hl,K06,show P.length - i=(P.length - (i+1))+1 by omega,List.replicate_succ,List.set_cons_zero,K00 hi,hx,J73]
 rfl
def Y4 (b:Str):List Str × Int:=if b.length > 1048576∨(F8 b).length > 4096 then ([],1) else (F8 b,0)
end Go.AL
namespace Go.AL
open Go
def L7 (n:Int):Prop:=0≤n∧n≤4096
instance (n:Int):Decidable (L7 n):=by unfold L7;exact inferInstance
def badC (k:Nat) (i j:Int) (c:Change):Prop:=((((((¬L7 c.Old∨¬L7 c.OldLen)∨¬L7 c.New)∨¬L7 c.NewLen)∨c.OldLen+c.NewLen=0)∨c.Old - i≠c.New - j)∨c.Old < i)∨(0 < (k:Int)∧c.Old=i)
instance (k:Nat) (i j:Int) (c:Change):Decidable (badC k i j c):=by unfold badC;exact inferInstance
def M5 (k:Nat) (i j:Int):List Change→Int→Int→Bool
 | [],m,n=>decide (¬(m - i≠n - j∨m < i))
 | c::r,m,n=>decide (¬badC k i j c)&&M5 (k+1) (c.Old+c.OldLen) (c.New+c.NewLen) r m n
def check8 (l:List Change) (m n:Int):Int:=if ¬L7 m∨¬L7 n then 80 else if M5 0 0 0 l m n=true then 0 else 80
def ScOk (i j:Int):List Change→Int→Int→Prop
 | [],m,n=>i≤m∧j≤n
 | c::r,m,n=>L7 c.Old∧L7 c.OldLen∧L7 c.New∧L7 c.NewLen∧i≤c.Old∧j≤c.New∧ScOk (c.Old+c.OldLen) (c.New+c.NewLen) r m n
theorem B61:∀(l:List Change) (k:Nat) (i j m n:Int),M5 k i j l m n=true→ScOk i j l m n
 | [],k,i,j,m,n,h=>by simp only [M5,decide_eq_true_eq] at h;simp only [ScOk];omega
 | c::r,k,i,j,m,n,h=>by
  simp only [M5,J61,decide_eq_true_eq] at h
  obtain ⟨h1,h2⟩:=h
  unfold badC at h1
  refine ⟨?_,?_,?_,?_,?_,?_,B61 r _ _ _ m n h2⟩
  all_goals (by_cases a1:L7 c.Old<;>by_cases a2:L7 c.OldLen<;>by_cases a3:L7 c.New<;>by_cases a4:L7 c.NewLen<;>simp [a1,a2,a3,a4] at h1 ⊢<;>omega)
def cAt (l:List Change) (k:Nat):Change:=l.getD k ⟨0,0,0,0⟩
theorem ScOk.end_le:∀{l:List Change} {i j m n:Int},ScOk i j l m n→i≤m∧j≤n
 | [],_,_,_,_,h=>h
 | c::r,i,j,m,n,⟨h1,h2,h3,h4,h5,h6,h7⟩=>by have:=h7.end_le;unfold L7 at *;omega
theorem ScOk.get:∀{l:List Change} {i j m n:Int} (k:Nat),ScOk i j l m n→k < l.length→L7 (cAt l k).Old∧L7 (cAt l k).OldLen∧L7 (cAt l k).New∧L7 (cAt l k).NewLen∧(cAt l k).Old+(cAt l k).OldLen≤m∧(cAt l k).New+(cAt l k).NewLen≤n
 | c::r,i,j,m,n,0,⟨h1,h2,h3,h4,h5,h6,h7⟩,_=>by have:=h7.end_le;exact ⟨h1,h2,h3,h4,this.1,this.2⟩
 | c::r,i,j,m,n,k+1,⟨h1,h2,h3,h4,h5,h6,h7⟩,hk=>by
  have:=h7.get k (by simpa using hk)
  simpa [cAt] using this
theorem ScOk.next:∀{l:List Change} {i j m n:Int} (k:Nat),ScOk i j l m n→k+1 < l.length→(cAt l k).Old+(cAt l k).OldLen≤(cAt l (k+1)).Old
 | [c],_,_,_,_,_,_,hk=>by simp at hk
 | c::c2::r,i,j,m,n,0,⟨_,_,_,_,_,_,h7⟩,_=>by simpa [cAt] using h7.2.2.2.2.1
 | c::c2::r,i,j,m,n,k+1,⟨_,_,_,_,_,_,h7⟩,hk=>by
  have:=h7.next k (by simpa using hk)
  simpa [cAt] using this
theorem ScOk.mono {l:List Change} {m n:Int} (h:ScOk 0 0 l m n):∀(a b:Nat),a≤b→b < l.length→(cAt l a).Old≤(cAt l b).Old∧(cAt l a).Old+(cAt l a).OldLen≤(cAt l b).Old+(cAt l b).OldLen
 | a,0,h1,h2=>by rw [show a=0 by omega];omega
 | a,b+1,h1,h2=>by
  by_cases hab:a=b+1
  ·subst hab;omega
  ·have h3:=h.mono a b (by omega) (by omega)
   have h4:=h.next b h2
   have h5:=h.get b (by omega)
   have h6:=h.get (b+1) h2
   unfold L7 at *;omega
def G04 (a b:Int):Int:=if b < a then b else a
def opens (l:List Change) (ctx:Int) (k:Nat):Prop:=k=0∨2*ctx < (cAt l k).Old - (cAt l (k - 1)).Old - (cAt l (k - 1)).OldLen
instance (l:List Change) (ctx:Int) (k:Nat):Decidable (opens l ctx k):=by unfold opens;exact inferInstance
def I20:Hunk:=⟨0,0,⟨0,0⟩,⟨0,0⟩⟩
def A85 (l:List Change) (ctx:Int) (k:Nat):Hunk:=⟨k,0,⟨(cAt l k).Old - G04 ctx (cAt l k).Old,0⟩,⟨(cAt l k).New - G04 ctx (cAt l k).Old,0⟩⟩
def C70 (l:List Change) (m ctx:Int) (k:Nat) (h:Hunk):Hunk :=
 let c:=cAt l k
 let a:=G04 ctx (m - (c.Old+c.OldLen))
 ⟨h.First,k+1,⟨h.Old.From,c.Old+c.OldLen+a⟩,⟨h.New.From,c.New+c.NewLen+a⟩⟩
def D18 (l:List Change) (ctx:Int) (k:Nat) (out:List Hunk):List Hunk:=if opens l ctx k then out++[A85 l ctx k] else out
def W5 (l:List Change) (m ctx:Int):Nat→List Hunk
 | 0=>[]
 | k+1=>let out:=D18 l ctx k (W5 l m ctx k);out.set (out.length - 1) (C70 l m ctx k (out.getD (out.length - 1) I20))
theorem D59 (l:List Change) (m ctx:Int):∀k,(W5 l m ctx k).length≤k∧(0 < k→0 < (W5 l m ctx k).length)
 | 0=>by simp [W5]
 | k+1=>by
  have h:=D59 l m ctx k
  simp only [W5,J83,D18]
  split
  ·simp only [J63,J64,J68];omega
  ·rename_i ho
   have:k≠0:=fun e=>ho (.inl e)
   omega
end Go.AL
namespace Go.AL
open Go
def nameOk (s:Str):Bool:=decide (1≤s.length∧s.length≤200)
def H6 (ls:List PatchLine) (k:UInt8):List Str:=(ls.filter (fun x=>decide (x.Kind≠k))).map (·.Text)
def badLn (x:PatchLine):Prop:=((x.Kind≠32∧x.Kind≠45)∧x.Kind≠43)∨a7 x.Text=false
instance (x:PatchLine):Decidable (badLn x):=by unfold badLn;exact inferInstance
def C33 (x:PatchLine):Bool:=decide (¬badLn x)
def A67 (ls:List PatchLine):Bool:=ls.any (fun x=>decide (x.Kind≠32))
def C71 (some:Bool) (i j:Int) (h:PatchHunk):Prop:=((((some=false∨h.Old < i)∨h.New < j)∨4096 < h.Old)∨4096 < h.New)∨h.Old - i≠h.New - j
instance (s:Bool) (i j:Int) (h:PatchHunk):Decidable (C71 s i j h):=by unfold C71;exact inferInstance
def B87 (h:PatchHunk):Int:=(H6 h.Lines 43).length
def B88 (h:PatchHunk):Int:=(H6 h.Lines 45).length
def D19 (i j:Int):List PatchHunk→Bool
 | []=>true
 | h::r=>h.Lines.all C33&&(decide (¬C71 (A67 h.Lines) i j h)&&(decide (¬(4096 < h.Old+B87 h∨4096 < h.New+B88 h))&&D19 (h.Old+B87 h) (h.New+B88 h) r))
def N0 (hs:List PatchHunk) (k:UInt8):List Str:=(hs.map (fun h=>H6 h.Lines k)).flatten
def v7:List Str→Bool
 | []=>true
 | x::r=>(r.isEmpty||ended x)&&v7 r
def H73 (hs:List PatchHunk) (k:UInt8):Bool:=v7 (N0 hs k)
def D20 (hs:List PatchHunk):Bool:=D19 0 0 hs&&(H73 hs 43&&H73 hs 45)
def markS:Str:=[10,92,32,78,111,32,110,101,119,108,105,110,101,32,97,116,32,101,110,100,32,111,102,32,102,105,108,101,10]
def linePs (x:PatchLine):List Str:=if ended x.Text then [[x.Kind]++x.Text] else [[x.Kind]++x.Text,markS]
def headW (h:PatchHunk):Str:=[64,64,32,45]++I19 h.Old (B87 h)++[32,43]++I19 h.New (B88 h)++[32,64,64,10]
def hunkPs (h:PatchHunk):List Str:=headW h::(h.Lines.map linePs).flatten
def namePs (p:Patch):List Str:=[[45,45,45,32]++I17 p.OldName++[10],[43,43,43,32]++I17 p.NewName++[10]]
def writePs (p:Patch):List Str:=namePs p++(p.Hunks.map hunkPs).flatten
def I21 (p:Patch):Str:=(writePs p).flatten
def C72 (p:Patch):Int:=if nameOk p.OldName=false∨nameOk p.NewName=false then 120 else if D20 p.Hunks=false then 121 else if 16777216 < (I21 p).length then 1 else 0
def szL (x:PatchLine):Nat:=x.Text.length+64
def szH (h:PatchHunk):Nat:=64+(h.Lines.map szL).sum
def szP (hs:List PatchHunk):Nat:=(hs.map szH).sum
structure PFit (p:Patch):Prop where
 old:p.OldName.length≤4194304
 new:p.NewName.length≤4194304
 hunks:szP p.Hunks≤268435456
theorem szL_len (ls:List PatchLine):64*ls.length≤(ls.map szL).sum:=by
 induction ls with
 | nil=>simp
 | cons x r ih=>simp only [J77,K10,J64,szL];omega
end Go.AL
namespace Go.AL
open Go
def A45 (k:UInt8) (ts:List Str):List PatchLine:=ts.map fun t=>⟨k,t⟩
def sub (x:List Str) (a b:Int):List Str:=(x.drop a.toNat).take (b.toNat - a.toNat)
def v8 (c:Change):Int:=c.Old+c.OldLen
def A46 (l:List Change) (i0:Int) (a t:Nat):Int:=if t=0 then i0 else v8 (cAt l (a+t - 1))
theorem H74 (l:List Change) (i0:Int) (a t:Nat):A46 l i0 a (t+1)=v8 (cAt l (a+t)):=by
 unfold A46;rw [if_neg (by omega)];congr 2
def x4 (l:List Change) (x y:List Str) (i0:Int) (a:Nat):Nat→List PatchLine
 | 0=>[]
 | t+1=>x4 l x y i0 a t++A45 32 (sub x (A46 l i0 a t) (cAt l (a+t)).Old)++A45 45 (sub x (cAt l (a+t)).Old (v8 (cAt l (a+t))))++A45 43 (sub y (cAt l (a+t)).New ((cAt l (a+t)).New+(cAt l (a+t)).NewLen))
def Z6 (l:List Change) (x y:List Str) (h:Hunk):PatchHunk :=
 ⟨h.Old.From,h.New.From,x4 l x y h.Old.From h.First.toNat (h.Last.toNat - h.First.toNat)++A45 32 (sub x (A46 l h.Old.From h.First.toNat (h.Last.toNat - h.First.toNat)) h.Old.To)⟩
def E60 (x y:List Str):List Change:=B60 (L5 (G9 [x,y]) x) (L5 (G9 [x,y]) y)
end Go.AL
namespace Go.AL
open Go
end Go.AL
namespace Go.AL
open Go
def G89 (i j:Int) (h:PatchHunk):Prop:=((((h.Old < 0∨h.New < 0)∨4096 < h.Old)∨4096 < h.New)∨h.Old < i)∨h.Old - i≠h.New - j
instance (i j:Int) (h:PatchHunk):Decidable (G89 i j h):=by unfold G89;exact inferInstance
end Go.AL
namespace Go.AL
open Go
theorem C73 (b s:Str) (h:s∈F8 b):s.length≤b.length:=by
 have h1:(F8 b).flatten=b:=by
  have key:∀(s cur:Str),(I2 cur s).flatten=cur++s:=by
   intro s
   induction s with
   | nil=>intro cur;unfold I2;split<;>simp [*]
   | cons c r ih=>intro cur;unfold I2;split<;>simp [ih]
  exact key b []
 have h2:∀(l:List Str),s∈l→s.length≤l.flatten.length:=by
  intro l
  induction l with
  | nil=>intro h;cases h
  | cons x r ih =>
   intro h
   rcases List.mem_cons.1 h with rfl | h
   ·simp
   ·have:=ih h;simp only [J92,J63];omega
 have:=h2 _ h;rw [h1] at this;exact this
end Go.AL
namespace Go.AL
open Go
theorem D91 {x:List Str} {a b:Int} {s:Str} (h:s∈sub x a b):s∈x:=by
 unfold sub at h
 exact List.mem_of_mem_drop (List.mem_of_mem_take h)
end Go.AL
namespace Go.AL
open Go
def B62 (c:Change):Int:=c.New+c.NewLen
def eoI (i:Int) (l:List Change) (k:Nat):Int:=if k=0 then i else v8 (cAt l (k - 1))
def enI (j:Int) (l:List Change) (k:Nat):Int:=if k=0 then j else B62 (cAt l (k - 1))
theorem w7 (i:Int) (c:Change) (r:List Change) (k:Nat):eoI i (c::r) (k+1)=eoI (v8 c) r k:=by
 cases k<;>rfl
theorem w8 (j:Int) (c:Change) (r:List Change) (k:Nat):enI j (c::r) (k+1)=enI (B62 c) r k:=by
 cases k<;>rfl
theorem B63 (i:Int) (l:List Change) (k:Nat):eoI i l (k+1)=v8 (cAt l k):=rfl
theorem B64 (j:Int) (l:List Change) (k:Nat):enI j l (k+1)=B62 (cAt l k):=rfl
theorem C74 (c:Change) (r:List Change) (k:Nat):cAt (c::r) (k+1)=cAt r k:=rfl
def B10 (x y:List Str) (i j:Int):List Change→Prop
 | []=>sub x i x.length=sub y j y.length
 | c::r=>sub x i c.Old=sub y j c.New∧B10 x y (v8 c) (B62 c) r
theorem A16 (m n:Int):∀(l:List Change) (k0:Nat) (i j:Int),M5 k0 i j l m n=true→∀k,k < l.length →
  L7 (cAt l k).Old∧L7 (cAt l k).OldLen∧L7 (cAt l k).New∧L7 (cAt l k).NewLen∧(cAt l k).OldLen+(cAt l k).NewLen≠0∧(cAt l k).Old - eoI i l k=(cAt l k).New - enI j l k∧eoI i l k≤(cAt l k).Old∧(0 < k0+k→eoI i l k < (cAt l k).Old)
 | [],_,_,_,_,k,hk=>by simp at hk
 | c :: r,k0,i,j,h,k,hk=>by
  simp only [M5,J61,decide_eq_true_eq] at h
  obtain ⟨h1,h2⟩:=h
  cases k with
  | zero =>
   unfold badC at h1
   show L7 c.Old∧L7 c.OldLen∧L7 c.New∧L7 c.NewLen∧c.OldLen+c.NewLen≠0∧c.Old - i=c.New - j∧i≤c.Old∧(0 < k0+0→i < c.Old)
   have d1:L7 c.Old:=by by_cases q:L7 c.Old;exact q;exact absurd (.inl (.inl (.inl (.inl (.inl (.inl (.inl q))))))) h1
   have d2:L7 c.OldLen:=by by_cases q:L7 c.OldLen;exact q;exact absurd (.inl (.inl (.inl (.inl (.inl (.inl (.inr q))))))) h1
   have d3:L7 c.New:=by by_cases q:L7 c.New;exact q;exact absurd (.inl (.inl (.inl (.inl (.inl (.inr q)))))) h1
   have d4:L7 c.NewLen:=by by_cases q:L7 c.NewLen;exact q;exact absurd (.inl (.inl (.inl (.inl (.inr q))))) h1
   refine ⟨d1,d2,d3,d4,fun q=>h1 (.inl (.inl (.inl (.inr q)))),?_,?_,fun h0=>?_⟩
   ·by_cases q:c.Old - i=c.New - j
    ·exact q
    ·exact absurd (.inl (.inl (.inr q))) h1
   ·by_cases q:c.Old < i
    ·exact absurd (.inl (.inr q)) h1
    ·omega
   ·by_cases q:c.Old < i
    ·exact absurd (.inl (.inr q)) h1
    ·by_cases q2:c.Old=i
     ·exact absurd (.inr ⟨by omega,q2⟩) h1
     ·omega
  | succ k =>
   have:=A16 m n r (k0+1) _ _ h2 k (by simpa using hk)
   rw [C74,w7,w8]
   obtain ⟨e1,e2,e3,e4,e5,e6,e7,e8⟩:=this
   exact ⟨e1,e2,e3,e4,e5,e6,e7,fun h0=>e8 (by omega)⟩
theorem H75 (m n:Int):∀(l:List Change) (k0:Nat) (i j:Int),M5 k0 i j l m n=true→m - eoI i l l.length=n - enI j l l.length∧eoI i l l.length≤m
 | [],_,i,j,h=>by
  simp only [M5,decide_eq_true_eq] at h
  show m - i=n - j∧i≤m
  omega
 | c::r,k0,i,j,h=>by
  simp only [M5,J61,decide_eq_true_eq] at h
  rw [J64,w7,w8]
  exact H75 m n r _ _ _ h.2
theorem G05 (x y:List Str):∀(l:List Change) (i j:Int),B10 x y i j l→∀k,k < l.length→sub x (eoI i l k) (cAt l k).Old=sub y (enI j l k) (cAt l k).New
 | [],_,_,_,k,hk=>by simp at hk
 | c::r,i,j,h,k,hk=>by
  cases k with
  | zero=>exact h.1
  | succ k=>rw [w7,w8,C74];exact G05 x y r _ _ h.2 k (by simpa using hk)
theorem H76 (x y:List Str):∀(l:List Change) (i j:Int),B10 x y i j l→sub x (eoI i l l.length) x.length=sub y (enI j l l.length) y.length
 | [],_,_,h=>h
 | c::r,i,j,h=>by rw [J64,w7,w8];exact H76 x y r _ _ h.2
def mkH (l:List Change) (m ctx:Int) (a b:Nat):Hunk:=C70 l m ctx (b - 1) (A85 l ctx a)
def GrOk (l:List Change) (m ctx:Int):Nat→List Hunk→Nat→Prop
 | a,[],k=>a=k
 | a,h::r,k=>∃b,a < b∧opens l ctx a∧h=mkH l m ctx a b∧GrOk l m ctx b r k
theorem GrOk.le {l:List Change} {m ctx:Int}:∀{hs:List Hunk} {a k:Nat},GrOk l m ctx a hs k→a≤k
 | [],a,k,h=>Nat.le_of_eq h
 | _::_,a,k,⟨b,h1,_,_,h2⟩=>by have:=GrOk.le h2;omega
theorem GrOk.snoc {l:List Change} {m ctx:Int} {k:Nat} (ho:opens l ctx k):∀{hs:List Hunk} {a:Nat},GrOk l m ctx a hs k→GrOk l m ctx a (hs++[mkH l m ctx k (k+1)]) (k+1)
 | [],a,h=>by
  obtain rfl:a=k:=h
  exact ⟨a+1,by omega,ho,rfl,rfl⟩
 | _::_,a,⟨b,h1,h2,h3,h4⟩=>⟨b,h1,h2,h3,GrOk.snoc ho h4⟩
theorem GrOk.last {l:List Change} {m ctx:Int} {k:Nat}:∀{hs:List Hunk} {a:Nat},GrOk l m ctx a hs k→hs≠[]→GrOk l m ctx a (hs.set (hs.length - 1) (C70 l m ctx k (hs.getD (hs.length - 1) I20))) (k+1)
 | [],_,_,h0=>absurd rfl h0
 | [h],a,⟨b,h1,h2,h3,h4⟩,_=>by
  obtain rfl:b=k:=h4
  subst h3
  exact ⟨b+1,by omega,h2,rfl,rfl⟩
 | h::h'::r,a,⟨b,h1,h2,h3,h4⟩,_=>by
  have ih:=GrOk.last h4 (by simp)
  refine ⟨b,h1,h2,h3,?_⟩
  simpa using ih
theorem B11 (l:List Change) (m ctx:Int):∀k,GrOk l m ctx 0 (W5 l m ctx k) k
 | 0=>rfl
 | k+1=>by
  have ih:=B11 l m ctx k
  have hne:=(D59 l m ctx k).2
  simp only [W5,D18]
  by_cases ho:opens l ctx k
  ·rw [if_pos ho]
   have e:(W5 l m ctx k++[A85 l ctx k]).set ((W5 l m ctx k++[A85 l ctx k]).length - 1) (C70 l m ctx k ((W5 l m ctx k++[A85 l ctx k]).getD ((W5 l m ctx k++[A85 l ctx k]).length - 1) I20))=W5 l m ctx k++[mkH l m ctx k (k+1)]:=by
    simp [mkH]
   rw [e]
   exact ih.snoc ho
  ·rw [if_neg ho]
   refine ih.last ?_
   have:k≠0:=fun e=>ho (.inl e)
   have:=hne (by omega)
   intro e;rw [e] at this;simp at this
theorem j7 (x:List Str) {a b c:Int} (h0:0≤a) (h1:a≤b) (h2:b≤c):sub x a b++sub x b c=sub x a c:=by
 unfold sub
 obtain ⟨u,rfl⟩:∃u:Nat,(u:Int)=a:=⟨a.toNat,by omega⟩
 obtain ⟨v,rfl⟩:∃v:Nat,(v:Int)=b:=⟨b.toNat,by omega⟩
 obtain ⟨w,rfl⟩:∃w:Nat,(w:Int)=c:=⟨c.toNat,by omega⟩
 simp only [J62]
 have h3:x.drop v=(x.drop u).drop (v - u):=by rw [List.drop_drop];congr 1;omega
 rw [h3,show w - u=(v - u)+(w - v) by omega,List.take_add]
theorem A47 (x:List Str) (a:Int):sub x a a=[]:=by simp [sub]
theorem B12 (x:List Str) {a b:Int} (h0:0≤a) (h1:a≤b) (h2:b≤x.length):((sub x a b).length:Int)=b - a:=by
 unfold sub;rw [J70,J76];omega
theorem E61 {x y:List Str} {p q p' q' e:Int} (h:sub x p q=sub y p' q') (h0:0≤p) (h0':0≤p') (he:0≤e) (h1:e≤q - p) (h2:q - p=q' - p'):sub x (q - e) q=sub y (q' - e) q':=by
 have key:∀(z:List Str) (a b:Int),0≤a→e≤b - a→sub z (b - e) b=(sub z a b).drop (b - a - e).toNat:=by
  intro z a b ha hb
  unfold sub
  rw [List.drop_take,List.drop_drop]
  congr 1
  ·omega
  ·congr 1;omega
 rw [key x p q h0 h1,key y p' q' h0' (by omega),h,h2]
theorem G90 {x y:List Str} {p q p' q' e:Int} (h:sub x p q=sub y p' q') (h0:0≤p) (h0':0≤p') (he:0≤e) (h1:e≤q - p) (h2:q - p=q' - p'):sub x p (p+e)=sub y p' (p'+e):=by
 have key:∀(z:List Str) (a b:Int),0≤a→e≤b - a→sub z a (a+e)=(sub z a b).take e.toNat:=by
  intro z a b ha hb
  unfold sub
  rw [List.take_take]
  congr 1
  omega
 rw [key x p q h0 h1,key y p' q' h0' (by omega),h]
theorem B13 (p q:List PatchLine) (k:UInt8):H6 (p++q) k=H6 p k++H6 q k:=by simp [H6]
theorem B14 (k k':UInt8) (ts:List Str):H6 (A45 k ts) k'=if k=k' then [] else ts:=by
 unfold H6 A45
 by_cases h:k=k'
 ·rw [if_pos h];subst h
  simp [List.filter_eq_nil_iff]
 ·rw [if_neg h]
  rw [List.filter_eq_self.2 (by simp [h])]
  simp [Function.comp_def]
structure ScFit (x y:List Str) (l:List Change):Prop where
 lx:(x.length:Int)≤4096
 ly:(y.length:Int)≤4096
 sc:M5 0 0 0 l x.length y.length=true
 eq:B10 x y 0 0 l
section
variable {x y:List Str} {l:List Change}
theorem ScFit.ok (h:ScFit x y l):ScOk 0 0 l x.length y.length:=B61 _ _ _ _ _ _ h.sc
theorem ScFit.check (h:ScFit x y l):check8 l x.length y.length=0:=by
 have h1:=h.lx
 have h2:=h.ly
 unfold check8
 rw [if_neg (by unfold L7;omega),if_pos h.sc]
theorem ScFit.nn (h:ScFit x y l) (k:Nat) (hk:k≤l.length):0≤eoI 0 l k∧0≤enI 0 l k∧eoI 0 l k≤x.length∧enI 0 l k≤y.length:=by
 cases k with
 | zero=>exact ⟨Int.le_refl _,Int.le_refl _,Int.natCast_nonneg _,Int.natCast_nonneg _⟩
 | succ k =>
  obtain ⟨⟨a1,a2⟩,⟨b1,b2⟩,⟨c1,c2⟩,⟨d1,d2⟩,h5,h6⟩:=h.ok.get k (by omega)
  rw [B63,B64];unfold v8 B62
  omega
def eA (l:List Change) (ctx:Int) (a:Nat):Int:=G04 ctx (cAt l a).Old
def eB (l:List Change) (m ctx:Int) (b:Nat):Int:=G04 ctx (m - eoI 0 l b)
theorem I22 {a b:Int} (h:0≤a) (h':0≤b):0≤G04 a b∧G04 a b≤a∧G04 a b≤b:=by unfold G04;split<;>omega
theorem D21 {ctx:Int} {a:Nat} (ho:opens l ctx a) (ha:a≠0):2*ctx < (cAt l a).Old - eoI 0 l a:=by
 rcases ho with h | h
 ·exact absurd h ha
 ·unfold eoI;rw [if_neg ha];unfold v8;omega
theorem ScFit.before (h:ScFit x y l) {ctx:Int} (hc:0≤ctx) {a:Nat} (ha:a < l.length) (ho:opens l ctx a) :
  0≤eA l ctx a∧eA l ctx a≤ctx∧eA l ctx a≤(cAt l a).Old - eoI 0 l a:=by
 obtain ⟨⟨a1,a2⟩,_⟩:=h.ok.get a ha
 have h3:=I22 hc a1
 unfold eA
 by_cases h0:a=0
 ·subst h0
  show _∧_∧_≤(cAt l 0).Old - 0
  omega
 ·have:=D21 ho h0;omega
theorem ScFit.after (h:ScFit x y l) {ctx:Int} (hc:0≤ctx) {b:Nat} (hb:b≤l.length) (ho:b < l.length→opens l ctx b) (hb0:b≠0) :
  0≤eB l x.length ctx b∧eB l x.length ctx b≤ctx∧eoI 0 l b+eB l x.length ctx b≤x.length∧enI 0 l b+eB l x.length ctx b≤y.length ∧
   sub x (eoI 0 l b) (eoI 0 l b+eB l x.length ctx b)=sub y (enI 0 l b) (enI 0 l b+eB l x.length ctx b):=by
 obtain ⟨h1,h2,h3,h4⟩:=h.nn b hb
 have h5:=I22 hc (show 0≤(x.length:Int) - eoI 0 l b by omega)
 unfold eB
 rcases Nat.lt_or_ge b l.length with hlt | hge
 ·obtain ⟨g1,g2,g3,g4,g5,g6,g7,g8⟩:=A16 _ _ _ _ _ _ h.sc b hlt
  obtain ⟨⟨a1,a2⟩,⟨b1,b2⟩,⟨c1,c2⟩,⟨d1,d2⟩,k5,k6⟩:=h.ok.get b hlt
  have hg:=D21 (ho hlt) hb0
  refine ⟨h5.1,h5.2.1,by omega,by omega,G90 (G05 x y l 0 0 h.eq b hlt) h1 h2 h5.1 (by omega) (by omega)⟩
 ·have e:b=l.length:=by omega
  subst e
  obtain ⟨g1,g2⟩:=H75 _ _ _ _ _ _ h.sc
  refine ⟨h5.1,h5.2.1,by omega,by omega,G90 (H76 x y l 0 0 h.eq) h1 h2 h5.1 (by omega) (by omega)⟩
def G06 (l:List Change) (j0:Int) (a t:Nat):Int:=if t=0 then j0 else B62 (cAt l (a+t - 1))
theorem E62 (i0:Int) (a t:Nat) (ht:t≠0):A46 l i0 a t=eoI 0 l (a+t):=by
 unfold A46 eoI;rw [if_neg ht,if_neg (by omega)]
theorem I23 (j0:Int) (a t:Nat) (ht:t≠0):G06 l j0 a t=enI 0 l (a+t):=by
 unfold G06 enI;rw [if_neg ht,if_neg (by omega)]
theorem ScFit.made (h:ScFit x y l) {ctx:Int} (hc:0≤ctx) {a:Nat} (ho:opens l ctx a):∀t,a+t≤l.length→(t=0→a < l.length) →
  H6 (x4 l x y ((cAt l a).Old - eA l ctx a) a t) 43=sub x ((cAt l a).Old - eA l ctx a) (A46 l ((cAt l a).Old - eA l ctx a) a t) ∧
  H6 (x4 l x y ((cAt l a).Old - eA l ctx a) a t) 45=sub y ((cAt l a).New - eA l ctx a) (G06 l ((cAt l a).New - eA l ctx a) a t)
 | 0,_,_=>by
  unfold A46 G06
  rw [if_pos rfl,if_pos rfl,A47,A47]
  exact ⟨rfl,rfl⟩
 | t + 1,hl,_=>by
  have hlt:a+t < l.length:=by omega
  have hla:a < l.length:=by omega
  obtain ⟨ih1,ih2⟩:=ScFit.made h hc ho t (by omega) (fun _=>hla)
  obtain ⟨q1,q2,q3⟩:=h.before hc hla ho
  obtain ⟨p1,p2,p3,p4⟩:=h.nn (a+t) (by omega)
  obtain ⟨r1,r2,r3,r4⟩:=h.nn a (by omega)
  obtain ⟨g1,g2,g3,g4,g5,g6,g7,g8⟩:=A16 _ _ _ _ _ _ h.sc (a+t) hlt
  obtain ⟨k1,⟨k2,k2'⟩,k3,⟨k4,k4'⟩,k5,k6,k7,k8⟩:=A16 _ _ _ _ _ _ h.sc a hla
  obtain ⟨⟨a1,a2⟩,⟨b1,b2⟩,⟨c1,c2⟩,⟨d1,d2⟩,w5,w6⟩:=h.ok.get (a+t) hlt
  have hrun:sub x (A46 l ((cAt l a).Old - eA l ctx a) a t) (cAt l (a+t)).Old=sub y (G06 l ((cAt l a).New - eA l ctx a) a t) (cAt l (a+t)).New ∧
    (cAt l a).Old - eA l ctx a≤A46 l ((cAt l a).Old - eA l ctx a) a t∧A46 l ((cAt l a).Old - eA l ctx a) a t≤(cAt l (a+t)).Old ∧
    (cAt l a).New - eA l ctx a≤G06 l ((cAt l a).New - eA l ctx a) a t∧G06 l ((cAt l a).New - eA l ctx a) a t≤(cAt l (a+t)).New:=by
   have hrun:=G05 x y l 0 0 h.eq (a+t) hlt
   by_cases ht:t=0
   ·subst ht
    unfold A46 G06
    rw [if_pos rfl,if_pos rfl]
    rw [show a+0=a from rfl] at *
    exact ⟨E61 hrun r1 r2 q1 (by omega) (by omega),by omega,by omega,by omega,by omega⟩
   ·rw [E62 _ _ _ ht,I23 _ _ _ ht]
    have m1:=h.ok.mono a (a+t - 1) (by omega) (by omega)
    have m2:eoI 0 l (a+t)=(cAt l (a+t - 1)).Old+(cAt l (a+t - 1)).OldLen:=by unfold eoI;rw [if_neg (by omega)];rfl
    have m4:∀u,u≤t→(cAt l a).New≤enI 0 l (a+u)∨u=0:=by
     intro u
     induction u with
     | zero=>exact fun _=>.inr rfl
     | succ u ihu =>
      intro hu
      obtain ⟨e1,e2,⟨e3,e3'⟩,⟨e4,e4'⟩,e5,e6,e7,e8⟩:=A16 _ _ _ _ _ _ h.sc (a+u) (by omega)
      have e9:enI 0 l (a+(u+1))=(cAt l (a+u)).New+(cAt l (a+u)).NewLen:=rfl
      rcases ihu (by omega) with h' | h'
      ·left;omega
      ·left;subst h';rw [e9];show (cAt l a).New≤(cAt l a).New+(cAt l a).NewLen;exact Int.le_add_of_nonneg_right e4
    have m5:=(m4 t (Nat.le_refl _)).resolve_right ht
    refine ⟨hrun,by omega,by omega,by omega,by omega⟩
  obtain ⟨hr1,hr2,hr3,hr4,hr5⟩:=hrun
  simp (decide:=true) only [x4,B13,B14,ih1,ih2,if_true,if_false,J87]
  have e1:A46 l ((cAt l a).Old - eA l ctx a) a (t+1)=v8 (cAt l (a+t)):=H74 _ _ _ _
  have e2:G06 l ((cAt l a).New - eA l ctx a) a (t+1)=B62 (cAt l (a+t)):=rfl
  rw [e1,e2]
  have s0:0≤(cAt l a).Old - eA l ctx a:=by omega
  have s1:0≤(cAt l a).New - eA l ctx a:=by omega
  refine ⟨?_,?_⟩
  ·rw [j7 x s0 hr2 hr3,j7 x s0 (by omega) (by unfold v8;omega)]
  ·rw [hr1,j7 y s1 hr4 hr5]
   exact j7 y s1 (by omega) (by omega)
end
end Go.AL
namespace Go.AL
open Go
section
variable {x y:List Str} {l:List Change}
structure HunkIs (x y:List Str) (l:List Change) (ctx:Int) (a b:Nat) (h:PatchHunk):Prop where
 old:h.Old=(cAt l a).Old - eA l ctx a
 new:h.New=(cAt l a).New - eA l ctx a
 o0:0≤h.Old
 n0:0≤h.New
 oe:h.Old+B87 h=eoI 0 l b+eB l x.length ctx b
 ne:h.New+B88 h=enI 0 l b+eB l x.length ctx b
 ox:h.Old+B87 h≤x.length
 ny:h.New+B88 h≤y.length
 ol:H6 h.Lines 43=sub x h.Old (h.Old+B87 h)
 nl:H6 h.Lines 45=sub y h.New (h.New+B88 h)
 ch:A67 h.Lines=true
 gl:(∀s∈x,a7 s=true)→(∀s∈y,a7 s=true)→h.Lines.all C33=true
theorem E63 (p q:List PatchLine):A67 (p++q)=(A67 p||A67 q):=by simp [A67]
theorem E64 {k:UInt8} {ts:List Str} (hk:k≠32) (h:ts≠[]):A67 (A45 k ts)=true:=by
 cases ts with
 | nil=>exact absurd rfl h
 | cons t ts=>simp [A67,A45,hk]
theorem B15 {k:UInt8} {ts:List Str} (hk:k=32∨k=45∨k=43) (h:∀t∈ts,a7 t=true):(A45 k ts).all C33=true:=by
 rw [List.all_eq_true]
 intro q hq
 unfold A45 at hq
 obtain ⟨t,ht,rfl⟩:=List.mem_map.1 hq
 unfold C33
 refine decide_eq_true ?_
 rintro (⟨⟨h1,h2⟩,h3⟩ | h1)
 ·rcases hk with e | e | e
  ·exact h1 e
  ·exact h2 e
  ·exact h3 e
 ·rw [show (PatchLine.mk k t).Text=t from rfl,h t ht] at h1;cases h1
theorem D60 (hx:∀s∈x,a7 s=true) (hy:∀s∈y,a7 s=true) (i0:Int) (a:Nat):∀t,(x4 l x y i0 a t).all C33=true
 | 0=>rfl
 | t+1=>by
  simp only [x4,K11,D60 hx hy i0 a t,Bool.true_and,J61]
  exact ⟨⟨B15 (.inl rfl) (fun s hs=>hx s (D91 hs)),B15 (.inr (.inl rfl)) (fun s hs=>hx s (D91 hs))⟩,B15 (.inr (.inr rfl)) (fun s hs=>hy s (D91 hs))⟩
theorem ScFit.hunk (h:ScFit x y l) {ctx:Int} (hc:0≤ctx) {a b:Nat} (hab:a < b) (hb:b≤l.length) (ho:opens l ctx a) (hob:b < l.length→opens l ctx b) :
  HunkIs x y l ctx a b (Z6 l x y (mkH l x.length ctx a b)):=by
 have hla:a < l.length:=by omega
 obtain ⟨q1,q2,q3⟩:=h.before hc hla ho
 obtain ⟨w1,w2,w3,w4,w5⟩:=h.after hc hb hob (by omega)
 obtain ⟨m1,m2⟩:=h.made hc ho (b - a) (by omega) (fun e=>by omega)
 rw [E62 _ _ _ (by omega)] at m1
 rw [I23 _ _ _ (by omega)] at m2
 rw [show a+(b - a)=b by omega] at m1 m2
 obtain ⟨r1,r2,r3,r4⟩:=h.nn a (by omega)
 obtain ⟨s1,s2,s3,s4⟩:=h.nn b hb
 obtain ⟨k1,⟨k2,k2'⟩,k3,⟨k4,k4'⟩,k5,k6,k7,k8⟩:=A16 _ _ _ _ _ _ h.sc a hla
 have hlb:b - 1 < l.length:=by omega
 obtain ⟨g1,⟨g2,g2'⟩,g3,⟨g4,g4'⟩,g5,g6,g7,g8⟩:=A16 _ _ _ _ _ _ h.sc (b - 1) hlb
 have eo:eoI 0 l b=(cAt l (b - 1)).Old+(cAt l (b - 1)).OldLen:=by unfold eoI;rw [if_neg (by omega)];rfl
 have en:enI 0 l b=(cAt l (b - 1)).New+(cAt l (b - 1)).NewLen:=by unfold enI;rw [if_neg (by omega)];rfl
 have mo:=h.ok.mono a (b - 1) (by omega) (by omega)
 have mn:(cAt l a).New≤enI 0 l b:=by
  have m4:∀u,a+u≤l.length→(cAt l a).New≤enI 0 l (a+u)∨u=0:=by
   intro u
   induction u with
   | zero=>exact fun _=>.inr rfl
   | succ u ihu =>
    intro hu
    obtain ⟨e1,e2,⟨e3,e3'⟩,⟨e4,e4'⟩,e5,e6,e7,e8⟩:=A16 _ _ _ _ _ _ h.sc (a+u) (by omega)
    have e9:enI 0 l (a+(u+1))=(cAt l (a+u)).New+(cAt l (a+u)).NewLen:=rfl
    rcases ihu (by omega) with h' | h'
    ·left;omega
    ·left;subst h';rw [e9];show (cAt l a).New≤(cAt l a).New+(cAt l a).NewLen;exact Int.le_add_of_nonneg_right e4
  have:=(m4 (b - a) (by omega)).resolve_right (by omega)
  rwa [show a+(b - a)=b by omega] at this
 have hF:(mkH l x.length ctx a b).First.toNat=a:=by show ((a:Int)).toNat=a;omega
 have hL:(mkH l x.length ctx a b).Last.toNat - (mkH l x.length ctx a b).First.toNat=b - a:=by
  show (((b - 1:Nat):Int)+1).toNat - ((a:Int)).toNat=b - a;omega
 have hOF:(mkH l x.length ctx a b).Old.From=(cAt l a).Old - eA l ctx a:=rfl
 have hNF:(mkH l x.length ctx a b).New.From=(cAt l a).New - eA l ctx a:=rfl
 have hOT:(mkH l x.length ctx a b).Old.To=eoI 0 l b+eB l x.length ctx b:=by
  unfold eB;rw [eo];rfl
 obtain ⟨P,hP⟩:∃P,P=Z6 l x y (mkH l x.length ctx a b):=⟨_,rfl⟩
 have hPl:P.Lines=x4 l x y ((cAt l a).Old - eA l ctx a) a (b - a)++A45 32 (sub x (eoI 0 l b) (eoI 0 l b+eB l x.length ctx b)):=by
  rw [hP];unfold Z6
  show x4 l x y _ (mkH l x.length ctx a b).First.toNat ((mkH l x.length ctx a b).Last.toNat - (mkH l x.length ctx a b).First.toNat)++A45 32 (sub x (A46 l _ (mkH l x.length ctx a b).First.toNat ((mkH l x.length ctx a b).Last.toNat - (mkH l x.length ctx a b).First.toNat)) _)=_
  rw [hL,hF,hOF,hOT,E62 _ _ _ (by omega),show a+(b - a)=b by omega]
 have hPO:P.Old=(cAt l a).Old - eA l ctx a:=by rw [hP];rfl
 have hPN:P.New=(cAt l a).New - eA l ctx a:=by rw [hP];rfl
 have h43:H6 P.Lines 43=sub x ((cAt l a).Old - eA l ctx a) (eoI 0 l b+eB l x.length ctx b):=by
  rw [hPl,B13,B14,if_neg (by decide),m1]
  exact j7 x (by omega) (by omega) (by omega)
 have h45:H6 P.Lines 45=sub y ((cAt l a).New - eA l ctx a) (enI 0 l b+eB l x.length ctx b):=by
  rw [hPl,B13,B14,if_neg (by decide),m2,w5]
  exact j7 y (by omega) (by omega) (by omega)
 have hon:B87 P=eoI 0 l b+eB l x.length ctx b - ((cAt l a).Old - eA l ctx a):=by
  unfold B87;rw [h43];exact B12 x (by omega) (by omega) (by omega)
 have hnn:B88 P=enI 0 l b+eB l x.length ctx b - ((cAt l a).New - eA l ctx a):=by
  unfold B88;rw [h45];exact B12 y (by omega) (by omega) (by omega)
 rw [←hP]
 refine ⟨hPO,hPN,by omega,by omega,by omega,by omega,by omega,by omega,?_,?_,?_,?_⟩
 ·rw [h43];congr 1
  ·exact hPO.symm
  ·omega
 ·rw [h45];congr 1
  ·exact hPN.symm
  ·omega
 ·rw [hPl,E63]
  have e:x4 l x y ((cAt l a).Old - eA l ctx a) a (b - a)=x4 l x y ((cAt l a).Old - eA l ctx a) a (b - 1 - a+1):=by congr 1;omega
  rw [e]
  simp only [x4,E63]
  rw [show a+(b - 1 - a)=b - 1 by omega]
  have key:A67 (A45 45 (sub x (cAt l (b - 1)).Old (v8 (cAt l (b - 1)))))=true∨A67 (A45 43 (sub y (cAt l (b - 1)).New ((cAt l (b - 1)).New+(cAt l (b - 1)).NewLen)))=true:=by
   obtain ⟨g3a,g3b⟩:=g3
   obtain ⟨g1a,g1b⟩:=g1
   by_cases h0:(cAt l (b - 1)).OldLen=0
   ·right
    refine E64 (by decide) fun e0=>?_
    have:=B12 y (a:=(cAt l (b - 1)).New) (b:=(cAt l (b - 1)).New+(cAt l (b - 1)).NewLen) g3a (by omega) (by omega)
    rw [e0] at this;simp at this;omega
   ·left
    refine E64 (by decide) fun e0=>?_
    have:=B12 x (a:=(cAt l (b - 1)).Old) (b:=v8 (cAt l (b - 1))) g1a (by unfold v8;omega) (by unfold v8;omega)
    rw [e0] at this;unfold v8 at this;simp at this;omega
  rcases key with e1 | e1<;>rw [e1]<;>simp
 ·intro hx hy
  rw [hPl,K11,D60 hx hy,Bool.true_and]
  exact B15 (.inl rfl) (fun s hs=>hx s (D91 hs))
theorem ScFit.hunks (h:ScFit x y l) {ctx:Int} (hc:0≤ctx) (hx:∀s∈x,a7 s=true) (hy:∀s∈y,a7 s=true):∀(hs:List Hunk) (a:Nat),GrOk l x.length ctx a hs l.length →
  ∀(i j e:Int),i=eoI 0 l a+e→j=enI 0 l a+e→0≤e→e≤ctx→(a=0→e=0) →
  D19 i j (hs.map (Z6 l x y))=true∧(N0 (hs.map (Z6 l x y)) 43).Sublist (x.drop i.toNat)∧(N0 (hs.map (Z6 l x y)) 45).Sublist (y.drop j.toNat) ∧
   ∀p∈hs.map (Z6 l x y),(p.Old+B87 p≤x.length∧p.New+B88 p≤y.length∧0≤p.Old∧0≤p.New)∧H6 p.Lines 43=sub x p.Old (p.Old+B87 p)∧H6 p.Lines 45=sub y p.New (p.New+B88 p)
 | [],a,_,i,j,e,_,_,_,_,_=>⟨rfl,by simp [N0],by simp [N0],by simp⟩
 | hk::hs,a,⟨b,hab,ho,hE,hr⟩,i,j,e,hi,hj,he,hec,he0=>by
  have hb:=hr.le
  have hob:b < l.length→opens l ctx b:=by
   intro hlt
   cases hs with
   | nil=>exact absurd hr (by show ¬b=l.length;omega)
   | cons h2 hs2=>obtain ⟨_,_,ho2,_⟩:=hr;exact ho2
  obtain ⟨w1,w2,w3,w4,w5⟩:=h.after hc hb hob (by omega)
  obtain ⟨q1,q2,q3⟩:=h.before hc (show a < l.length by omega) ho
  have H:=h.hunk hc hab hb ho hob
  rw [←hE] at H
  obtain ⟨P,hP⟩:∃P,P=Z6 l x y hk:=⟨_,rfl⟩
  rw [←hP] at H
  obtain ⟨i1,i2,i3,i4⟩:=ScFit.hunks h hc hx hy hs b hr (P.Old+B87 P) (P.New+B88 P) (eB l x.length ctx b) H.oe H.ne w1 w2 (by omega)
  obtain ⟨k1,⟨k2,k2'⟩,k3,⟨k4,k4'⟩,k5,k6,k7,k8⟩:=A16 _ _ _ _ _ _ h.sc a (show a < l.length by omega)
  have h1:=H.old
  have h2:=H.new
  have h3:=H.o0
  have h4:=H.n0
  have h5:=H.ox
  have h6:=H.ny
  have h7:=h.lx
  have h8:=h.ly
  have n1:0≤B87 P:=by unfold B87;omega
  have n2:0≤B88 P:=by unfold B88;omega
  have hgap:e+eA l ctx a≤(cAt l a).Old - eoI 0 l a:=by
   by_cases h0:a=0
   ·have:=he0 h0;omega
   ·have:=D21 ho h0;omega
  obtain ⟨r1,r2,r3,r4⟩:=h.nn a (by omega)
  have hij:i≤P.Old∧j≤P.New∧P.Old - i=P.New - j∧0≤i∧0≤j:=by omega
  have hsub:∀(z:List Str) (i f t:Int),0≤i→i≤f→f≤t→∀r:List Str,r.Sublist (z.drop t.toNat)→(sub z f t++r).Sublist (z.drop i.toNat):=by
   intro z i f t h0 h1 h2 r hr
   have e1:z.drop f.toNat=sub z f t++z.drop t.toNat:=by
    unfold sub
    rw [show t.toNat=f.toNat+(t.toNat - f.toNat) by omega,←List.drop_drop,show f.toNat+(t.toNat - f.toNat) - f.toNat=t.toNat - f.toNat by omega,K01]
   have e2:z.drop f.toNat=(z.drop i.toNat).drop (f.toNat - i.toNat):=by rw [List.drop_drop];congr 1;omega
   refine List.Sublist.trans ?_ (List.drop_sublist (f.toNat - i.toNat) (z.drop i.toNat))
   rw [←e2,e1]
   exact List.Sublist.append_left hr _
  have key:∀(k:UInt8),N0 ((hk::hs).map (Z6 l x y)) k=H6 P.Lines k++N0 (hs.map (Z6 l x y)) k:=by
   intro k;rw [hP];simp [N0]
  refine ⟨?_,?_,?_,?_⟩
  ·rw [J77,←hP]
   simp only [D19,H.gl hx hy,i1,Bool.and_true,Bool.true_and,J61,decide_eq_true_eq]
   refine ⟨?_,by omega⟩
   unfold C71
   rw [H.ch]
   rintro (((((e0 | e0) | e0) | e0) | e0) | e0)
   ·cases e0
   all_goals omega
  ·rw [key,H.ol]
   exact hsub x i P.Old (P.Old+B87 P) hij.2.2.2.1 hij.1 (by omega) _ i2
  ·rw [key,H.nl]
   exact hsub y j P.New (P.New+B88 P) hij.2.2.2.2 hij.2.1 (by omega) _ i3
  ·rw [J77,←hP]
   intro p hp
   rcases List.mem_cons.1 hp with rfl | hp
   ·exact ⟨⟨h5,h6,h3,h4⟩,H.ol,H.nl⟩
   ·exact i4 p hp
theorem C75:∀{s z:List Str},s.Sublist z→v7 z=true→v7 s=true:=by
 intro s z hs
 induction hs with
 | slnil=>exact fun h=>h
 | cons a _ ih =>
  intro h
  simp only [v7,J61] at h
  exact ih h.2
 | cons_cons a hs2 ih =>
  intro h
  simp only [v7,J61,J81] at h ⊢
  refine ⟨?_,ih h.2⟩
  rcases h.1 with h1 | h1
  ·left
   rw [List.isEmpty_iff] at h1 ⊢
   rw [h1] at hs2
   exact List.sublist_nil.1 hs2
  ·exact .inr h1
def Z7 (l:List Change) (x y:List Str) (ctx:Int):List PatchHunk:=(W5 l x.length ctx l.length).map (Z6 l x y)
theorem ScFit.good (h:ScFit x y l) {ctx:Int} (hc:0≤ctx) (hx:∀s∈x,a7 s=true) (hy:∀s∈y,a7 s=true) (ex:v7 x=true) (ey:v7 y=true):D20 (Z7 l x y ctx)=true:=by
 obtain ⟨h1,h2,h3,_⟩:=h.hunks hc hx hy _ 0 (B11 l x.length ctx l.length) 0 0 0 rfl rfl (Int.le_refl _) hc (fun _=>rfl)
 unfold D20 H73 Z7
 rw [h1,C75 h2 (by simpa using ex),C75 h3 (by simpa using ey)]
 rfl
theorem ScFit.texts (h:ScFit x y l) {ctx:Int} (hc:0≤ctx) (hx:∀s∈x,a7 s=true) (hy:∀s∈y,a7 s=true):∀p∈Z7 l x y ctx,(p.Old+B87 p≤x.length∧p.New+B88 p≤y.length∧0≤p.Old∧0≤p.New)∧H6 p.Lines 43=sub x p.Old (p.Old+B87 p)∧H6 p.Lines 45=sub y p.New (p.New+B88 p) :=
 (h.hunks hc hx hy _ 0 (B11 l x.length ctx l.length) 0 0 0 rfl rfl (Int.le_refl _) hc (fun _=>rfl)).2.2.2
end
end Go.AL
namespace Go.AL
open Go
theorem D22 {m n:Int} (hm:L7 m) (hn:L7 n):∀(p:List Span) (i j i0 j0:Int) (k0:Nat),Asc m n i j p→0≤i0→0≤j0→i0≤i→i - i0=j - j0→(0 < k0→i0 < i)→M5 k0 i0 j0 (V7 i j p m n) m n=true
 | [],i,j,i0,j0,k0,ha,h1,h2,h3,h4,h5=>by
  obtain ⟨a1,a2⟩:i≤m∧j≤n:=ha
  obtain ⟨m1,m2⟩:=hm
  obtain ⟨n1,n2⟩:=hn
  unfold V7
  split
  ·rename_i hc
   simp only [M5,J61,decide_eq_true_eq]
   refine ⟨?_,by omega⟩
   unfold badC L7
   show ¬(((((((¬(0≤i∧i≤4096)∨¬(0≤m - i∧m - i≤4096))∨¬(0≤j∧j≤4096))∨¬(0≤n - j∧n - j≤4096))∨m - i+(n - j)=0)∨i - i0≠j - j0)∨i < i0)∨(0 < (k0:Int)∧i=i0))
   omega
  ·simp only [M5,decide_eq_true_eq];omega
 | x::r,i,j,i0,j0,k0,ha,h1,h2,h3,h4,h5=>by
  obtain ⟨a1,a2,a3⟩:=ha
  have hle:=a3.le
  unfold V7
  split
  ·rename_i hc
   simp only [J82,J93,M5,J61,decide_eq_true_eq]
   refine ⟨?_,?_⟩
   ·obtain ⟨m1,m2⟩:=hm
    obtain ⟨n1,n2⟩:=hn
    unfold badC L7
    show ¬(((((((¬(0≤i∧i≤4096)∨¬(0≤x.From - i∧x.From - i≤4096))∨¬(0≤j∧j≤4096))∨¬(0≤x.To - j∧x.To - j≤4096))∨x.From - i+(x.To - j)=0)∨i - i0≠j - j0)∨i < i0)∨(0 < (k0:Int)∧i=i0))
    omega
   ·exact D22 hm hn r _ _ _ _ _ a3 (by omega) (by omega) (by omega) (by omega) (fun _=>by omega)
  ·rw [J93]
   exact D22 hm hn r _ _ _ _ _ a3 h1 h2 (by omega) (by omega) (fun h=>by omega)
def EqAt (X Y:List Str) (s:Span):Prop:=0≤s.From∧0≤s.To∧∃v,X[s.From.toNat]?=some v∧Y[s.To.toNat]?=some v
theorem A86 {X:List Str} {a b:Int} {v:Str} (h0:0≤a) (h1:a≤b) (hv:X[b.toNat]?=some v):sub X a (b+1)=sub X a b++[v]:=by
 rw [←j7 X h0 h1 (by omega:b≤b+1)]
 congr 1
 unfold sub
 obtain ⟨hl,e⟩:=List.getElem?_eq_some_iff.1 hv
 rw [J71 hl,e,show (b+1).toNat - b.toNat=1 by omega]
 rfl
theorem D23 {X Y:List Str}:∀(p:List Span) (i j i0 j0:Int),Asc X.length Y.length i j p→0≤i0→0≤j0→i0≤i→j0≤j→(∀s∈p,EqAt X Y s)→sub X i0 i=sub Y j0 j→B10 X Y i0 j0 (V7 i j p X.length Y.length)
 | [],i,j,i0,j0,ha,h1,h2,h3,h4,he,hs=>by
  obtain ⟨a1,a2⟩:i≤(X.length:Int)∧j≤(Y.length:Int):=ha
  unfold V7
  split
  ·refine ⟨hs,?_⟩
   show sub X (i+(X.length - i)) X.length=sub Y (j+(Y.length - j)) Y.length
   rw [show i+((X.length:Int) - i)=X.length by omega,show j+((Y.length:Int) - j)=Y.length by omega,A47,A47]
  ·have e1:(X.length:Int)=i:=by omega
   have e2:(Y.length:Int)=j:=by omega
   show sub X i0 X.length=sub Y j0 Y.length
   rw [e1,e2];exact hs
 | x::r,i,j,i0,j0,ha,h1,h2,h3,h4,he,hs=>by
  obtain ⟨a1,a2,a3⟩:=ha
  obtain ⟨_,_,v,v1,v2⟩:=he x (by simp)
  have hr:∀s∈r,EqAt X Y s:=fun s hs=>he s (by simp [hs])
  unfold V7
  split
  ·refine ⟨hs,?_⟩
   show B10 X Y (i+(x.From - i)) (j+(x.To - j)) (V7 (x.From+1) (x.To+1) r X.length Y.length)
   rw [show i+(x.From - i)=x.From by omega,show j+(x.To - j)=x.To by omega]
   refine D23 r _ _ _ _ a3 (by omega) (by omega) (by omega) (by omega) hr ?_
   rw [A86 (by omega) (Int.le_refl _) v1,A86 (by omega) (Int.le_refl _) v2,A47,A47]
  ·have e1:x.From=i:=by omega
   have e2:x.To=j:=by omega
   rw [J93]
   refine D23 r _ _ _ _ a3 h1 h2 (by omega) (by omega) hr ?_
   rw [A86 h1 (by omega) v1,A86 h2 (by omega) v2,e1,e2,hs]
theorem I79:∀(a b:List Int) (p q:Int),∀s∈K4 p q a b,p≤s.From∧q≤s.To∧∃v,a[(s.From - p).toNat]?=some v∧b[(s.To - q).toNat]?=some v:=by
 intro a
 induction a with
 | nil=>intro b p q s hs;simp [K4] at hs
 | cons x a iha =>
  intro b
  induction b with
  | nil=>intro p q s hs;simp [K4] at hs
  | cons y b ihb =>
   intro p q s hs
   unfold K4 at hs
   split at hs
   ·rename_i e
    rcases List.mem_cons.1 hs with rfl | hs
    ·exact ⟨Int.le_refl _,Int.le_refl _,x,by simp,by simp [e]⟩
    ·obtain ⟨h1,h2,v,h3,h4⟩:=iha b (p+1) (q+1) s hs
     refine ⟨by omega,by omega,v,?_,?_⟩
     ·rw [show (s.From - p).toNat=(s.From - (p+1)).toNat+1 by omega];simpa using h3
     ·rw [show (s.To - q).toNat=(s.To - (q+1)).toNat+1 by omega];simpa using h4
   ·split at hs
    ·obtain ⟨h1,h2,v,h3,h4⟩:=iha (y::b) (p+1) q s hs
     refine ⟨by omega,by omega,v,?_,h4⟩
     rw [show (s.From - p).toNat=(s.From - (p+1)).toNat+1 by omega];simpa using h3
    ·obtain ⟨h1,h2,v,h3,h4⟩:=ihb p (q+1) s hs
     refine ⟨by omega,by omega,v,h3,?_⟩
     rw [show (s.To - q).toNat=(s.To - (q+1)).toNat+1 by omega];simpa using h4
theorem D61:∀(l:List Str) (s t:Str) (k:Int),0≤k→s∈l→t∈l→L8 l s k=L8 l t k→s=t
 | [],_,_,_,_,h,_,_=>by simp at h
 | x::r,s,t,k,hk,hs,ht,e=>by
  unfold L8 at e
  by_cases h1:x=s
  ·by_cases h2:x=t
   ·exact h1.symm.trans h2
   ·rw [if_pos h1,if_neg h2] at e
    have ht':t∈r:=(List.mem_cons.1 ht).resolve_left (fun q=>h2 q.symm)
    have:=E58 r t (k+1) (by omega) ht'
    omega
  ·have hs':s∈r:=(List.mem_cons.1 hs).resolve_left (fun q=>h1 q.symm)
   by_cases h2:x=t
   ·rw [if_neg h1,if_pos h2] at e
    have:=E58 r s (k+1) (by omega) hs'
    omega
   ·rw [if_neg h1,if_neg h2] at e
    exact D61 r s t (k+1) (by omega) hs' ((List.mem_cons.1 ht).resolve_left (fun q=>h2 q.symm)) e
theorem F41 {names f:List Str} {i:Nat} {v:Int} (h:(L5 names f)[i]?=some v):∃s,f[i]?=some s∧L8 names s 0=v:=by
 unfold L5 at h
 rw [K02] at h
 cases hf:f[i]? with
 | none=>rw [hf] at h;cases h
 | some s=>rw [hf] at h;exact ⟨s,rfl,Option.some.inj h⟩
theorem H77 (x y:List Str) (hx:x.length≤4096) (hy:y.length≤4096):ScFit x y (E60 x y):=by
 have l1:(L5 (G9 [x,y]) x).length=x.length:=by simp [L5]
 have l2:(L5 (G9 [x,y]) y).length=y.length:=by simp [L5]
 have hA:=C32 (L5 (G9 [x,y]) x) (L5 (G9 [x,y]) y) 0 0
 rw [l1,l2,Int.zero_add,Int.zero_add] at hA
 refine ⟨by omega,by omega,?_,?_⟩
 ·unfold E60 B60 C31
  rw [l1,l2]
  exact D22 ⟨by omega,by omega⟩ ⟨by omega,by omega⟩ _ _ _ _ _ _ hA (Int.le_refl _) (Int.le_refl _) (Int.le_refl _) rfl (fun h=>absurd h (by omega))
 ·unfold E60 B60 C31
  rw [l1,l2]
  refine D23 _ _ _ _ _ hA (Int.le_refl _) (Int.le_refl _) (Int.le_refl _) (Int.le_refl _) ?_ (by rw [A47,A47])
  intro s hs
  obtain ⟨h1,h2,v,h3,h4⟩:=I79 _ _ _ _ s hs
  rw [Int.sub_zero] at h3 h4
  obtain ⟨u,u1,u2⟩:=F41 h3
  obtain ⟨w,w1,w2⟩:=F41 h4
  have e:u=w:=D61 (G9 [x,y]) u w 0 (Int.le_refl _) (D58 _ _ x (by simp) (J69 u1)) (D58 _ _ y (by simp) (J69 w1)) (u2.trans w2.symm)
  subst e
  exact ⟨h1,h2,u,u1,w1⟩
theorem F42:∀(ls:List PatchLine),ls.all C33=true→(ls.map szL).sum≤64*((H6 ls 43).length+(H6 ls 45).length)+((H6 ls 43).flatten.length+(H6 ls 45).flatten.length)
 | [],_=>by simp
 | q::ls,h=>by
  rw [List.all_cons,J61] at h
  have ih:=F42 ls h.2
  have hk:q.Kind=32∨q.Kind=45∨q.Kind=43:=by
   have hg:=h.1
   unfold C33 at hg
   have hg:=A0 hg
   by_cases h1:q.Kind=32
   ·exact .inl h1
   by_cases h2:q.Kind=45
   ·exact .inr (.inl h2)
   by_cases h3:q.Kind=43
   ·exact .inr (.inr h3)
   exact absurd (.inl ⟨⟨h1,h2⟩,h3⟩) hg
  have hd:∀k:UInt8,H6 (q::ls) k=if q.Kind≠k then q.Text::H6 ls k else H6 ls k:=by
   intro k
   unfold H6
   by_cases e:q.Kind=k
   ·rw [if_neg (by simpa using e),List.filter_cons_of_neg (by simpa using e)]
   ·rw [if_pos e,List.filter_cons_of_pos (by simpa using e)];rfl
  rw [hd 43,hd 45,J77,K10]
  have hz:szL q=q.Text.length+64:=rfl
  rcases hk with e | e | e<;>rw [e]<;>simp (decide:=true) only [if_true,if_false,ne_eq,not_true_eq_false,not_false_eq_true,J64,J92,J63]<;>omega
theorem C76:∀(hs:List PatchHunk) (i j:Int),D19 i j hs=true→szP hs≤128*((N0 hs 43).length+(N0 hs 45).length)+((N0 hs 43).flatten.length+(N0 hs 45).flatten.length)
 | [],_,_,_=>by simp [szP]
 | h :: hs,i,j,hg=>by
  simp only [D19,J61,decide_eq_true_eq] at hg
  obtain ⟨h1,h2,h3,h4⟩:=hg
  have ih:=C76 hs _ _ h4
  have hl:=F42 h.Lines h1
  have hne:1≤h.Lines.length:=by
   cases hq:h.Lines with
   | nil=>exact absurd (.inl (.inl (.inl (.inl (.inl (by rw [hq];rfl)))))) h2
   | cons a b=>simp
  have hcnt:h.Lines.length≤(H6 h.Lines 43).length+(H6 h.Lines 45).length:=by
   have:64*h.Lines.length≤(h.Lines.map szL).sum:=szL_len h.Lines
   have key:∀ls:List PatchLine,ls.length≤(H6 ls 43).length+(H6 ls 45).length:=by
    intro ls
    induction ls with
    | nil=>simp
    | cons q ls ih =>
     have hd:∀k:UInt8,(H6 (q::ls) k).length=if q.Kind≠k then (H6 ls k).length+1 else (H6 ls k).length:=by
      intro k
      unfold H6
      by_cases e:q.Kind=k
      ·rw [if_neg (by simpa using e),List.filter_cons_of_neg (by simpa using e)]
      ·rw [if_pos e,List.filter_cons_of_pos (by simpa using e)];simp
     rw [hd 43,hd 45,J64]
     by_cases e:q.Kind=43
     ·have e2:q.Kind≠45:=by rw [e];decide
      rw [if_pos e2];split<;>omega
     ·rw [if_pos e];split<;>omega
   exact key h.Lines
  have hsz:szP (h::hs)=szH h+szP hs:=by simp [szP]
  have hszh:szH h=64+(h.Lines.map szL).sum:=rfl
  have hs1:∀k,N0 (h::hs) k=H6 h.Lines k++N0 hs k:=by intro k;simp [N0]
  rw [hsz,hszh,hs1 43,hs1 45]
  simp only [J63,J95]
  omega
theorem D62:∀{s z:List Str},s.Sublist z→s.flatten.length≤z.flatten.length:=by
 intro s z hs
 induction hs with
 | slnil=>exact Nat.le_refl _
 | cons a _ ih=>simp only [J92,J63];omega
 | cons_cons a _ ih=>simp only [J92,J63];omega
theorem ScFit.size {x y:List Str} {l:List Change} (h:ScFit x y l) {ctx:Int} (hc:0≤ctx) (hx:∀s∈x,a7 s=true) (hy:∀s∈y,a7 s=true):szP (Z7 l x y ctx)≤128*(x.length+y.length)+(x.flatten.length+y.flatten.length):=by
 obtain ⟨h1,h2,h3,_⟩:=h.hunks hc hx hy _ 0 (B11 l x.length ctx l.length) 0 0 0 rfl rfl (Int.le_refl _) hc (fun _=>rfl)
 have h4:=C76 _ _ _ h1
 have e:Z7 l x y ctx=(W5 l x.length ctx l.length).map (Z6 l x y):=rfl
 rw [←e] at h2 h3 h4
 have h2':(N0 (Z7 l x y ctx) 43).Sublist x:=by simpa using h2
 have h3':(N0 (Z7 l x y ctx) 45).Sublist y:=by simpa using h3
 have:=h2'.length_le
 have:=h3'.length_le
 have:=D62 h2'
 have:=D62 h3'
 omega
theorem E65 (s:Str):∀cur:Str,(I2 cur s).flatten=cur++s:=by
 induction s with
 | nil=>intro cur;unfold I2;split<;>simp [*]
 | cons c r ih=>intro cur;rw [A65];split<;>simp [ih]
theorem H78 (a:Str):(F8 a).flatten.length=a.length∧(F8 a).length≤a.length:=⟨by unfold F8;rw [E65];rfl,X2 a⟩
end Go.AL
namespace Go.AL
open Go
end Go.AL
namespace Go.AL
open Go
abbrev C34:Int→Nat→Cell:=fun x _=>.v (.int .u16 x)
abbrev pU16s (l:List Int):PV:=.one (.list Int 1 C34 l)
theorem H79 (n:Int) (h:0≤n∧n < 65536):IntKind.u16.wrap n=n:=by
 simp [IntKind.wrap,IntKind.signed,IntKind.bits];omega
def flat (a b:List Int) (done:Nat→Nat→Bool):List Int :=
 (List.range ((a.length+1)*(b.length+1))).map fun p=>if done (p / (b.length+1)) (p % (b.length+1))=true then (dist (a.drop (p / (b.length+1))) (b.drop (p % (b.length+1))):Int) else 0
theorem D63 (a b:List Int) (done:Nat→Nat→Bool):(flat a b done).length=(a.length+1)*(b.length+1):=by simp [flat]
theorem D92 {a b:List Int} {i j:Nat} (hi:i≤a.length) (hj:j≤b.length):i*(b.length+1)+j < (a.length+1)*(b.length+1)∧(i*(b.length+1)+j) / (b.length+1)=i∧(i*(b.length+1)+j) % (b.length+1)=j:=by
 refine ⟨?_,?_,?_⟩
 ·have:(i+1)*(b.length+1)≤(a.length+1)*(b.length+1):=J72 _ (by omega)
  rw [J79,Nat.one_mul] at this;omega
 ·rw [Nat.mul_comm,Nat.mul_add_div (by omega),Nat.div_eq_of_lt (by omega),Nat.add_zero]
 ·rw [Nat.mul_comm,Nat.mul_add_mod,Nat.mod_eq_of_lt (by omega)]
theorem E66 {a b:List Int} {done:Nat→Nat→Bool} {i j:Nat} (hi:i≤a.length) (hj:j≤b.length):(flat a b done)[i*(b.length+1)+j]?=some (if done i j=true then (dist (a.drop i) (b.drop j):Int) else 0):=by
 obtain ⟨h1,h2,h3⟩:=D92 hi hj
 unfold flat
 rw [I78 _ _ _ h1,h2,h3]
theorem G91 {a b:List Int} {done done':Nat→Nat→Bool} {i j:Nat} {v:Int} (hi:i≤a.length) (hj:j≤b.length) (hv:v=(dist (a.drop i) (b.drop j):Int)) (hd:done' i j=true)
  (ho:∀r q,r≤a.length→q≤b.length→¬(r=i∧q=j)→done' r q=done r q):(flat a b done).set (i*(b.length+1)+j) v=flat a b done':=by
 obtain ⟨h1,h2,h3⟩:=D92 hi hj
 unfold flat
 refine F39 _ _ _ _ _ (fun _=>?_) (fun q hq hne=>?_)
 ·rw [h2,h3,if_pos hd,hv]
 ·have hW:0 < b.length+1:=by omega
  have e:=Nat.div_add_mod q (b.length+1)
  have hr:q / (b.length+1)≤a.length:=by
   have:=(Nat.div_lt_iff_lt_mul hW).2 hq
   omega
  have hm:=Nat.mod_lt q hW
  rw [ho _ _ hr (by omega) (fun ⟨e1,e2⟩=>hne (by rw [e1,e2,Nat.mul_comm] at e;exact e.symm))]
theorem I80 (a b:List Int):List.replicate ((a.length+1)*(b.length+1)) 0=flat a b (fun _ _=>false):=by
 unfold flat
 simp only [Bool.false_eq_true,if_false]
 rw [List.map_const',J96]
theorem B16 {a b:List Int} {done done':Nat→Nat→Bool} (h:∀r q,r≤a.length→q≤b.length→(done r q=done' r q∨dist (a.drop r) (b.drop q)=0)):flat a b done=flat a b done':=by
 unfold flat
 apply List.map_congr_left
 intro p hp
 have hp:=List.mem_range.1 hp
 have hW:0 < b.length+1:=by omega
 have hr:p / (b.length+1)≤a.length:=by have:=(Nat.div_lt_iff_lt_mul hW).2 hp;omega
 have hm:=Nat.mod_lt p hW
 rcases h (p / (b.length+1)) (p % (b.length+1)) hr (by omega) with e | e
 ·rw [e]
 ·rw [e];simp
def U3:List Int→List Int→Nat
 | x::a,y::b=>if x=y then U3 a b+1 else 0
 | _,_=>0
theorem G92:∀(a b:List Int),U3 a b≤a.length∧U3 a b≤b.length
 | [],_=>by simp [U3]
 | _::_,[]=>by simp [U3]
 | x::a,y::b=>by
  have:=G92 a b
  unfold U3
  simp only [J64]
  split<;>omega
theorem E67 (a b:List Int) (k:Nat) (hk:k < a.length) (hk':k < b.length):U3 (a.drop k) (b.drop k)=if a[k]=b[k] then U3 (a.drop (k+1)) (b.drop (k+1))+1 else 0:=by
 rw [J71 hk,J71 hk'];rfl
theorem I81 (a b:List Int) (k:Nat) (h:¬(k < a.length∧k < b.length)):U3 (a.drop k) (b.drop k)=0:=by
 by_cases h1:k < a.length
 ·rw [J78 (as:=b) (by omega)]
  cases a.drop k<;>rfl
 ·rw [J78 (as:=a) (by omega)];rfl
theorem E68:∀(a b:List Int) (p q:Int),K4 p q a b=S5 p q (U3 a b)++K4 (p+U3 a b) (q+U3 a b) (a.drop (U3 a b)) (b.drop (U3 a b))
 | [],b,p,q=>by simp [U3,B09]
 | x::a,[],p,q=>by simp [U3,B09]
 | x::a,y::b,p,q=>by
  unfold U3
  by_cases h:x=y
  ·rw [if_pos h]
   conv=>lhs;unfold K4
   rw [if_pos h,E68 a b (p+1) (q+1),F99]
   simp only [List.drop_succ_cons,J82]
   rw [show p+1+(U3 a b:Int)=p+((U3 a b+1:Nat):Int) by omega,show q+1+(U3 a b:Int)=q+((U3 a b+1:Nat):Int) by omega]
  ·rw [if_neg h]
   simp [B09]
end Go.AL
namespace Go.AL
open Go
def GrX (l:List Change) (m ctx:Int):Nat→List Hunk→Nat→Prop
 | a,[],k=>a=k
 | a,h::r,k=>∃b,a < b∧opens l ctx a∧(∀c,a < c→c < b→¬opens l ctx c)∧h=mkH l m ctx a b∧GrX l m ctx b r k
theorem GrX.le {l:List Change} {m ctx:Int}:∀{hs:List Hunk} {a k:Nat},GrX l m ctx a hs k→a≤k
 | [],a,k,h=>Nat.le_of_eq h
 | _::_,a,k,⟨b,h1,_,_,_,h2⟩=>by have:=GrX.le h2;omega
theorem GrX.snoc {l:List Change} {m ctx:Int} {k n:Nat} (ho:opens l ctx k) (hk:k < n) (hno:∀c,k < c→c < n→¬opens l ctx c):∀{hs:List Hunk} {a:Nat},GrX l m ctx a hs k→GrX l m ctx a (hs++[mkH l m ctx k n]) n
 | [],a,h=>by
  obtain rfl:a=k:=h
  exact ⟨n,hk,ho,hno,rfl,rfl⟩
 | _::_,a,⟨b,h1,h2,h3,h4,h5⟩=>⟨b,h1,h2,h3,h4,GrX.snoc ho hk hno h5⟩
theorem GrX.last {l:List Change} {m ctx:Int} {k:Nat} (hno:¬opens l ctx k):∀{hs:List Hunk} {a:Nat},GrX l m ctx a hs k→hs≠[]→GrX l m ctx a (hs.set (hs.length - 1) (C70 l m ctx k (hs.getD (hs.length - 1) I20))) (k+1)
 | [],_,_,h0=>absurd rfl h0
 | [h],a,⟨b,h1,h2,h3,h4,h5⟩,_=>by
  obtain rfl:b=k:=h5
  subst h4
  refine ⟨b+1,by omega,h2,fun c hc1 hc2=>?_,rfl,rfl⟩
  by_cases hcb:c=b
  ·rw [hcb];exact hno
  ·exact h3 c hc1 (by omega)
 | h::h'::r,a,⟨b,h1,h2,h3,h4,h5⟩,_=>by
  have ih:=GrX.last hno h5 (by simp)
  refine ⟨b,h1,h2,h3,h4,?_⟩
  simpa using ih
theorem GrX.len {l:List Change} {m ctx:Int}:∀{hs:List Hunk} {a k:Nat},GrX l m ctx a hs k→hs.length≤k - a
 | [],_,_,_=>Nat.zero_le _
 | _::_,a,k,⟨b,h1,_,_,_,h2⟩=>by have:=GrX.len h2;have:=h2.le;simp only [J64];omega
end Go.AL
namespace Go.AL
open Go
def y7:List Str→Int→List (Str × Cell)
 | [],_=>[]
 | s::r,i=>(s,.v (.int .i64 i))::y7 r (i+1)
theorem F43 (s:Str):∀(l:List Str) (i:Int),y7 (l++[s]) i=y7 l i++[(s,.v (.int .i64 (i+l.length)))]
 | [],i=>by simp [y7]
 | x::r,i=>by
  simp only [J82,y7,F43 s r,J64]
  rw [show i+1+(r.length:Int)=i+((r.length+1:Nat):Int) by omega]
theorem F44 (s:Str):∀(l:List Str) (i:Int),s∈l→L6 (y7 l i) s=some (.v (.int .i64 (L8 l s i)))
 | [],_,h=>by simp at h
 | x::r,i,h=>by
  simp only [y7,L6,L8]
  by_cases he:x=s
  ·rw [if_pos he,if_pos he]
  ·rw [if_neg he,if_neg he]
   exact F44 s r (i+1) ((List.mem_cons.1 h).resolve_left (fun q=>he q.symm))
theorem E69 (s:Str):∀(l:List Str) (i:Int),s∉l→L6 (y7 l i) s=none
 | [],_,_=>rfl
 | x::r,i,h=>by
  simp only [y7,L6]
  rw [if_neg (fun q=>h (by simp [q]))]
  exact E69 s r (i+1) (fun q=>h (by simp [q]))
theorem B65 (s:Str) (r:List Str):∀(l:List Str) (i:Int),s∈l→L8 (l++r) s i=L8 l s i
 | [],_,h=>by simp at h
 | x::l,i,h=>by
  simp only [J82,L8]
  by_cases he:x=s
  ·rw [if_pos he,if_pos he]
  ·rw [if_neg he,if_neg he]
   exact B65 s r l (i+1) ((List.mem_cons.1 h).resolve_left (fun q=>he q.symm))
theorem D64 (s:Str):∀(l:List Str) (i:Int),s∉l→L8 (l++[s]) s i=i+l.length
 | [],i,_=>by simp [L8]
 | x::l,i,h=>by
  simp only [J82,L8,J64]
  rw [if_neg (fun q=>h (by simp [q])),D64 s l (i+1) (fun q=>h (by simp [q]))]
  omega
theorem C77:∀(l out:List Str),∃r,l.foldl L9 out=out++r
 | [],out=>⟨[],by simp⟩
 | s::l,out=>by
  obtain ⟨r,hr⟩:=C77 l (L9 out s)
  rw [J89,hr]
  unfold L9
  split
  ·exact ⟨r,rfl⟩
  ·exact ⟨s::r,by simp⟩
def N3 (files:List (List Str)) (k j:Nat):List Str:=((files.take k).flatten++(files.getD k []).take j).foldl L9 []
theorem G93 (files:List (List Str)) (k:Nat):N3 files (k+1) 0=N3 files k (files.getD k []).length:=by
 unfold N3
 rw [List.take_zero,J87,J67]
 by_cases h:k < files.length
 ·rw [A41 files k h]
  congr 2
  simp [h]
 ·rw [J86 (by omega),J86 (by omega)]
  have:files.getD k []=[]:=by simp [show files.length≤k by omega]
  rw [this,J87]
theorem G07 (files:List (List Str)) (k j:Nat) (s:Str) (h:(files.getD k [])[j]?=some s):N3 files k (j+1)=L9 (N3 files k j) s:=by
 unfold N3
 have hj:j < (files.getD k []).length:=(List.getElem?_eq_some_iff.1 h).1
 have he:=(List.getElem?_eq_some_iff.1 h).2
 rw [K00 hj,he,←J73,K09]
 rfl
theorem G94 (files:List (List Str)):N3 files files.length 0=G9 files:=by
 unfold N3 G9
 rw [J67];simp
theorem D65 (files:List (List Str)) (k j:Nat):∃r,G9 files=N3 files k j++r:=by
 have h:∃m,files.flatten=((files.take k).flatten++(files.getD k []).take j)++m:=by
  refine ⟨(files.getD k []).drop j++(files.drop (k+1)).flatten,?_⟩
  by_cases hk:k < files.length
  ·have e:files=files.take k++files.getD k []::files.drop (k+1):=by
    have:files.getD k []=files[k]:=by simp [hk]
    rw [this,List.getElem_cons_drop,K01]
   conv=>lhs;rw [e]
   rw [J95,J92,J73]
   congr 1
   rw [←J73,K01]
  ·have:files.getD k []=[]:=by simp [show files.length≤k by omega]
   rw [this,J86 (by omega:files.length≤k),J78 (by omega:files.length≤k+1)]
   simp
 obtain ⟨m,hm⟩:=h
 unfold G9 N3
 rw [hm,K09]
 obtain ⟨r,hr⟩:=C77 m (((files.take k).flatten++(files.getD k []).take j).foldl L9 [])
 exact ⟨r,hr⟩
theorem E70 (files:List (List Str)) (k j:Nat):(N3 files k j).length≤files.flatten.length:=by
 obtain ⟨r,hr⟩:=D65 files k j
 have:=E50 files
 rw [hr,J63] at this;omega
def O0 (files:List (List Str)) (k:Nat):List TC:=(List.range files.length).map fun r=>if r < k then .p (.list Int 1 F0 (L5 (G9 files) (files.getD r []))) else .p (.v (.slice none 0 0))
theorem I82 {files:List (List Str)} {k:Nat} (h:k < files.length):(O0 files k)[k]?=some (.p (.v (.slice none 0 0))):=by
 simp [O0,h]
theorem G08 (files:List (List Str)) (k m:Nat) (_h:k < files.length):((O0 files k).set k (.buf m Int 1 F0 (L5 (G9 files) (files.getD k [])))).map (TC.forget m)=O0 files (k+1):=by
 have e1:(O0 files k).map (TC.forget m)=O0 files k:=by
  unfold O0
  rw [J94]
  apply List.map_congr_left
  intro r _
  simp only [Function.comp]
  split<;>rfl
 rw [List.map_set,e1]
 have e2:(TC.buf m Int 1 F0 (L5 (G9 files) (files.getD k []))).forget m=.p (.list Int 1 F0 (L5 (G9 files) (files.getD k []))):=by simp [TC.forget]
 rw [e2]
 unfold O0
 refine F39 _ _ _ _ _ (fun _=>by simp) (fun q hq hne=>?_)
 simp only [show (q < k+1)=(q < k) from propext ⟨fun h=>by omega,fun h=>by omega⟩]
theorem H80 (files:List (List Str)):List.replicate files.length (TC.p (.v (.slice none 0 0)))=O0 files 0:=by
 unfold O0
 simp only [Nat.not_lt_zero,if_false,List.map_const',J96]
theorem H81 (files:List (List Str)):O0 files files.length=(files.map (L5 (G9 files))).map fun x=>TC.p (intsC x 0):=by
 unfold O0
 apply List.ext_getElem
 ·simp
 ·intro i h1 h2
  have hi:i < files.length:=by simpa using h1
  simp [hi,intsC]
end Go.AL
namespace Go.AL
open Go
theorem I24 (m n:Int):∀(l:List Change) (k0:Nat) (i j:Int),(∀k,k < l.length→L7 (cAt l k).Old∧L7 (cAt l k).OldLen∧L7 (cAt l k).New∧L7 (cAt l k).NewLen∧(cAt l k).OldLen+(cAt l k).NewLen≠0∧(cAt l k).Old - eoI i l k=(cAt l k).New - enI j l k∧eoI i l k≤(cAt l k).Old∧(0 < k0+k→eoI i l k < (cAt l k).Old)) →
  (m - eoI i l l.length=n - enI j l l.length∧eoI i l l.length≤m)→M5 k0 i j l m n=true
 | [],k0,i,j,_,h=>by
  have h1:m - i=n - j∧i≤m:=h
  simp only [M5,decide_eq_true_eq];omega
 | c::r,k0,i,j,h,he=>by
  simp only [M5,J61,decide_eq_true_eq]
  refine ⟨?_,I24 m n r (k0+1) _ _ (fun k hk=>?_) ?_⟩
  ·obtain ⟨h1,h2,h3,h4,h5,h6,h7,h8⟩:=h 0 (by simp)
   have h1:L7 c.Old:=h1
   have h2:L7 c.OldLen:=h2
   have h3:L7 c.New:=h3
   have h4:L7 c.NewLen:=h4
   have h5:c.OldLen+c.NewLen≠0:=h5
   have h6:c.Old - i=c.New - j:=h6
   have h7:i≤c.Old:=h7
   have h8:0 < k0+0→i < c.Old:=h8
   unfold badC
   rintro (((((((q | q) | q) | q) | q) | q) | q) | ⟨q,q2⟩)
   ·exact q h1
   ·exact q h2
   ·exact q h3
   ·exact q h4
   ·exact h5 q
   ·exact q h6
   ·omega
   ·have:=h8 (by omega);omega
  ·have:=h (k+1) (by simpa using hk)
   rw [C74,w7,w8] at this
   obtain ⟨e1,e2,e3,e4,e5,e6,e7,e8⟩:=this
   exact ⟨e1,e2,e3,e4,e5,e6,e7,fun h0=>e8 (by omega)⟩
  ·rw [J64,w7,w8] at he;exact he
theorem I25 (x y:List Str):∀(l:List Change) (i j:Int),(∀k,k < l.length→sub x (eoI i l k) (cAt l k).Old=sub y (enI j l k) (cAt l k).New)→sub x (eoI i l l.length) x.length=sub y (enI j l l.length) y.length→B10 x y i j l
 | [],_,_,_,h=>h
 | c::r,i,j,h,he=>by
  refine ⟨h 0 (by simp),I25 x y r _ _ (fun k hk=>?_) ?_⟩
  ·have:=h (k+1) (by simpa using hk)
   rw [C74,w7,w8] at this;exact this
  ·rw [J64,w7,w8] at he;exact he
theorem I26 {x:List Str} {p q:Int} {t:Nat} (h0:0≤p) (h:p+t < q):(sub x p q)[t]?=x[(p+t).toNat]?:=by
 unfold sub
 rw [List.getElem?_take,if_pos (by omega),J98]
 congr 1;omega
theorem G09 {x y:List Str} {p q p' q':Int} (h:sub x p q=sub y p' q') (h0:0≤p) (h0':0≤p') (hq:q≤x.length) (he:q - p=q' - p') {t:Nat} (ht:p+t < q):∃v,x[(p+t).toNat]?=some v∧y[(p'+t).toNat]?=some v:=by
 have h1:x[(p+t).toNat]?=some x[(p+t).toNat]:=J60 (by omega)
 refine ⟨_,h1,?_⟩
 rw [←I26 (q:=q') h0' (by omega),←h,I26 h0 ht];exact h1
theorem D66 {i j:Int} {n:Nat} {p:Span} (h:p∈S5 i j n):∃t:Nat,t < n∧p=⟨i+t,j+t⟩:=by
 unfold S5 at h
 obtain ⟨t,h1,h2⟩:=List.mem_map.1 h
 exact ⟨t,List.mem_range.1 h1,h2.symm⟩
theorem E71 {x y:List Str}:∀(l:List Change) (k0:Nat) (i j:Int),M5 k0 i j l x.length y.length=true→B10 x y i j l→0≤i→0≤j→∀p∈A84 i j l x.length,EqAt x y p
 | [],k0,i,j,hs,he,hi,hj,p,hp=>by
  simp only [M5,decide_eq_true_eq] at hs
  unfold A84 at hp
  obtain ⟨t,ht,rfl⟩:=D66 hp
  have he:sub x i x.length=sub y j y.length:=he
  exact ⟨by dsimp only;omega,by dsimp only;omega,G09 he hi hj (by omega) (by omega) (by omega)⟩
 | c::r,k0,i,j,hs,he,hi,hj,p,hp=>by
  have hok:=B61 _ _ _ _ _ _ hs
  have g:=A16 x.length y.length (c::r) k0 i j hs 0 (by simp)
  obtain ⟨g1,g2,g3,g4,g5,g6,g7,_⟩:=g
  have g1:L7 c.Old:=g1
  have g2:L7 c.OldLen:=g2
  have g3:L7 c.New:=g3
  have g4:L7 c.NewLen:=g4
  have g6:c.Old - i=c.New - j:=g6
  have g7:i≤c.Old:=g7
  simp only [M5,J61,decide_eq_true_eq] at hs
  unfold A84 at hp
  unfold L7 at g1 g2 g3 g4
  have hm:=hok.2.2.2.2.2.2.end_le
  rcases List.mem_append.1 hp with hp | hp
  ·obtain ⟨t,ht,rfl⟩:=D66 hp
   exact ⟨by dsimp only;omega,by dsimp only;omega,G09 he.1 hi hj (by omega) (by omega) (by omega)⟩
  ·rw [show max i c.Old+c.OldLen=c.Old+c.OldLen by omega,show j+((c.Old - i).toNat:Int)+c.NewLen=c.New+c.NewLen by omega] at hp
   exact E71 r (k0+1) _ _ hs.2 he.2 (by omega) (by omega) p hp
theorem ScFit.pairs {x y:List Str} {l:List Change} (h:ScFit x y l):∀p∈I76 l x.length,EqAt x y p:=E71 l 0 0 0 h.sc h.eq (Int.le_refl _) (Int.le_refl _)
def D24 (c:Change):Change:=⟨c.Old+1,c.OldLen,c.New+1,c.NewLen⟩
def B17 (l:List Change) (k:Nat):List Change:=l.set k (D24 (cAt l k))
def atI (t:List Int) (i:Int):Int:=t.getD i.toNat 0
def I27 (l:List Change) (k:Nat) (t:List Int) (f n:Int):Prop:=(f+n < t.length∧atI t f=atI t (f+n))∧(k+1=l.length∨(cAt l k).Old+(cAt l k).OldLen+1 < (cAt l (k+1)).Old)
instance (l:List Change) (k:Nat) (t:List Int) (f n:Int):Decidable (I27 l k t f n):=by unfold I27;exact inferInstance
def D93 (l:List Change) (a b:List Int) (k:Nat):Bool :=
 if (cAt l k).NewLen=0 then decide (I27 l k a (cAt l k).Old (cAt l k).OldLen) else if (cAt l k).OldLen=0 then decide (I27 l k b (cAt l k).New (cAt l k).NewLen) else false
theorem j8 (l:List Change) (k:Nat):(B17 l k).length=l.length:=by simp [B17]
theorem B79 (l:List Change) {k:Nat} (hk:k < l.length) (q:Nat):cAt (B17 l k) q=if q=k then D24 (cAt l k) else cAt l q:=by
 unfold B17
 by_cases h:q=k
 ·subst h
  have:∀z,cAt (l.set q z) q=z:=fun z=>by unfold cAt;simp [hk]
  rw [if_pos rfl,this]
 ·rw [if_neg h];unfold cAt
  simp only [J65]
  rw [List.getElem?_set_ne (Ne.symm h)]
theorem C78 (l:List Change) {k:Nat} (hk:k < l.length) (q:Nat):eoI 0 (B17 l k) q=eoI 0 l q+(if q=k+1 then 1 else 0):=by
 cases q with
 | zero=>simp [eoI]
 | succ q =>
  rw [B63,B63,B79 l hk]
  by_cases h:q=k
  ·subst h;rw [if_pos rfl,if_pos rfl];simp only [v8,D24];omega
  ·rw [if_neg h,if_neg (by omega)];omega
theorem C79 (l:List Change) {k:Nat} (hk:k < l.length) (q:Nat):enI 0 (B17 l k) q=enI 0 l q+(if q=k+1 then 1 else 0):=by
 cases q with
 | zero=>simp [enI]
 | succ q =>
  rw [B64,B64,B79 l hk]
  by_cases h:q=k
  ·subst h;rw [if_pos rfl,if_pos rfl];simp only [B62,D24];omega
  ·rw [if_neg h,if_neg (by omega)];omega
structure IdsOf (x:List Str) (a:List Int):Prop where
 len:a.length=x.length
 inj:∀(i j:Nat) (u v:Str) (z:Int),x[i]?=some u→x[j]?=some v→a[i]?=some z→a[j]?=some z→u=v
theorem ScFit.down {x y:List Str} {l:List Change} {a b:List Int} (h:ScFit x y l) (ha:IdsOf x a) (hb:IdsOf y b) {k:Nat} (hk:k < l.length) (hd:D93 l a b k=true):ScFit x y (B17 l k):=by
 have hlx:=h.lx
 have hly:=h.ly
 have hg:=A16 _ _ _ 0 0 0 h.sc
 have hge:=H75 _ _ _ 0 0 0 h.sc
 have hq:=G05 _ _ _ _ _ h.eq
 have hqe:=H76 _ _ _ _ _ h.eq
 have hok:=h.ok
 obtain ⟨c,hc⟩:∃c,c=cAt l k:=⟨_,rfl⟩
 obtain ⟨g1,g2,g3,g4,g5,g6,g7,g8⟩:=hg k hk
 have hb4:=hok.get k hk
 rw [←hc] at g1 g2 g3 g4 g5 g6 g7 g8 hb4
 unfold L7 at g1 g2 g3 g4
 have eo1:eoI 0 l (k+1)=c.Old+c.OldLen:=by rw [B63,←hc];rfl
 have en1:enI 0 l (k+1)=c.New+c.NewLen:=by rw [B64,←hc];rfl
 obtain ⟨E,E',hE1,hE2,hE3,hE4,hE5,hEn⟩:∃E E':Int,sub x (c.Old+c.OldLen) E=sub y (c.New+c.NewLen) E'∧E - (c.Old+c.OldLen)=E' - (c.New+c.NewLen)∧E≤x.length∧E'≤y.length∧(c.Old+c.OldLen < E)∧(k+1 < l.length→E=(cAt l (k+1)).Old∧E'=(cAt l (k+1)).New∧c.Old+c.OldLen+1 < E):=by
  by_cases hl:k+1=l.length
  ·rw [←hl,eo1,en1] at hge hqe
   refine ⟨x.length,y.length,hqe,by omega,by omega,by omega,?_,fun q=>absurd hl (by omega)⟩
   unfold D93 at hd
   rw [←hc] at hd
   split at hd
   ·have:=(A0 hd).1.1;rw [ha.len] at this;omega
   ·split at hd
    ·have:=(A0 hd).1.1;rw [hb.len] at this;omega
    ·cases hd
  ·have hl:k+1 < l.length:=by omega
   obtain ⟨f1,f2,f3,f4,f5,f6,f7,f8⟩:=hg (k+1) hl
   have f9:=hq (k+1) hl
   have f10:=hok.get (k+1) hl
   rw [eo1,en1] at f6 f9
   rw [eo1] at f7
   unfold L7 at f2 f4
   have hroom:c.Old+c.OldLen+1 < (cAt l (k+1)).Old:=by
    unfold D93 at hd
    rw [←hc] at hd
    split at hd
    ·have:=(A0 hd).2;rw [←hc] at this;omega
    ·split at hd
     ·have:=(A0 hd).2;rw [←hc] at this;omega
     ·cases hd
   exact ⟨_,_,f9,by omega,by omega,by omega,by omega,fun _=>⟨rfl,rfl,hroom⟩⟩
 have hv:∃v,x[c.Old.toNat]?=some v∧y[c.New.toNat]?=some v:=by
  obtain ⟨v,v1,v2⟩:=G09 (t:=0) hE1 (by omega) (by omega) (by omega) hE2 (by omega)
  simp only [Int.natCast_zero,Int.add_zero] at v1 v2
  unfold D93 at hd
  rw [←hc] at hd
  split at hd
  ·rename_i hn
   have:=(A0 hd).1.2
   rw [hn,Int.add_zero] at v2
   refine ⟨v,?_,v2⟩
   have l1:c.Old.toNat < a.length:=by rw [ha.len];omega
   have l2:(c.Old+c.OldLen).toNat < a.length:=by rw [ha.len];omega
   have hx:x[c.Old.toNat]?=some x[c.Old.toNat]:=J60 (by omega)
   have ea:a[c.Old.toNat]?=some (atI a c.Old):=by unfold atI;rw [J65,J60 l1];rfl
   have eb:a[(c.Old+c.OldLen).toNat]?=some (atI a (c.Old+c.OldLen)):=by unfold atI;rw [J65,J60 l2];rfl
   rw [←this] at eb
   have:=ha.inj _ _ _ _ _ hx v1 ea eb
   rw [hx,this]
  ·split at hd
   ·rename_i _ hn
    have:=(A0 hd).1.2
    rw [hn,Int.add_zero] at v1
    refine ⟨v,v1,?_⟩
    have l1:c.New.toNat < b.length:=by rw [hb.len];omega
    have l2:(c.New+c.NewLen).toNat < b.length:=by rw [hb.len];omega
    have hx:y[c.New.toNat]?=some y[c.New.toNat]:=J60 (by omega)
    have ea:b[c.New.toNat]?=some (atI b c.New):=by unfold atI;rw [J65,J60 l1];rfl
    have eb:b[(c.New+c.NewLen).toNat]?=some (atI b (c.New+c.NewLen)):=by unfold atI;rw [J65,J60 l2];rfl
    rw [←this] at eb
    have:=hb.inj _ _ _ _ _ hx v2 ea eb
    rw [hx,this]
   ·cases hd
 obtain ⟨v,v1,v2⟩:=hv
 have hen0:0≤eoI 0 l k∧0≤enI 0 l k:=by
  cases k with
  | zero=>simp [eoI,enI]
  | succ k =>
   obtain ⟨f1,f2,f3,f4,_⟩:=hg k (by omega)
   unfold L7 at f1 f2 f3 f4
   rw [B63,B64];unfold v8 B62;omega
 have htail:sub x (c.Old+c.OldLen+1) E=sub y (c.New+c.NewLen+1) E':=by
  have:=E61 (e:=E - (c.Old+c.OldLen) - 1) hE1 (by omega) (by omega) (by omega) (by omega) hE2
  rw [show E - (E - (c.Old+c.OldLen) - 1)=c.Old+c.OldLen+1 by omega,show E' - (E - (c.Old+c.OldLen) - 1)=c.New+c.NewLen+1 by omega] at this
  exact this
 refine ⟨hlx,hly,I24 _ _ _ 0 0 0 (fun q hql=>?_) ?_,I25 _ _ _ 0 0 (fun q hql=>?_) ?_⟩
 ·rw [j8] at hql
  rw [B79 l hk,C78 l hk,C79 l hk]
  by_cases e:q=k
  ·rw [if_pos e,if_neg (show ¬q=k+1 by omega),e,←hc]
   unfold L7
   simp only [D24]
   refine ⟨by omega,g2,by omega,g4,g5,by omega,by omega,fun _=>by omega⟩
  ·rw [if_neg e]
   obtain ⟨f1,f2,f3,f4,f5,f6,f7,f8⟩:=hg q hql
   refine ⟨f1,f2,f3,f4,f5,?_,?_,?_⟩
   ·by_cases e2:q=k+1
    ·rw [if_pos e2];omega
    ·rw [if_neg e2];omega
   ·by_cases e2:q=k+1
    ·rw [if_pos e2];have:=f8 (by omega);omega
    ·rw [if_neg e2];omega
   ·intro h0
    by_cases e2:q=k+1
    ·rw [if_pos e2,e2,eo1]
     have:=(hEn (by omega))
     omega
    ·rw [if_neg e2];have:=f8 h0;omega
 ·rw [j8,C78 l hk,C79 l hk]
  by_cases e2:l.length=k+1
  ·rw [if_pos e2,e2,eo1,en1]
   rw [e2,eo1,en1] at hge
   have h1:E≤x.length:=hE3
   omega
  ·rw [if_neg e2];omega
 ·rw [j8] at hql
  rw [B79 l hk,C78 l hk,C79 l hk]
  by_cases e:q=k
  ·rw [if_pos e,if_neg (show ¬q=k+1 by omega),e,←hc]
   simp only [D24,Int.add_zero]
   have:=hq k hk
   rw [←hc] at this
   rw [A86 hen0.1 g7 v1,A86 hen0.2 (by omega) v2,this]
  ·rw [if_neg e]
   by_cases e2:q=k+1
   ·rw [if_pos e2]
    subst e2
    obtain ⟨q1,q2,_⟩:=hEn hql
    rw [eo1,en1,←q1,←q2];exact htail
   ·rw [if_neg e2,Int.add_zero,Int.add_zero]
    exact hq q hql
 ·rw [j8,C78 l hk,C79 l hk]
  by_cases e2:l.length=k+1
  ·rw [if_pos e2]
   rw [e2,eo1,en1] at hqe hge ⊢
   have:=E61 (e:=x.length - (c.Old+c.OldLen) - 1) hqe (by omega) (by omega) (by omega) (by omega) (by omega)
   rw [show (x.length:Int) - (x.length - (c.Old+c.OldLen) - 1)=c.Old+c.OldLen+1 by omega,show (y.length:Int) - (x.length - (c.Old+c.OldLen) - 1)=c.New+c.NewLen+1 by omega] at this
   exact this
  ·rw [if_neg e2,Int.add_zero,Int.add_zero];exact hqe
section
variable {x y:List Str} {a b:List Int} (ha:IdsOf x a) (hb:IdsOf y b)
include ha hb
end
end Go.AL
namespace Go.AL
open Go
structure Made12 (on nn a b:Str) (l:List Change) (ctx:Int):Prop where
 chk:C72 ⟨on,nn,Z7 l (F8 a) (F8 b) ctx⟩=0
 wr:(I21 ⟨on,nn,Z7 l (F8 a) (F8 b) ctx⟩).length≤16777216
 fit:PFit ⟨on,nn,Z7 l (F8 a) (F8 b) ctx⟩
 rg:∀h∈Z7 l (F8 a) (F8 b) ctx,(-4611686018427387904≤h.Old∧h.Old≤4611686018427387904)∧(-4611686018427387904≤h.New∧h.New≤4611686018427387904)
 sz:szP (Z7 l (F8 a) (F8 b) ctx)≤268435456
end Go.AL
namespace Go.AL
open Go
section
variable {x y:List Str} {l:List Change}
end
end Go.AL
namespace Go.AL
open Go
end Go.AL
namespace Go.AL
open Go
end Go.AL
namespace Go.AL
open Go
theorem check12_good {p:Patch} (h:C72 p=0):D20 p.Hunks=true:=by
 unfold C72 at h
 split at h
 ·cases h
 ·split at h
  ·cases h
  ·rename_i h1;simpa using h1
end Go.AL
namespace Go.AL
open Go
structure CHunk where
 At:List Int
 Rows:List Row
 deriving DecidableEq
structure Comb where
 Path:Str
 Dense:Bool
 Parents:Int
 Hunks:List CHunk
 deriving DecidableEq
def colNum (n k:Nat):Int:=if k=n then -1 else k
def cntC (rows:List Row) (n k:Nat):Int:=(colOf rows (colNum n k)).length
structure CRead (n:Nat) (h:CHunk):Prop where
 len:h.At.length=n+1
 ne:h.Rows≠[]
 at0:∀k,k < n+1→0≤h.At.getD k 0∧h.At.getD k 0+cntC h.Rows n k≤4096
 rows:∀r∈h.Rows,markOk n r=true∧a7 r.Text=true
end Go.AL
namespace Go.AL
open Go
end Go.AL
namespace Go.AL
open Go
theorem getI {l:List Int} {i:Nat} (h:i < l.length):l[i]?=some (l.getD i 0):=by simp [h]
end Go.AL
namespace Go.AL
open Go
end Go.AL
namespace Go.AL
open Go
abbrev I28:Bool→Nat→Cell:=fun b _=>.v (.bool b)
end Go.AL
namespace Go.AL
open Go
def X6 (l:List Int) (i j:Nat):List Int:=(l.set i (atG l j)).set j (atG l i)
def upH (bf:Int→Int→Bool):Nat→List Int→Nat→List Int
 | 0,l,_=>l
 | f+1,l,j=>if (j - 1) / 2=j∨bf (atG l j) (atG l ((j - 1) / 2))=false then l else upH bf f (X6 l ((j - 1) / 2) j) ((j - 1) / 2)
def D82 (bf:Int→Int→Bool) (n:Nat) (l:List Int) (i:Nat):Nat:=if 2*i+2 < n∧bf (atG l (2*i+2)) (atG l (2*i+1))=true then 2*i+2 else 2*i+1
def A17 (bf:Int→Int→Bool) (n:Nat):Nat→List Int→Nat→List Int
 | 0,l,_=>l
 | f+1,l,i=>if n≤2*i+1 then l else if bf (atG l (D82 bf n l i)) (atG l i)=false then l else A17 bf n f (X6 l i (D82 bf n l i)) (D82 bf n l i)
def C80 (bf:Int→Int→Bool) (l:List Int) (x:Int):List Int:=upH bf (l.length+1) (l++[x]) l.length
def C35 (bf:Int→Int→Bool) (l:List Int):List Int:=A17 bf (l.length - 1) l.length (X6 l 0 (l.length - 1)) 0
theorem N1 (l:List Int) (i j:Nat):(X6 l i j).length=l.length:=by simp [X6]
theorem Z2 {l:List Int} {i j:Nat} (hi:i < l.length) (hj:j < l.length) (k:Nat):atG (X6 l i j) k=if k=j then atG l i else if k=i then atG l j else atG l k:=by
 unfold X6
 rw [A44 (by rw [J83];exact hj),A44 hi]
 simp only [@eq_comm Nat j k,@eq_comm Nat i k]
theorem O1 {l:List Int} {k:Nat} (h:k < l.length):atG l k=l[k]:=by unfold atG;rw [J60 h];rfl
theorem F45 {l:List Int} {i j:Nat} (hi:i < l.length) (hj:j < l.length) (x:Int):x∈X6 l i j↔x∈l:=by
 have sub:∀{l:List Int} {i j:Nat},i < l.length→j < l.length→∀x,x∈X6 l i j→x∈l:=by
  intro l i j hi hj x hx
  obtain ⟨k,hk,e⟩:=List.getElem_of_mem hx
  rw [←O1 hk,Z2 hi hj] at e
  rw [N1] at hk
  split at e
  ·rw [←e,O1 hi];exact J66 hi
  ·split at e
   ·rw [←e,O1 hj];exact J66 hj
   ·rw [←e,O1 hk];exact J66 hk
 refine ⟨sub hi hj x,fun hx=>?_⟩
 have e:X6 (X6 l i j) i j=l:=by
  refine List.ext_getElem (by rw [N1,N1]) fun k h1 h2=>?_
  rw [←O1 h1,←O1 h2,Z2 (by rw [N1];exact hi) (by rw [N1];exact hj),Z2 hi hj,Z2 hi hj,Z2 hi hj]
  by_cases h3:k=j
  ·subst h3
   rw [if_pos rfl]
   by_cases h4:i=k
   ·rw [if_pos h4,h4]
   ·rw [if_neg h4,if_pos rfl]
  ·rw [if_neg h3]
   by_cases h4:k=i
   ·rw [if_pos h4,if_pos rfl,h4]
   ·rw [if_neg h4,if_neg h3,if_neg h4]
 exact sub (by rw [N1];exact hi) (by rw [N1];exact hj) x (by rw [e];exact hx)
theorem J29 {l:List Int}:l.Nodup↔∀i j,i < l.length→j < l.length→atG l i=atG l j→i=j:=by
 constructor
 ·intro h i j hi hj e
  rw [O1 hi,O1 hj] at e
  exact (List.getElem_inj h).1 e
 ·intro h
  rw [List.Nodup,List.pairwise_iff_getElem]
  intro i j hi hj hlt e
  have:=h i j hi hj (by rw [O1 hi,O1 hj];exact e)
  omega
theorem G95 {l:List Int} {i j:Nat} (hi:i < l.length) (hj:j < l.length) (h:l.Nodup):(X6 l i j).Nodup:=by
 rw [J29] at h ⊢
 intro a b ha hb e
 rw [N1] at ha hb
 rw [Z2 hi hj,Z2 hi hj] at e
 by_cases a1:a=j<;>by_cases b1:b=j
 ·omega
 ·rw [if_pos a1,if_neg b1] at e
  by_cases b2:b=i
  ·rw [if_pos b2] at e;have:=h _ _ hi hj e;omega
  ·rw [if_neg b2] at e;have:=h _ _ hi hb e;omega
 ·rw [if_neg a1,if_pos b1] at e
  by_cases a2:a=i
  ·rw [if_pos a2] at e;have:=h _ _ hj hi e;omega
  ·rw [if_neg a2] at e;have:=h _ _ ha hi e;omega
 ·rw [if_neg a1,if_neg b1] at e
  by_cases a2:a=i<;>by_cases b2:b=i
  ·omega
  ·rw [if_pos a2,if_neg b2] at e;have:=h _ _ hj hb e;omega
  ·rw [if_neg a2,if_pos b2] at e;have:=h _ _ ha hj e;omega
  ·rw [if_neg a2,if_neg b2] at e;exact h _ _ ha hb e
structure SameL (l m:List Int):Prop where
 len:m.length=l.length
 mem:∀x,x∈m↔x∈l
 nodup:l.Nodup→m.Nodup
theorem SameL.refl (l:List Int):SameL l l:=⟨rfl,fun _=>Iff.rfl,id⟩
theorem SameL.trans {a b c:List Int} (h:SameL a b) (h2:SameL b c):SameL a c:=⟨h2.len.trans h.len,fun x=>(h2.mem x).trans (h.mem x),fun hn=>h2.nodup (h.nodup hn)⟩
theorem SameL.swap {l:List Int} {i j:Nat} (hi:i < l.length) (hj:j < l.length):SameL l (X6 l i j):=⟨N1 l i j,F45 hi hj,G95 hi hj⟩
structure Weak (bf:Int→Int→Bool):Prop where
 irr:∀a,bf a a=false
 asy:∀{a b},bf a b=true→bf b a=false
 ntr:∀{a b c},bf a b=false→bf b c=false→bf a c=false
def C81 (bf:Int→Int→Bool) (n:Nat) (l:List Int):Prop:=∀k,k < n→0 < k→bf (atG l k) (atG l ((k - 1) / 2))=false
theorem I83 {bf:Int→Int→Bool} (w:Weak bf) {n:Nat} {l:List Int} (h:C81 bf n l):∀k,k < n→bf (atG l k) (atG l 0)=false:=by
 intro k
 induction k using Nat.strongRecOn with
 | _ k ih =>
  intro hk
  by_cases h0:k=0
  ·subst h0;exact w.irr _
  ·exact w.ntr (h k hk (by omega)) (ih ((k - 1) / 2) (by omega) (by omega))
theorem G96 {bf:Int→Int→Bool} (w:Weak bf) {n:Nat}:∀(f j:Nat) (l:List Int),j < f→j < n→n≤l.length →
  (∀k,k < n→0 < k→k≠j→bf (atG l k) (atG l ((k - 1) / 2))=false)→(∀k,k < n→0 < k→(k - 1) / 2=j→0 < j→bf (atG l k) (atG l ((j - 1) / 2))=false) →
  C81 bf n (upH bf f l j)∧SameL l (upH bf f l j)
 | 0,j,l,hf,_,_,_,_=>by omega
 | f + 1,j,l,hf,hj,hl,h1,h2=>by
  unfold upH
  split
  ·rename_i h
   refine ⟨fun k hk h0=>?_,SameL.refl l⟩
   by_cases e:k=j
   ·subst e
    rcases h with h | h
    ·omega
    ·exact h
   ·exact h1 k hk h0 e
  ·rename_i h
   have hne:(j - 1) / 2≠j:=fun e=>h (.inl e)
   have hlt:bf (atG l j) (atG l ((j - 1) / 2))=true:=by
    cases hb:bf (atG l j) (atG l ((j - 1) / 2))
    ·exact absurd (.inr hb) h
    ·rfl
   have hi:(j - 1) / 2 < l.length:=by omega
   have hjl:j < l.length:=by omega
   have hsw:=Z2 hi hjl
   obtain ⟨a,b⟩:=G96 (n:=n) w f ((j - 1) / 2) (X6 l ((j - 1) / 2) j) (by omega) (by omega) (by rw [N1];exact hl) (fun k hk h0 hne2=>by
    rw [hsw,hsw]
    by_cases e1:k=j
    ·rw [if_pos e1,e1,if_neg (by omega),if_pos rfl];exact w.asy hlt
    ·rw [if_neg e1,if_neg hne2]
     by_cases e2:(k - 1) / 2=j
     ·rw [if_pos e2];exact h2 k hk h0 e2 (by omega)
     ·rw [if_neg e2]
      by_cases e3:(k - 1) / 2=(j - 1) / 2
      ·rw [if_pos e3]
       have h3:=h1 k hk h0 e1
       rw [e3] at h3
       exact w.ntr h3 (w.asy hlt)
      ·rw [if_neg e3];exact h1 k hk h0 e1) (fun k hk h0 e h3=>by
    rw [hsw,hsw,if_neg (show ¬((j - 1) / 2 - 1) / 2=j by omega),if_neg (show ¬((j - 1) / 2 - 1) / 2=(j - 1) / 2 by omega)]
    have h4:=h1 ((j - 1) / 2) (by omega) h3 (by omega)
    by_cases e1:k=j
    ·rw [if_pos e1];exact h4
    ·rw [if_neg e1,if_neg (by omega)]
     have h5:=h1 k hk h0 e1
     rw [e] at h5
     exact w.ntr h5 h4)
   exact ⟨a,(SameL.swap hi hjl).trans b⟩
theorem G97 {bf:Int→Int→Bool} (w:Weak bf) {l:List Int} (x:Int) (h:C81 bf l.length l):C81 bf (l.length+1) (C80 bf l x)∧SameL (l++[x]) (C80 bf l x):=by
 unfold C80
 have hat:∀k,k < l.length→atG (l++[x]) k=atG l k:=fun k hk=>by unfold atG;rw [J75 hk]
 refine G96 w (n:=l.length+1) (l.length+1) l.length (l++[x]) (by omega) (by omega) (by simp) (fun k hk h0 hne=>?_) (fun k hk h0 e h1=>by omega)
 rw [hat k (by omega),hat _ (by omega)]
 exact h k (by omega) h0
theorem I29 {bf:Int→Int→Bool} {n:Nat} {l:List Int} {i:Nat} (h:2*i+1 < n):D82 bf n l i < n∧(D82 bf n l i - 1) / 2=i∧i < D82 bf n l i:=by
 unfold D82;split<;>omega
theorem J30 {bf:Int→Int→Bool} (w:Weak bf) {n:Nat} {l:List Int} {i k:Nat} (hk:k < n) (h0:0 < k) (e:(k - 1) / 2=i):bf (atG l k) (atG l (D82 bf n l i))=false:=by
 unfold D82
 split
 ·rename_i h
  by_cases e1:k=2*i+2
  ·rw [e1];exact w.irr _
  ·rw [show k=2*i+1 by omega];exact w.asy h.2
 ·rename_i h
  by_cases e1:k=2*i+1
  ·rw [e1];exact w.irr _
  ·have e2:k=2*i+2:=by omega
   rw [e2]
   cases hb:bf (atG l (2*i+2)) (atG l (2*i+1))
   ·rfl
   ·exact absurd ⟨by omega,hb⟩ h
theorem E72 {bf:Int→Int→Bool} (w:Weak bf) {n:Nat}:∀(f i:Nat) (l:List Int),n≤i+f→n≤l.length →
  (∀k,k < n→0 < k→(k - 1) / 2≠i→bf (atG l k) (atG l ((k - 1) / 2))=false)→(∀k,k < n→0 < k→(k - 1) / 2=i→0 < i→bf (atG l k) (atG l ((i - 1) / 2))=false) →
  C81 bf n (A17 bf n f l i)∧SameL l (A17 bf n f l i)∧∀k,n≤k→atG (A17 bf n f l i) k=atG l k
 | 0,i,l,hf,_,h1,h2=>by
  unfold A17
  exact ⟨fun k hk h0=>h1 k hk h0 (by omega),SameL.refl l,fun _ _=>rfl⟩
 | f + 1,i,l,hf,hl,h1,h2=>by
  unfold A17
  split
  ·exact ⟨fun k hk h0=>h1 k hk h0 (by omega),SameL.refl l,fun _ _=>rfl⟩
  ·rename_i hn
   obtain ⟨c1,c2,c3⟩:=I29 (bf:=bf) (l:=l) (show 2*i+1 < n by omega)
   have c4:=fun k hk h0 e=>J30 (bf:=bf) w (n:=n) (l:=l) (i:=i) (k:=k) hk h0 e
   generalize D82 bf n l i=j at c1 c2 c3 c4
   split
   ·rename_i h
    refine ⟨fun k hk h0=>?_,SameL.refl l,fun _ _=>rfl⟩
    by_cases e:(k - 1) / 2=i
    ·rw [e];exact w.ntr (c4 k hk h0 e) h
    ·exact h1 k hk h0 e
   ·rename_i h
    have hlt:bf (atG l j) (atG l i)=true:=by simpa using h
    have hi:i < l.length:=by omega
    have hj:j < l.length:=by omega
    have hsw:=Z2 hi hj
    obtain ⟨a,b,c⟩:=E72 (n:=n) w f j (X6 l i j) (by omega) (by rw [N1];exact hl) (fun k hk h0 hne=>by
     rw [hsw,hsw]
     rw [if_neg (show ¬(k - 1) / 2=j from hne)]
     by_cases e1:k=j
     ·rw [if_pos e1]
      rw [e1,if_pos c2];exact w.asy hlt
     ·rw [if_neg e1]
      by_cases e2:(k - 1) / 2=i
      ·rw [if_pos e2,if_neg (by omega)];exact c4 k hk h0 e2
      ·rw [if_neg e2]
       by_cases e3:k=i
       ·rw [if_pos e3,e3]
        exact h2 j c1 (by omega) c2 (by omega)
       ·rw [if_neg e3];exact h1 k hk h0 e2) (fun k hk h0 e h3=>by
     rw [hsw,hsw,if_neg (by omega),if_neg (by omega),c2,if_neg (by omega),if_pos rfl]
     have:=h1 k hk h0 (by omega)
     rw [e] at this;exact this)
    refine ⟨a,(SameL.swap hi hj).trans b,fun k hk=>?_⟩
    rw [c k hk,hsw,if_neg (by omega),if_neg (by omega)]
theorem popH_ok {bf:Int→Int→Bool} (w:Weak bf) {l:List Int} (h:C81 bf l.length l) (hl:0 < l.length) :
  C81 bf (l.length - 1) (C35 bf l)∧SameL l (C35 bf l)∧atG (C35 bf l) (l.length - 1)=atG l 0:=by
 unfold C35
 have h0:0 < l.length:=hl
 have h1:l.length - 1 < l.length:=by omega
 have hsw:=Z2 h0 h1
 obtain ⟨a,b,c⟩:=E72 w (n:=l.length - 1) l.length 0 (X6 l 0 (l.length - 1)) (by omega) (by rw [N1];omega) (fun k hk hk0 hne=>by
  rw [hsw,hsw,if_neg (by omega),if_neg (by omega),if_neg (by omega),if_neg hne]
  exact h k (by omega) hk0) (fun k hk hk0 e h3=>by omega)
 refine ⟨a,(SameL.swap h0 h1).trans b,?_⟩
 rw [c _ (Nat.le_refl _),hsw,if_pos rfl]
end Go.AL
namespace Go.AL
open Go
def x5 (g:Graph) (c:Nat):Int:=(g[c]?.map (·.Date)).getD 0
def Q6 (g:Graph) (a b:Int):Bool:=decide (x5 g a.toNat > x5 g b.toNat∨(x5 g a.toNat=x5 g b.toNat∧a < b))
theorem B80 (g:Graph):Weak (Q6 g) where
 irr:=fun a=>by unfold Q6;rw [decide_eq_false_iff_not];omega
 asy:=fun {a b} h=>by unfold Q6 at h ⊢;rw [decide_eq_true_eq] at h;rw [decide_eq_false_iff_not];omega
 ntr:=fun {a b c} h h2=>by unfold Q6 at h h2 ⊢;rw [decide_eq_false_iff_not] at h h2 ⊢;omega
def x6 (g:Graph) (inn:List Bool) (L:List Int) (c:Nat):Bool:=K7 inn c&&decide ((c:Int)∉L)&&(List.range g.length).all fun k=>!(decide ((c:Int)∈F1 g k)&&K7 inn k&&decide ((k:Int)∉L))
def C36 (g:Graph) (inn:List Bool) (L:List Int):Nat→Int
 | 0 => -1
 | m+1=>if x6 g inn L m=true∧(C36 g inn L m < 0∨x5 g m > x5 g (C36 g inn L m).toNat) then m else C36 g inn L m
def A48 (g:Graph) (inn:List Bool) (L:List Int):Int:=C36 g inn L g.length
def D25 (g:Graph) (inn:List Bool):Nat→List Int→List Int
 | 0,L=>L
 | f+1,L=>if A48 g inn L < 0 then L else D25 g inn f (L++[A48 g inn L])
def C82 (g:Graph) (s:List Int):List Int:=D25 g (Q9 g s) (g.length+1) []
theorem B81 (g:Graph) (inn:List Bool) (L:List Int):∀m,(C36 g inn L m = -1∧∀c,c < m→x6 g inn L c=false)∨∃b:Nat,b < m∧C36 g inn L m=b∧x6 g inn L b=true∧∀c,c < m→x6 g inn L c=true→c≠b→Q6 g b c=true
 | 0=>.inl ⟨rfl,fun _ h=>by omega⟩
 | m + 1=>by
  rw [C36]
  rcases B81 g inn L m with ⟨h1,h2⟩ | ⟨b,h1,h2,h3,h4⟩
  ·rw [h1]
   cases hr:x6 g inn L m
   ·rw [if_neg (by simp)]
    exact .inl ⟨rfl,fun c hc=>by
     by_cases e:c=m
     ·rw [e];exact hr
     ·exact h2 c (by omega)⟩
   ·rw [if_pos ⟨rfl,.inl (by omega)⟩]
    exact .inr ⟨m,by omega,rfl,hr,fun c hc hcr hne=>by rw [h2 c (by omega)] at hcr;cases hcr⟩
  ·rw [h2]
   split
   ·rename_i h
    have hd:x5 g m > x5 g b:=by
     rcases h.2 with h | h
     ·omega
     ·simpa using h
    refine .inr ⟨m,by omega,rfl,h.1,fun c hc hcr hne=>?_⟩
    unfold Q6
    rw [decide_eq_true_eq,J62,J62]
    by_cases e:c=b
    ·subst e;exact .inl hd
    ·have:=A0 (h4 c (by omega) hcr e)
     rw [J62,J62] at this
     omega
   ·rename_i h
    refine .inr ⟨b,by omega,rfl,h3,fun c hc hcr hne=>?_⟩
    by_cases e:c=m
    ·subst e
     unfold Q6
     rw [decide_eq_true_eq,J62,J62]
     have:¬x5 g c > x5 g b:=fun hd=>h ⟨hcr,.inr (by simpa using hd)⟩
     omega
    ·exact h4 c (by omega) hcr hne
theorem H82 {g:Graph} {inn:List Bool} {L:List Int} (h:∀c,c < g.length→x6 g inn L c=false):A48 g inn L = -1:=by
 rcases B81 g inn L g.length with h1 | ⟨b,h1,_,h3,_⟩
 ·exact h1.1
 ·rw [h b h1] at h3;cases h3
theorem J31 {g:Graph} {inn:List Bool} {L:List Int} {b:Nat} (hb:b < g.length) (hr:x6 g inn L b=true) (h:∀c,c < g.length→x6 g inn L c=true→Q6 g c b=false):A48 g inn L=b:=by
 rcases B81 g inn L g.length with h1 | ⟨b',h1,h2,h3,h4⟩
 ·rw [h1.2 b hb] at hr;cases hr
 ·unfold A48
  rw [h2]
  by_cases e:b=b'
  ·rw [e]
  ·have:=h4 b hb hr e
   rw [h b' h1 h3] at this;cases this
theorem I84 {g:Graph} {inn:List Bool} {L:List Int} (h:0≤A48 g inn L):∃b:Nat,b < g.length∧A48 g inn L=b∧K7 inn b=true∧(b:Int)∉L:=by
 rcases B81 g inn L g.length with h1 | ⟨b,h1,h2,h3,_⟩
 ·have:A48 g inn L = -1:=h1.1
  omega
 ·unfold x6 at h3
  rw [J61,J61,decide_eq_true_eq] at h3
  exact ⟨b,h1,h2,h3.1.1,h3.1.2⟩
theorem I85 {g:Graph} {inn:List Bool} {f:Nat} {L:List Int} (hf:0 < f) (h:0≤A48 g inn L):D25 g inn f L=D25 g inn (f - 1) (L++[A48 g inn L]):=by
 obtain ⟨f,rfl⟩:∃k,f=k+1:=⟨f - 1,by omega⟩
 rw [D25,if_neg (by omega)];rfl
theorem J32 {g:Graph} {inn:List Bool} {f:Nat} {L:List Int} (h:A48 g inn L < 0):D25 g inn f L=L:=by
 cases f with
 | zero=>rfl
 | succ f=>rw [D25,if_pos h]
theorem G98 {g:Graph} {inn:List Bool}:∀(f:Nat) (L:List Int),L.Nodup→(∀x∈L,0≤x∧x < g.length)→(D25 g inn f L).Nodup∧∀x∈D25 g inn f L,0≤x∧x < g.length
 | 0,L,h,h2=>⟨h,h2⟩
 | f+1,L,h,h2=>by
  rw [D25]
  split
  ·exact ⟨h,h2⟩
  ·rename_i hb
   obtain ⟨b,b1,b2,_,b4⟩:=I84 (g:=g) (inn:=inn) (L:=L) (by omega)
   rw [b2]
   refine G98 f _ (List.nodup_append.2 ⟨h,by simp,fun x hx y hy e=>by rw [List.mem_singleton.1 hy] at e;exact b4 (e ▸ hx)⟩) fun x hx=>?_
   rcases List.mem_append.1 hx with hx | hx
   ·exact h2 x hx
   ·rw [List.mem_singleton.1 hx];omega
theorem D67 (g:Graph) (s:List Int):(C82 g s).Nodup∧∀x∈C82 g s,0≤x∧x < g.length:=G98 _ [] List.nodup_nil fun _ h=>by cases h
def D26 (g:Graph) (inn:List Bool) (ex:List Int) (p:Nat):Nat:=(List.range g.length).countP fun c:Nat=>K7 inn c&&decide ((c:Int)∉ex∧(p:Int)∈F1 g c)
theorem F46 {g:Graph} {inn:List Bool} {ex:List Int} {x p:Nat} (hx:(x:Int)∉ex) (hlt:x < g.length) (hon:K7 inn x=true):D26 g inn ex p=D26 g inn (ex++[(x:Int)]) p+(if (p:Int)∈F1 g x then 1 else 0):=by
 unfold D26
 rw [C28 (q:=fun c=>K7 inn c&&decide ((c:Int)∉ex∧(p:Int)∈F1 g c)) (r:=fun c=>K7 inn c&&decide ((c:Int)∉ex++[(x:Int)]∧(p:Int)∈F1 g c)) x (fun y=>?_) List.nodup_range]
 ·congr 1
  simp only [K12,hlt,true_and,decide_eq_true_eq,hx,not_false_eq_true,hon,Bool.true_and]
 ·simp only [J84,List.mem_singleton]
  by_cases h1:(y:Int)∈ex<;>by_cases h2:y=x<;>by_cases h3:(p:Int)∈F1 g y<;>cases K7 inn y<;>simp [h1,h2,h3]<;>omega
theorem I86 {g:Graph} {inn:List Bool} {ex:List Int} {p:Nat}:D26 g inn ex p=0↔∀c,c < g.length→K7 inn c=true→(p:Int)∈F1 g c→(c:Int)∈ex:=by
 unfold D26
 rw [List.countP_eq_zero]
 constructor
 ·intro h c hc ho hp
  have:=h c (List.mem_range.2 hc)
  rw [ho,Bool.true_and,decide_eq_true_eq] at this
  apply Classical.byContradiction
  exact fun hn=>this ⟨hn,hp⟩
 ·intro h c hc hh
  rw [J61,decide_eq_true_eq] at hh
  exact hh.2.1 (h c (List.mem_range.1 hc) hh.1 hh.2.2)
theorem G10 (g:Graph) (inn:List Bool) (ex:List Int) (p:Nat):D26 g inn ex p≤g.length:=by
 unfold D26
 have:=List.countP_le_length (p:=fun c=>K7 inn c&&decide ((c:Int)∉ex∧(p:Int)∈F1 g c)) (l:=List.range g.length)
 rwa [J96] at this
structure OInv (g:Graph) (inn:List Bool) (k i:Nat) (ch hp out:List Int):Prop where
 len:ch.length=g.length
 cnt:∀p,p < g.length→K7 inn p=true→atG ch p+(if (p:Int)∈(F1 g (out.getD k 0).toNat).take i then 1 else 0)=D26 g inn (out.take k) p
 off:∀p,p < g.length→K7 inn p=false→atG ch p = -1
 hpm:∀p:Nat,(p:Int)∈hp↔p < g.length∧K7 inn p=true∧(p:Int)∉out∧atG ch p=0
 hpr:∀x∈hp,0≤x∧x < g.length
 hpn:hp.Nodup
 heap:C81 (Q6 g) hp.length hp
 outn:out.Nodup
 outr:∀x∈out,0≤x∧x < g.length∧K7 inn x.toNat=true∧atG ch x.toNat=0
theorem OInv.ready {g:Graph} {inn:List Bool} {ch hp out:List Int} (h:OInv g inn out.length 0 ch hp out) {c:Nat} (hc:c < g.length):x6 g inn out c=true↔(c:Int)∈hp:=by
 rw [h.hpm]
 unfold x6
 rw [J61,J61,decide_eq_true_eq,List.all_eq_true]
 have key:K7 inn c=true→((∀x∈List.range g.length,(!(decide ((c:Int)∈F1 g x)&&K7 inn x&&decide ((x:Int)∉out)))=true)↔atG ch c=0):=by
  intro ho
  have h1:=h.cnt c hc ho
  rw [J67,List.take_zero,if_neg (by simp)] at h1
  have h2:=I86 (g:=g) (inn:=inn) (ex:=out) (p:=c)
  constructor
  ·intro hall
   have:D26 g inn out c=0:=h2.2 fun k hk hok hp=>by
    have:=hall k (List.mem_range.2 hk)
    simpa [hp,hok] using this
   omega
  ·intro h0 k hk
   cases hok:K7 inn k
   ·simp
   ·by_cases hp:(c:Int)∈F1 g k
    ·have:=h2.1 (by omega) k (List.mem_range.1 hk) hok hp
     simp [hp,this]
    ·simp [hp]
 constructor
 ·rintro ⟨⟨h1,h2⟩,h3⟩;exact ⟨hc,h1,h2,(key h1).1 h3⟩
 ·rintro ⟨_,h1,h2,h3⟩;exact ⟨⟨h1,h2⟩,(key h1).2 h3⟩
theorem OInv.fin {g:Graph} {inn:List Bool} {ch out:List Int} (h:OInv g inn out.length 0 ch [] out):A48 g inn out = -1 :=
 H82 fun c hc=>by
  cases hr:x6 g inn out c
  ·rfl
  ·have:=(h.ready hc).1 hr;cases this
theorem OInv.le {g:Graph} {inn:List Bool} {k i:Nat} {ch hp out:List Int} (h:OInv g inn k i ch hp out):out.length≤g.length∧hp.length≤g.length :=
 ⟨j5 h.outn fun x hx=>⟨(h.outr x hx).1,(h.outr x hx).2.1⟩,j5 h.hpn h.hpr⟩
theorem I87 {l m:List Int} {n:Nat} (hn:n+1=l.length) (hs:SameL l m) (hnd:l.Nodup) {x:Int} (hx:atG m n=x):(∀y,y∈m.take n↔y∈l∧y≠x)∧(m.take n).Nodup∧(m.take n).length=n:=by
 have hml:m.length=n+1:=by rw [hs.len,hn]
 have hmn:=hs.nodup hnd
 have hlt:n < m.length:=by omega
 have e:m=m.take n++[x]:=by
  have h1:m.take (n+1)=m:=J86 (by omega)
  rw [List.take_add_one,J60 hlt,Option.toList_some] at h1
  rw [O1 hlt] at hx
  rw [hx] at h1
  exact h1.symm
 have hnd2:=hmn
 rw [e,List.nodup_append] at hnd2
 refine ⟨fun y=>?_,hnd2.1,by rw [J70];omega⟩
 rw [←hs.mem y]
 constructor
 ·intro hy
  exact ⟨List.mem_of_mem_take hy,hnd2.2.2 y hy x (by simp)⟩
 ·rintro ⟨hy,hne⟩
  rw [e] at hy
  rcases List.mem_append.1 hy with hy | hy
  ·exact hy
  ·exact absurd (List.mem_singleton.1 hy) hne
theorem OInv.pop {g:Graph} {inn:List Bool} {ch hp out:List Int} (h:OInv g inn out.length 0 ch hp out) (h0:0 < hp.length) :
  A48 g inn out=atG hp 0∧OInv g inn out.length 0 ch ((C35 (Q6 g) hp).take (hp.length - 1)) (out++[atG hp 0])∧atG (C35 (Q6 g) hp) (hp.length - 1)=atG hp 0:=by
 have hm:atG hp 0∈hp:=by rw [O1 h0];exact J66 h0
 have hr:=h.hpr _ hm
 obtain ⟨c,hc⟩:∃c:Nat,atG hp 0=c:=⟨(atG hp 0).toNat,by omega⟩
 have hm2:=(h.hpm c).1 (by rw [←hc];exact hm)
 obtain ⟨p1,p2,p3⟩:=popH_ok (B80 g) h.heap h0
 obtain ⟨t1,t2,t3⟩:=I87 (n:=hp.length - 1) (by omega) p2 h.hpn p3
 have hb:A48 g inn out=c:=J31 hm2.1 ((h.ready hm2.1).2 (by rw [←hc];exact hm)) fun d hd hdr=>by
  obtain ⟨j,hj,e⟩:=List.getElem_of_mem ((h.ready hd).1 hdr)
  have:=I83 (B80 g) h.heap j hj
  rw [O1 hj,e,hc] at this
  exact this
 refine ⟨by rw [hb,hc],?_,p3⟩
 rw [hc] at t1 ⊢
 refine ⟨h.len,fun p hp ho=>?_,h.off,fun p=>?_,fun x hx=>h.hpr x ((t1 x).1 hx).1,t2,?_,?_,?_⟩
 ·have h1:=h.cnt p hp ho
  rw [List.take_zero,if_neg (by simp)] at h1 ⊢
  rw [v6 (Nat.le_refl _)]
  exact h1
 ·rw [t1,h.hpm,J84,List.mem_singleton,not_or]
  constructor
  ·rintro ⟨⟨a1,a2,a3,a4⟩,a5⟩;exact ⟨a1,a2,⟨a3,a5⟩,a4⟩
  ·rintro ⟨a1,a2,⟨a3,a5⟩,a4⟩;exact ⟨⟨a1,a2,a3,a4⟩,a5⟩
 ·rw [t3]
  intro k hk hk0
  have e:∀j,j < hp.length - 1→atG ((C35 (Q6 g) hp).take (hp.length - 1)) j=atG (C35 (Q6 g) hp) j:=fun j hj=>by
   unfold atG;rw [List.getElem?_take,if_pos hj]
  rw [e k hk,e _ (by omega)]
  exact p1 k hk hk0
 ·exact List.nodup_append.2 ⟨h.outn,by simp,fun x hx y hy e=>by rw [List.mem_singleton.1 hy] at e;exact hm2.2.2.1 (e ▸ hx)⟩
 ·intro x hx
  rcases List.mem_append.1 hx with hx | hx
  ·exact h.outr x hx
  ·rw [List.mem_singleton.1 hx,J62];exact ⟨by omega,by omega,hm2.2.1,hm2.2.2.2⟩
theorem OInv.step {g:Graph} {inn:List Bool} (hr:related g=true) (hcl:A43 g inn) {k i:Nat} {ch hp out:List Int} (h:OInv g inn k i ch hp out) (hk:k+1=out.length) {c p:Nat} (hc:out[k]?=some (c:Int)) (hi:i < (F1 g c).length) (hpp:(F1 g c)[i]=(p:Int)) :
  p < g.length∧1≤atG ch p∧atG ch p≤g.length∧hp.length < g.length∧OInv g inn k (i+1) (U2 ch p) (if atG ch p - 1=0 then C80 (Q6 g) hp p else hp) out:=by
 have hkl:k < out.length:=by omega
 have hc:out[k]=(c:Int):=by rw [J60 hkl] at hc;exact Option.some.inj hc
 have hpr:=K5 hr c
 have hpm:(p:Int)∈F1 g c:=by rw [←hpp];exact J66 hi
 have hplt:p < g.length:=by have:=hpr.1 p hpm;omega
 have hco:=h.outr out[k] (J66 hkl)
 rw [hc,J62] at hco
 have hclt:c < g.length:=by omega
 have hon:K7 inn p=true:=by have:=hcl c hco.2.2.1 p hpm;rwa [J62] at this
 have hg0:out.getD k 0=(c:Int):=by rw [J65,J60 hkl];exact hc
 have hnt:(c:Int)∉out.take k:=by rw [←hc];exact U6 h.outn hkl
 have hnp:(p:Int)∉(F1 g c).take i:=by rw [←hpp];exact U6 hpr.2 hi
 have h1:=h.cnt p hplt hon
 rw [hg0,J62,if_neg hnp] at h1
 have h2:=F46 (g:=g) (inn:=inn) (ex:=out.take k) (x:=c) (p:=p) hnt hclt hco.2.2.1
 rw [if_pos hpm] at h2
 have hle:=G10 g inn (out.take k) p
 have hge:1≤atG ch p:=by omega
 have hnout:(p:Int)∉out:=fun hm=>by have:=(h.outr _ hm).2.2.2;rw [J62] at this;omega
 have hnhp:(p:Int)∉hp:=fun hm=>by have:=((h.hpm p).1 hm).2.2.2;omega
 have hst:∀q,atG (U2 ch p) q=if p=q then atG ch p - 1 else atG ch q:=fun q=>by
  unfold U2
  rw [J62,A44 (by rw [h.len];exact hplt)]
 have hlen:hp.length < g.length:=by
  have:=j5 (l:=(c:Int)::hp) (n:=g.length) (List.nodup_cons.2 ⟨fun hm=>((h.hpm c).1 hm).2.2.1 (by rw [←hc];exact J66 hkl),h.hpn⟩) fun x hx=>by
   rcases List.mem_cons.1 hx with rfl | hx
   ·omega
   ·exact h.hpr x hx
  rw [J64] at this;omega
 obtain ⟨u1,u2⟩:=G97 (B80 g) (p:Int) h.heap
 refine ⟨hplt,hge,by omega,hlen,⟨by unfold U2;rw [J83];exact h.len,?_,?_,?_,?_,?_,?_,h.outn,?_⟩⟩
 ·intro q hq ho
  rw [hg0,J62,hst q]
  by_cases e:p=q
  ·subst e
   rw [if_pos rfl,if_pos ((Q1 hi).2 (.inr hpp.symm))];omega
  ·rw [if_neg e]
   have h3:=h.cnt q hq ho
   rw [hg0,J62] at h3
   have h4:((q:Int)∈(F1 g c).take (i+1))↔(q:Int)∈(F1 g c).take i:=by
    rw [Q1 hi,hpp]
    exact ⟨fun h=>h.resolve_right (by omega),.inl⟩
   simp only [h4]
   exact h3
 ·intro q hq ho
  rw [hst q,if_neg (fun e=>by rw [e,ho] at hon;cases hon)]
  exact h.off q hq ho
 ·intro q
  rw [hst q]
  by_cases e:p=q
  ·subst e
   rw [if_pos rfl]
   split
   ·rename_i h0
    rw [u2.mem]
    exact ⟨fun _=>⟨hplt,hon,hnout,h0⟩,fun _=>by simp⟩
   ·rename_i h0
    exact ⟨fun hm=>absurd hm hnhp,fun hm=>absurd hm.2.2.2 h0⟩
  ·rw [if_neg e,←h.hpm q]
   split
   ·rw [u2.mem,J84,List.mem_singleton]
    exact ⟨fun hm=>hm.resolve_right (by omega),.inl⟩
   ·exact Iff.rfl
 ·intro x hx
  split at hx
  ·rw [u2.mem,J84,List.mem_singleton] at hx
   rcases hx with hx | rfl
   ·exact h.hpr x hx
   ·omega
  ·exact h.hpr x hx
 ·split
  ·exact u2.nodup (List.nodup_append.2 ⟨h.hpn,by simp,fun x hx y hy e=>by rw [List.mem_singleton.1 hy] at e;exact hnhp (e ▸ hx)⟩)
  ·exact h.hpn
 ·split
  ·rw [u2.len,J63,List.length_singleton];exact u1
  ·exact h.heap
 ·intro x hx
  have h3:=h.outr x hx
  refine ⟨h3.1,h3.2.1,h3.2.2.1,?_⟩
  rw [hst,if_neg (fun e=>hnout (by rw [show ((p:Nat):Int)=x by omega];exact hx))]
  exact h3.2.2.2
theorem OInv.next {g:Graph} {inn:List Bool} {k:Nat} {ch hp out:List Int} (hk:k+1=out.length) {c:Nat} (hc:out[k]?=some (c:Int)) (h:OInv g inn k (F1 g c).length ch hp out):OInv g inn out.length 0 ch hp out:=by
 refine { h with cnt:=fun p hp ho=>?_ }
 have hkl:k < out.length:=by omega
 have hc:out[k]=(c:Int):=by rw [J60 hkl] at hc;exact Option.some.inj hc
 have h1:=h.cnt p hp ho
 have hg0:out.getD k 0=(c:Int):=by rw [J65,J60 hkl];exact hc
 have hco:=h.outr out[k] (J66 hkl)
 rw [hc,J62] at hco
 rw [hg0,J62,J67] at h1
 have h2:=F46 (g:=g) (inn:=inn) (ex:=out.take k) (x:=c) (p:=p) (by rw [←hc];exact U6 h.outn hkl) (by omega) hco.2.2.1
 have e:out.take (k+1)=out.take k++[(c:Int)]:=by rw [List.take_add_one,J60 hkl,Option.toList_some,hc]
 rw [←hk,e,List.take_zero,if_neg (by simp)]
 split at h1
 ·rename_i hm;rw [if_pos hm] at h2;omega
 ·rename_i hm;rw [if_neg hm] at h2;omega
structure HInv (g:Graph) (ch hp:List Int) (i:Nat):Prop where
 mem:∀p:Nat,(p:Int)∈hp↔p < i∧atG ch p=0
 rng:∀x∈hp,0≤x∧x < i
 nodup:hp.Nodup
 heap:C81 (Q6 g) hp.length hp
theorem HInv.nil (g:Graph) (ch:List Int):HInv g ch [] 0:=⟨fun p=>by simp,(fun _ h=>by cases h),List.nodup_nil,fun k hk=>by simp at hk⟩
theorem HInv.le {g:Graph} {ch hp:List Int} {i:Nat} (h:HInv g ch hp i):hp.length≤i:=j5 h.nodup h.rng
theorem HInv.step {g:Graph} {ch hp:List Int} {i:Nat} (h:HInv g ch hp i):HInv g ch (if atG ch i=0 then C80 (Q6 g) hp (i:Int) else hp) (i+1):=by
 obtain ⟨u1,u2⟩:=G97 (B80 g) (i:Int) h.heap
 split
 ·rename_i h0
  refine ⟨fun p=>?_,fun x hx=>?_,u2.nodup (List.nodup_append.2 ⟨h.nodup,by simp,fun x hx y hy e=>by rw [List.mem_singleton.1 hy] at e;have:=h.rng x hx;omega⟩),by rw [u2.len,J63,List.length_singleton];exact u1⟩
  ·rw [u2.mem,J84,List.mem_singleton,h.mem]
   constructor
   ·rintro (⟨a,b⟩ | e)
    ·exact ⟨by omega,b⟩
    ·have e:p=i:=by omega
     subst e;exact ⟨by omega,h0⟩
   ·rintro ⟨a,b⟩
    by_cases e:p=i
    ·right;omega
    ·exact .inl ⟨by omega,b⟩
  ·rw [u2.mem,J84,List.mem_singleton] at hx
   rcases hx with hx | rfl
   ·have:=h.rng x hx;omega
   ·omega
 ·rename_i h0
  refine ⟨fun p=>?_,fun x hx=>by have:=h.rng x hx;omega,h.nodup,h.heap⟩
  rw [h.mem]
  constructor
  ·rintro ⟨a,b⟩;exact ⟨by omega,b⟩
  ·rintro ⟨a,b⟩
   refine ⟨?_,b⟩
   apply Classical.byContradiction
   intro hn
   have:p=i:=by omega
   subst this;exact h0 b
def cntD (g:Graph) (D:List Int) (p:Nat):Nat:=D.countP fun x=>decide ((p:Int)∈F1 g x.toNat)
structure DInv (g:Graph) (inn:List Bool) (st:List Int) (k i:Nat) (ch opn D:List Int):Prop where
 len:ch.length=g.length
 nodup:(D++opn).Nodup
 on:∀x∈D++opn,0≤x∧x < g.length∧K7 inn x.toNat=true
 cnt:∀p:Nat,(p:Int)∈D++opn→atG ch p=cntD g (D.take k) p+(if (p:Int)∈(F1 g (D.getD k 0).toNat).take i then 1 else 0)
 off:∀p,p < g.length→(p:Int)∉D++opn→atG ch p = -1
 clo:∀x∈D.take k,∀p∈F1 g x.toNat,p∈D++opn
 clo2:∀p∈(F1 g (D.getD k 0).toNat).take i,p∈D++opn
 sts:∀f∈st,f∈D++opn
theorem DInv.start (g:Graph) (inn:List Bool):DInv g inn [] 0 0 (List.replicate g.length (-1)) [] [] where
 len:=by simp
 nodup:=List.nodup_nil
 on:=fun _ h=>by cases h
 cnt:=fun _ h=>by cases h
 off:=fun p hp _=>by unfold atG;rw [List.getElem?_replicate,if_pos hp];rfl
 clo:=fun _ h=>by cases h
 clo2:=fun _ h=>by simp at h
 sts:=fun _ h=>by cases h
theorem DInv.le {g:Graph} {inn:List Bool} {st:List Int} {k i:Nat} {ch opn D:List Int} (h:DInv g inn st k i ch opn D):D.length+opn.length≤g.length:=by
 have:=j5 h.nodup fun x hx=>⟨(h.on x hx).1,(h.on x hx).2.1⟩
 rwa [J63] at this
theorem DInv.mem {g:Graph} {inn:List Bool} {st:List Int} {k i:Nat} {ch opn D:List Int} (h:DInv g inn st k i ch opn D) {p:Nat} (hp:p < g.length):atG ch p < 0↔(p:Int)∉D++opn:=by
 by_cases hm:(p:Int)∈D++opn
 ·have:=h.cnt p hm
  constructor
  ·intro hl;split at this<;>omega
  ·exact fun hn=>absurd hm hn
 ·have:=h.off p hp hm
  exact ⟨fun _=>hm,fun _=>by omega⟩
theorem DInv.reach {g:Graph} {inn:List Bool} {st:List Int} {k i:Nat} {ch opn D:List Int} (h:DInv g inn st k i ch opn D) (_hk:k≤D.length) {p:Nat} (hp:p < g.length) (ho:K7 inn p=true) (st':List Int) (hst:∀f∈st',f∈st∨f=p) :
  DInv g inn st' k i (if atG ch p < 0 then ch.set p 0 else ch) (if atG ch p < 0 then opn++[(p:Int)] else opn) D∧(p:Int)∈D++(if atG ch p < 0 then opn++[(p:Int)] else opn):=by
 split
 ·rename_i hl
  have hnm:=(h.mem hp).1 hl
  refine ⟨⟨by rw [J83];exact h.len,?_,?_,?_,?_,?_,?_,?_⟩,by simp⟩
  ·rw [←J73]
   exact List.nodup_append.2 ⟨h.nodup,by simp,fun x hx y hy e=>by rw [List.mem_singleton.1 hy] at e;exact hnm (e ▸ hx)⟩
  ·intro x hx
   rw [←J73] at hx
   rcases List.mem_append.1 hx with hx | hx
   ·exact h.on x hx
   ·rw [List.mem_singleton.1 hx,J62];exact ⟨by omega,by omega,ho⟩
  ·intro q hq
   rw [A44 (by rw [h.len];exact hp)]
   by_cases e:p=q
   ·subst e
    rw [if_pos rfl,if_neg (fun hm=>hnm (h.clo2 _ hm))]
    have:cntD g (D.take k) p=0:=by
     unfold cntD
     rw [List.countP_eq_zero]
     intro x hx hm
     exact hnm (h.clo x hx _ (A0 hm))
    rw [this];rfl
   ·rw [if_neg e]
    rw [←J73] at hq
    rcases List.mem_append.1 hq with hq | hq
    ·exact h.cnt q hq
    ·exact absurd (List.mem_singleton.1 hq) (by omega)
  ·intro q hq hn
   rw [←J73,J84,not_or,List.mem_singleton] at hn
   rw [A44 (by rw [h.len];exact hp),if_neg (by omega)]
   exact h.off q hq hn.1
  ·intro x hx q hq
   rw [←J73];exact List.mem_append_left _ (h.clo x hx q hq)
  ·intro q hq
   rw [←J73];exact List.mem_append_left _ (h.clo2 q hq)
  ·intro f hf
   rw [←J73]
   rcases hst f hf with hf | rfl
   ·exact List.mem_append_left _ (h.sts f hf)
   ·simp
 ·rename_i hl
  have hm:(p:Int)∈D++opn:=by
   apply Classical.byContradiction
   intro hn;exact hl ((h.mem hp).2 hn)
  refine ⟨{ h with sts:=fun f hf=>?_ },hm⟩
  rcases hst f hf with hf | rfl
  ·exact h.sts f hf
  ·exact hm
theorem DInv.count {g:Graph} {inn:List Bool} {st:List Int} {k i:Nat} {ch opn D:List Int} (h:DInv g inn st k i ch opn D) {c p:Nat} (hr:related g=true) (hc:D.getD k 0=(c:Int)) (hi:i < (F1 g c).length) (hpp:(F1 g c)[i]=(p:Int)) (hm:(p:Int)∈D++opn) :
  0≤atG ch p∧atG ch p≤g.length∧DInv g inn st k (i+1) (bump ch p) opn D:=by
 have hpr:=K5 hr c
 have hplt:p < g.length:=by have:=hpr.1 p (by rw [←hpp];exact J66 hi);omega
 have h1:=h.cnt p hm
 have hnp:(p:Int)∉(F1 g c).take i:=by rw [←hpp];exact U6 hpr.2 hi
 rw [hc,J62,if_neg hnp] at h1
 have hle:cntD g (D.take k) p≤g.length:=by
  unfold cntD
  have h2:=List.countP_le_length (p:=fun x:Int=>decide ((p:Int)∈F1 g x.toNat)) (l:=D.take k)
  rw [J70] at h2
  have:=h.le;omega
 have hst:∀q,atG (bump ch p) q=if p=q then atG ch p+1 else atG ch q:=fun q=>by
  unfold bump
  rw [J62,A44 (by rw [h.len];exact hplt)]
 refine ⟨by omega,by omega,{ h with len:=by unfold bump;rw [J83];exact h.len,cnt:=fun q hq=>?_,off:=fun q hq hn=>?_,clo2:=fun q hq=>?_ }⟩
 ·rw [hst q,hc,J62]
  by_cases e:p=q
  ·subst e
   rw [if_pos rfl,if_pos ((Q1 hi).2 (.inr hpp.symm))];omega
  ·rw [if_neg e]
   have h3:=h.cnt q hq
   rw [hc,J62] at h3
   have h4:((q:Int)∈(F1 g c).take (i+1))↔(q:Int)∈(F1 g c).take i:=by
    rw [Q1 hi,hpp]
    exact ⟨fun h=>h.resolve_right (by omega),.inl⟩
   simp only [h4]
   exact h3
 ·rw [hst q,if_neg (show ¬p=q from fun e=>hn (by rw [←e];exact hm))]
  exact h.off q hq hn
 ·rw [hc,J62] at hq
  rcases (Q1 hi).1 hq with hq | rfl
  ·exact h.clo2 q (by rw [hc,J62];exact hq)
  ·rw [hpp];exact hm
theorem DInv.pop {g:Graph} {inn:List Bool} {st:List Int} {ch opn D:List Int} {c:Int} (h:DInv g inn st D.length 0 ch (opn++[c]) D):DInv g inn st D.length 0 ch opn (D++[c]):=by
 have hmem:∀x,x∈(D++[c])++opn↔x∈D++(opn++[c]):=fun x=>by
  simp only [J84,List.mem_singleton]
  constructor
  ·rintro ((h | h) | h)
   ·exact .inl h
   ·exact .inr (.inr h)
   ·exact .inr (.inl h)
  ·rintro (h | h | h)
   ·exact .inl (.inl h)
   ·exact .inr h
   ·exact .inl (.inr h)
 have ht:(D++[c]).take D.length=D:=by rw [v6 (Nat.le_refl _),J67]
 refine ⟨h.len,?_,fun x hx=>h.on x ((hmem x).1 hx),fun p hp=>?_,fun p hp hn=>h.off p hp fun hm=>hn ((hmem _).2 hm),fun x hx p hp=>?_,fun p hp=>by simp at hp,fun f hf=>(hmem f).2 (h.sts f hf)⟩
 ·have h1:=h.nodup
  rw [List.nodup_append,List.nodup_append] at h1
  rw [J73,List.nodup_append,List.nodup_append]
  refine ⟨h1.1,⟨by simp,h1.2.1.1,fun x hx y hy e=>?_⟩,fun x hx y hy=>?_⟩
  ·exact h1.2.1.2.2 y hy x hx e.symm
  ·refine h1.2.2 x hx y ?_
   rcases List.mem_append.1 hy with hy | hy
   ·exact List.mem_append_right _ hy
   ·exact List.mem_append_left _ hy
 ·have h1:=h.cnt p ((hmem _).1 hp)
  rw [List.take_zero,if_neg (by simp),J67] at h1
  rw [ht,List.take_zero,if_neg (by simp)]
  exact h1
 ·rw [ht] at hx
  exact (hmem p).2 (h.clo x (by rw [J67];exact hx) p hp)
theorem DInv.next {g:Graph} {inn:List Bool} {st:List Int} {k:Nat} {ch opn D:List Int} {c:Nat} (hk:k+1=D.length) (hc:D.getD k 0=(c:Int)) (h:DInv g inn st k (F1 g c).length ch opn D):DInv g inn st D.length 0 ch opn D:=by
 have hkl:k < D.length:=by omega
 have hc2:D[k]?=some (c:Int):=by
  rw [J65,J60 hkl] at hc
  rw [J60 hkl];exact congrArg some hc
 have e:D.take D.length=D.take k++[(c:Int)]:=by rw [←hk,List.take_add_one,hc2,Option.toList_some]
 refine { h with cnt:=fun p hp=>?_,clo:=fun x hx p hp=>?_,clo2:=fun p hp=>by simp at hp }
 ·have h1:=h.cnt p hp
  rw [hc,J62,J67] at h1
  rw [List.take_zero,if_neg (show ¬(p:Int)∈([]:List Int) by simp),h1,e]
  unfold cntD
  rw [List.countP_append,List.countP_singleton,J62]
  by_cases hm:(p:Int)∈F1 g c<;>simp [hm]
 ·rw [e] at hx
  rcases List.mem_append.1 hx with hx | hx
  ·exact h.clo x hx p hp
  ·rw [List.mem_singleton.1 hx,J62] at hp
   exact h.clo2 p (by rw [hc,J62,J67];exact hp)
theorem G99 {q:Int→Bool} {l m:List Int} (hl:l.Nodup) (hm:m.Nodup) (h:∀x,x∈l↔x∈m):l.countP q=m.countP q:=by
 rw [List.countP_eq_length_filter,List.countP_eq_length_filter]
 have key:∀{l m:List Int},l.Nodup→(∀x,x∈l↔x∈m)→(l.filter q).length≤(m.filter q).length:=fun hl h =>
  B76 (hl.filter _) fun x hx=>by
   rw [List.mem_filter] at hx ⊢
   exact ⟨(h x).1 hx.1,hx.2⟩
 have h1:=key hl h
 have h2:=key hm fun x=>(h x).symm
 omega
theorem DInv.fin {g:Graph} {s ch D:List Int} (hr:related g=true) (hs:∀f∈s,0≤f∧f < g.length) (h:DInv g (Q9 g s) s D.length 0 ch [] D) :
  ∀p,p < g.length→atG ch p=if K7 (Q9 g s) p=true then (D26 g (Q9 g s) [] p:Int) else -1:=by
 have hiff:∀p:Nat,K7 (Q9 g s) p=true↔(p:Int)∈D:=by
  intro p
  constructor
  ·intro ho
   obtain ⟨f,hf,h2⟩:=(B78 hr hs p).1 ho
   clear ho
   have h0:(f:Int)∈D:=by simpa using h.sts f hf
   have hcl:∀x:Nat,(x:Int)∈D→∀q:Nat,(q:Int)∈F1 g x→(q:Int)∈D:=fun x hx q hq=>by
    have:=h.clo x (by rw [J67];exact hx) q (by rw [J62];exact hq)
    simpa using this
   rcases h2 with rfl | h2
   ·exact h0
   ·induction h2 with
    | one h=>exact hcl _ h0 _ h
    | more _ h2 ih=>exact hcl _ ih _ h2
  ·intro hm
   have:=(h.on p (by simpa using hm)).2.2
   rwa [J62] at this
 intro p hp
 split
 ·rename_i ho
  have h1:=h.cnt p (by simpa using (hiff p).1 ho)
  rw [J67,List.take_zero,if_neg (by simp)] at h1
  rw [h1,Int.add_zero]
  congr 1
  have hD:D.Nodup:=by have:=h.nodup;rwa [J87] at this
  have h2:∀x∈D,0≤x∧x < g.length:=fun x hx=>by
   have:=h.on x (by simpa using hx);exact ⟨this.1,this.2.1⟩
  unfold cntD D26
  have e:(List.range g.length).countP (fun c=>K7 (Q9 g s) c&&decide ((c:Int)∉([]:List Int)∧(p:Int)∈F1 g c))=(((List.range g.length).filter fun c=>K7 (Q9 g s) c).map fun c:Nat=>(c:Int)).countP fun x=>decide ((p:Int)∈F1 g x.toNat):=by
   rw [List.countP_map,List.countP_filter]
   refine List.countP_congr fun c _=>?_
   simp only [List.not_mem_nil,not_false_eq_true,true_and,Function.comp_def,J62,J61,decide_eq_true_eq]
   exact And.comm
  rw [e]
  refine G99 hD ((List.nodup_range.filter _).map (fun i:Nat=>(i:Int)) fun _ _ hne e=>hne (Int.ofNat.inj e)) fun x=>?_
  rw [List.mem_map]
  constructor
  ·intro hx
   have:=h2 x hx
   refine ⟨x.toNat,List.mem_filter.2 ⟨List.mem_range.2 (by omega),(hiff _).2 (by rw [Int.toNat_of_nonneg this.1];exact hx)⟩,by omega⟩
  ·rintro ⟨c,hc,rfl⟩
   exact (hiff c).1 (List.mem_filter.1 hc).2
 ·rename_i ho
  exact h.off p hp fun hm=>ho ((hiff p).2 (by simpa using hm))
theorem OInv.start {g:Graph} {inn:List Bool} {ch hp:List Int} (hl:ch.length=g.length) (_hin:inn.length=g.length) (hc:∀p,p < g.length→atG ch p=if K7 inn p=true then (D26 g inn [] p:Int) else -1) (h:HInv g ch hp g.length):OInv g inn 0 0 ch hp [] where
 len:=hl
 cnt:=fun p hp ho=>by rw [hc p hp,if_pos ho,List.take_zero,List.take_zero];simp
 off:=fun p hp ho=>by rw [hc p hp,ho];rfl
 hpm:=fun p=>by
  rw [h.mem]
  constructor
  ·rintro ⟨a,b⟩
   refine ⟨a,?_,by simp,b⟩
   cases ho:K7 inn p
   ·rw [hc p a,ho] at b;simp at b
   ·rfl
  ·rintro ⟨a,_,_,b⟩;exact ⟨a,b⟩
 hpr:=h.rng
 hpn:=h.nodup
 heap:=h.heap
 outn:=List.nodup_nil
 outr:=fun _ h=>by cases h
end Go.AL
namespace Go.AL
open Go
def U7 (nd s:Str) (p:Nat):Option Nat:=if nd=[]∨p > s.length∨Lib.index (s.drop p) nd < 0 then none else some (p+(Lib.index (s.drop p) nd).toNat)
def A18 (nd s:Str):Nat→Nat→List Int→List Int
 | 0,_,out=>out
 | f+1,p,out=>match U7 nd s p with
  | none=>out
  | some i=>A18 nd s f (i+nd.length) (out++[(i:Int)])
def X7 (nd s:Str):List Int:=A18 nd s (s.length+2) 0 []
def W6 (nd s:Str):Int:=(X7 nd s).length
theorem A49 {nd s:Str} {p i:Nat} (h:U7 nd s p=some i):nd≠[]∧p≤s.length∧p≤i∧i+nd.length≤s.length:=by
 unfold U7 at h
 split at h
 ·cases h
 ·rename_i hn
  simp only [not_or] at hn
  have h1:=Lib.index_room (s.drop p) nd (by omega)
  rw [J76] at h1
  have e:=Option.some.inj h
  exact ⟨hn.1,by omega,by omega,by omega⟩
theorem C37 {nd s:Str} {f p i:Nat} {out:List Int} (hf:s.length < f+p) (h:U7 nd s p=some i):A18 nd s f p out=A18 nd s (f - 1) (i+nd.length) (out++[(i:Int)]):=by
 have:=A49 h
 obtain ⟨f,rfl⟩:∃k,f=k+1:=⟨f - 1,by omega⟩
 rw [A18,h];rfl
theorem A87 {nd s:Str} {f p:Nat} {out:List Int} (h:U7 nd s p=none):A18 nd s f p out=out:=by
 cases f with
 | zero=>rfl
 | succ f=>rw [A18,h]
theorem E73 {nd s:Str}:∀(f f' p:Nat) (out:List Int),s.length < f+p→s.length < f'+p→A18 nd s f p out=A18 nd s f' p out
 | 0,f',p,out,h,_=>by
  have:U7 nd s p=none:=by
   cases hn:U7 nd s p with
   | none=>rfl
   | some i=>have:=A49 hn;omega
  rw [A87 this,A87 this]
 | f+1,f',p,out,h,h'=>by
  cases hn:U7 nd s p with
  | none=>rw [A87 hn,A87 hn]
  | some i =>
   have hr:=A49 hn
   have hl:0 < nd.length:=List.length_pos_iff.2 hr.1
   rw [C37 h hn,C37 h' hn]
   exact E73 f (f' - 1) _ _ (by omega) (by omega)
theorem A68 (nd s:Str):(X7 nd s).length≤s.length+2:=by
 have key:∀(f p:Nat) (out:List Int),(A18 nd s f p out).length≤out.length+f:=by
  intro f
  induction f with
  | zero=>intro p out;exact Nat.le_refl _
  | succ f ih =>
   intro p out
   rw [A18]
   split
   ·omega
   ·rename_i i _
    have:=ih (i+nd.length) (out++[(i:Int)])
    rw [J63,List.length_singleton] at this
    omega
 have:=key (s.length+2) 0 []
 unfold X7
 simpa using this
def O4 (g:Graph) (c:Nat):List File:=(g[c]?.map (·.Files)).getD []
def O5 (g:Graph) (c:Nat):List (List File):=if F1 g c=[] then [[]] else (F1 g c).map fun p=>O4 g p.toNat
def A50 (l:List File) (p:Str):Str:=(K3 l p).getD []
def H83 (t u:List File) (d:Delta):Str × Str:=(A50 t d.Path,A50 u d.Path)
def B18 (t u:List File):List (Str × Str):=(V0 t u).map (H83 t u)
def O2 (g:Graph) (c:Nat):List (List (Str × Str)):=(O5 g c).map fun t=>B18 t (O4 g c)
def differs (nd:Str) (x:Str × Str):Bool:=decide (W6 nd x.1≠W6 nd x.2)
def Z8 (f:Str × Str→Bool) (g:Graph) (c:Nat):Bool:=(O2 g c).any fun l=>l.any f
def j9 (g:Graph) (c:Int):Prop:=0≤c∧c < g.length
instance (g:Graph) (c:Int):Decidable (j9 g c):=inferInstanceAs (Decidable (_∧_))
def X8 (g:Graph) (s:Int):List Int × Int:=if N8 g≠0 then ([],N8 g) else if j9 g s then (C82 g [s],0) else ([],5)
def S6 (f:Str × Str→Bool) (g:Graph) (s:Int):List Int × Int:=if (X8 g s).2≠0 then ([],(X8 g s).2) else ((X8 g s).1.filter fun c=>Z8 f g c.toNat,0)
def o3 (g:Graph) (s:Int) (nd:Str):List Int × Int:=if nd=[] then ([],2) else if nd.length > 256 then ([],1) else S6 (differs nd) g s
def X9 (nd:Str) (l:List (Str × Str)):Int:=(l.map fun x=>W6 nd x.2 - W6 nd x.1).sum
def b8 (g:Graph) (c:Int):Int:=if N8 g≠0 then N8 g else if j9 g c then 0 else 5
def o4 (g:Graph) (c:Int) (nd:Str):List Int × Int:=if b8 g c≠0 then ([],b8 g c) else ((O2 g c.toNat).map (X9 nd),0)
def A19:Str × Str→Nat→Cell:=fun x j=>match j with
 | 0=>.v (.string ⟨x.1.toArray⟩)
 | _=>.v (.string ⟨x.2.toArray⟩)
abbrev A69:List (Str × Str)→Nat→Cell:=fun l _=>.list (Str × Str) 2 A19 l
abbrev pPairs (l:List (Str × Str)):PV:=.one (.list (Str × Str) 2 A19 l)
abbrev G11 (l:List (List (Str × Str))):PV:=.one (.list (List (Str × Str)) 1 A69 l)
end Go.AL
namespace Go.AL
open Go
structure Set4 where
 a:Int
 b:Int
 c:Int
 d:Int
 deriving DecidableEq
def orI (x y:Int):Int:=((x.toNat ||| y.toNat:Nat):Int)
def set0:Set4:=⟨0,0,0,0⟩
def Set4.with_ (s:Set4) (c:Nat):Set4:=match c / 64 with
 | 0=>{ s with a:=orI s.a (2 ^ (c % 64)) }
 | 1=>{ s with b:=orI s.b (2 ^ (c % 64)) }
 | 2=>{ s with c:=orI s.c (2 ^ (c % 64)) }
 | _=>{ s with d:=orI s.d (2 ^ (c % 64)) }
def F47:Nat→Nat→Set4→Set4
 | 0,_,s=>s
 | n+1,c,s=>F47 n (c+1) (s.with_ c)
def Set4.through (s:Set4) (a b:Nat):Set4:=F47 (b+1 - a) a s
def Set4.compl (s:Set4):Set4:=⟨18446744073709551615 - s.a,18446744073709551615 - s.b,18446744073709551615 - s.c,18446744073709551615 - s.d⟩
def namedS (s:Set4) (name:Str):Option Set4 :=
 if name=[97,108,112,104,97] then some ((s.through 97 122).through 65 90)
 else if name=[100,105,103,105,116] then some (s.through 48 57)
 else if name=[97,108,110,117,109] then some (((s.through 97 122).through 65 90).through 48 57)
 else if name=[117,112,112,101,114] then some (s.through 65 90)
 else if name=[108,111,119,101,114] then some (s.through 97 122)
 else if name=[115,112,97,99,101] then some ((s.through 9 13).with_ 32)
 else if name=[112,117,110,99,116] then some ((((s.through 33 47).through 58 64).through 91 96).through 123 126)
 else none
def I30 (s:Set4):Prop:=(0≤s.a∧s.a < 18446744073709551616)∧(0≤s.b∧s.b < 18446744073709551616)∧(0≤s.c∧s.c < 18446744073709551616)∧(0≤s.d∧s.d < 18446744073709551616)
structure Node where
 Kind:Int
 Set:Set4
 Min:Int
 Max:Int
 Kids:List Int
 deriving DecidableEq
def w9:Node→Nat→Cell:=fun n j=>match j with
 | 0=>.v (.int .i64 n.Kind)
 | 1=>.v (.int .u64 n.Set.a)
 | 2=>.v (.int .u64 n.Set.b)
 | 3=>.v (.int .u64 n.Set.c)
 | 4=>.v (.int .u64 n.Set.d)
 | 5=>.v (.int .i64 n.Min)
 | 6=>.v (.int .i64 n.Max)
 | _=>.list Int 1 F0 n.Kids
abbrev F48 (s:Set4):PV:=.agg [.v (.int .u64 s.a),.v (.int .u64 s.b),.v (.int .u64 s.c),.v (.int .u64 s.d)]
abbrev D68 (n:Node):PV:=.agg [.v (.int .i64 n.Kind),.v (.int .u64 n.Set.a),.v (.int .u64 n.Set.b),.v (.int .u64 n.Set.c),.v (.int .u64 n.Set.d),.v (.int .i64 n.Min),.v (.int .i64 n.Max),.list Int 1 F0 n.Kids]
abbrev x7 (l:List Node):PV:=.one (.list Node 8 w9 l)
def B28:Node:=⟨0,set0,0,0,[]⟩
structure PSt where
 at_:Nat
 depth:Nat
 nodes:List Node
abbrev Ps (α:Type):=Except Int (PSt × α)
section
variable (s:Str)
def E74 (c:UInt8) (st:PSt):Bool:=decide (s[st.at_]?=some c)
def PSt.skip (st:PSt) (n:Nat):PSt:={ st with at_:=st.at_+n }
def hasSt (c:UInt8) (st:PSt):PSt:=if E74 s c st=true then st.skip 1 else st
def takeP (st:PSt):Ps UInt8:=match s[st.at_]? with
 | none=>.error 40
 | some c=>.ok (st.skip 1,c)
def addP (n:Node) (st:PSt):PSt × Int:=({ st with nodes:=st.nodes++[n] },st.nodes.length)
def H84 (kind:Int) (kids:List Int) (st:PSt):PSt × Int:=match kids with
 | []=>addP B28 st
 | [k]=>(st,k)
 | _=>addP { B28 with Kind:=kind,Kids:=kids } st
def setP (t:Set4) (st:PSt):PSt × Int:=addP { B28 with Kind:=1,Set:=t } st
def starts2 (a b:UInt8) (l:Str):Bool:=decide (l[0]?=some a∧l[1]?=some b)
def itemP (t:Set4) (st:PSt):Ps Set4 :=
 let rest:=s.drop st.at_
 if starts2 91 58 rest=true then
  let r:=rest.drop 2
  if Lib.index r [58,93] < 0 then .error 40
  else match namedS t (r.take (Lib.index r [58,93]).toNat) with
   | none=>.error 40
   | some t'=>.ok (st.skip (4+(Lib.index r [58,93]).toNat),t')
 else match s[st.at_]? with
  | none=>.error 40
  | some c =>
   let r:=s.drop (st.at_+1)
   if r.length < 2∨r[0]?≠some 45∨r[1]?=some 93 then .ok (st.skip 1,t.with_ c.toNat)
   else if (r.getD 1 0).toNat < c.toNat then .error 40
   else .ok (st.skip 3,t.through c.toNat (r.getD 1 0).toNat)
def itemsP:Nat→Set4→PSt→Ps Set4
 | 0,_,_=>.error 0
 | f+1,t,st=>if E74 s 93 st=true then .ok (st.skip 1,t) else match itemP s t st with
  | .error e=>.error e
  | .ok (st',t')=>itemsP f t' st'
def classP (f:Nat) (st:PSt):Ps Int :=
 let st1:=st.skip 1
 let st2:=hasSt s 94 st1
 match itemP s set0 st2 with
 | .error e=>.error e
 | .ok (st3,t)=>match itemsP s f t st3 with
  | .error e=>.error e
  | .ok (st4,t')=>.ok (setP (if E74 s 94 st1=true then t'.compl else t') st4)
def I31 (kind:Int) (st:PSt):Ps Int :=
 let r:=addP { B28 with Kind:=kind } (st.skip 1)
 match s[r.1.at_]? with
 | some c=>if c∈([42,43,63,123]:Str) then .error 40 else .ok r
 | none=>.ok r
def numP (num:Str→Nat→Option (Int × Nat)) (st:PSt):Ps Int:=match num s st.at_ with
 | none=>.error 40
 | some (n,e)=>if n > 100 then .error 40 else .ok ({ st with at_:=e },n)
def boundsP (num:Str→Nat→Option (Int × Nat)) (st:PSt):Ps (Int × Int):=match numP s num st with
 | .error e=>.error e
 | .ok (st1,least) =>
  let fin:=fun (st:PSt) (most:Int)=>(if E74 s 125 st=false∨(0≤most∧most < least) then .error 40 else .ok (st.skip 1,(least,most)):Ps (Int × Int))
  if E74 s 44 st1=true then
   let st2:=st1.skip 1
   match s[st2.at_]? with
   | none=>fin st2 (-1)
   | some c=>if c=125 then fin st2 (-1) else match numP s num st2 with
    | .error e=>.error e
    | .ok (st3,most)=>fin st3 most
  else fin st1 least
def quantP (num:Str→Nat→Option (Int × Nat)) (st:PSt):Ps (Option (Int × Int)) :=
 if E74 s 42 st=true then .ok (st.skip 1,some (0,-1))
 else if E74 s 43 st=true then .ok (st.skip 1,some (1,-1))
 else if E74 s 63 st=true then .ok (st.skip 1,some (0,1))
 else if E74 s 123 st=true then match boundsP s num (st.skip 1) with
  | .error e=>.error e
  | .ok (st',b)=>.ok (st',some b)
 else .ok (st,none)
def I32 (st:PSt):Ps Int:=match takeP s st with
 | .error e=>.error e
 | .ok (st',c)=>.ok (setP (set0.with_ c.toNat) st')
def escapeP (st:PSt):Ps Int:=I32 s (st.skip 1)
def anyP (st:PSt):PSt × Int:=setP set0.compl (st.skip 1)
def C83 (num:Str→Nat→Option (Int × Nat)) (r:Ps Int):Ps Int:=match r with
 | .error e=>.error e
 | .ok (st,atom)=>match quantP s num st with
  | .error e=>.error e
  | .ok (st',none)=>.ok (st',atom)
  | .ok (st',some (least,most))=>.ok (addP { B28 with Kind:=6,Min:=least,Max:=most,Kids:=[atom] } st')
mutual
def patP (num:Str→Nat→Option (Int × Nat)):Nat→PSt→Ps Int
 | 0,_=>.error 0
 | f+1,st=>match altP num f st [] with
  | .error e=>.error e
  | .ok (st',k)=>I33 num f st' [k]
def I33 (num:Str→Nat→Option (Int × Nat)):Nat→PSt→List Int→Ps Int
 | 0,_,_=>.error 0
 | f+1,st,kids=>if E74 s 124 st=true then match altP num f (st.skip 1) [] with
   | .error e=>.error e
   | .ok (st',k)=>I33 num f st' (kids++[k])
  else .ok (H84 5 kids st)
def altP (num:Str→Nat→Option (Int × Nat)):Nat→PSt→List Int→Ps Int
 | 0,_,_=>.error 0
 | f+1,st,kids=>match s[st.at_]? with
  | none=>.ok (H84 4 kids st)
  | some c=>if c=124∨c=41 then .ok (H84 4 kids st) else match pieceP num f st c with
   | .error e=>.error e
   | .ok (st',k)=>altP num f st' (kids++[k])
def pieceP (num:Str→Nat→Option (Int × Nat)):Nat→PSt→UInt8→Ps Int
 | 0,_,_=>.error 0
 | f+1,st,c =>
  if c=94 then I31 s 2 st
  else if c=36 then I31 s 3 st
  else if c=40 then C83 s num (parenP num f st)
  else if c=91 then C83 s num (classP s (s.length+2) st)
  else if c=46 then C83 s num (.ok (anyP st))
  else if c=92 then C83 s num (escapeP s st)
  else if c∈([42,43,63,123]:Str) then .error 40
  else C83 s num (I32 s st)
def parenP (num:Str→Nat→Option (Int × Nat)):Nat→PSt→Ps Int
 | 0,_=>.error 0
 | f+1,st=>if st.depth=50 then .error 1 else match patP num f { st with at_:=st.at_+1,depth:=st.depth+1 } with
  | .error e=>.error e
  | .ok (st',n)=>if E74 s 41 st'=true then .ok ({ st' with at_:=st'.at_+1,depth:=st'.depth - 1 },n) else .error 40
end
end
def D69 (n:Node) (i:Int):Bool:=n.Kids.all (fun k=>decide (0≤k∧k < i)) &&
 (if n.Kind=0∨n.Kind=1∨n.Kind=2∨n.Kind=3 then decide (n.Kids.length=0)
 else if n.Kind=4∨n.Kind=5 then decide (2≤n.Kids.length)
 else if n.Kind=6 then decide (n.Kids.length=1∧0≤n.Min∧n.Min≤100∧(n.Max = -1∨n.Min≤n.Max∧n.Max≤100)) else false)
def B19 (l:List Node):Int:=if l.length=0∨l.length > 4000 then 2 else if (List.range l.length).all (fun i=>D69 (l.getD i B28) i)=true then 0 else 2
def A51 (a b:Int):Int:=if b < a then b else a
def G12 (w:List Int):Int→List Int→Int
 | acc,[]=>acc
 | acc,k::r=>G12 w (A51 (acc+atG w k.toNat) 4001) r
def A52 (n:Node) (w:List Int):Int :=
 let sum:=G12 w 0 n.Kids
 if n.Kind=4 then sum
 else if n.Kind=5 then A51 (sum+n.Kids.length - 1) 4001
 else if n.Kind=6 then (if n.Max < 0 then A51 (n.Min*sum+sum+1) 4001 else A51 (n.Min*sum+(n.Max - n.Min)*(sum+1)) 4001)
 else 1
def T8:List Node→Nat→List Int→List Int
 | [],_,w=>w
 | n::r,i,w=>T8 r (i+1) (w.set i (A52 n w))
def V4 (l:List Node):List Int:=T8 l 0 (List.replicate l.length 0)
structure State where
 Kind:Int
 Set:Set4
 Next:Int
 Other:Int
 deriving DecidableEq
def A20:State→Nat→Cell:=fun n j=>match j with
 | 0=>.v (.int .i64 n.Kind)
 | 1=>.v (.int .u64 n.Set.a)
 | 2=>.v (.int .u64 n.Set.b)
 | 3=>.v (.int .u64 n.Set.c)
 | 4=>.v (.int .u64 n.Set.d)
 | 5=>.v (.int .i64 n.Next)
 | _=>.v (.int .i64 n.Other)
structure Auto where
 States:List State
 Start:Int
 deriving DecidableEq
abbrev H85 (n:State):PV:=.agg [.v (.int .i64 n.Kind),.v (.int .u64 n.Set.a),.v (.int .u64 n.Set.b),.v (.int .u64 n.Set.c),.v (.int .u64 n.Set.d),.v (.int .i64 n.Next),.v (.int .i64 n.Other)]
abbrev I34 (l:List State):PV:=.one (.list State 7 A20 l)
abbrev A21 (a:Auto):PV:=.agg [.list State 7 A20 a.States,.v (.int .i64 a.Start)]
def o5:State:=⟨0,set0,0,0⟩
abbrev Bld:=List State × Int
def addS (q:State) (st:List State):Bld:=(st++[q],st.length)
section
variable (ns:List Node) (w:List Int)
mutual
def T0:Nat→Int→Int→List State→Option Bld
 | 0,_,_,_=>none
 | f + 1,i,next,st =>
  if atG w i.toNat=0 then some (st,next)
  else
   let n:=ns.getD i.toNat B28
   if n.Kind=1 then some (addS { o5 with Kind:=0,Set:=n.Set,Next:=next } st)
   else if n.Kind=2 then some (addS { o5 with Kind:=2,Next:=next } st)
   else if n.Kind=3 then some (addS { o5 with Kind:=3,Next:=next } st)
   else if n.Kind=4 then catB f n.Kids.reverse next st
   else if n.Kind=5 then match n.Kids.reverse with
    | []=>none
    | k::r=>match T0 f k next st with
     | none=>none
     | some (st',start)=>G13 f r next start st'
   else if n.Kind=6 then
    let kid:=n.Kids.getD 0 0
    if n.Max < 0 then
     let loop:Int:=st.length
     match T0 f kid loop (st++[{ o5 with Kind:=1,Other:=next }]) with
     | none=>none
     | some (st',start)=>E76 f kid n.Min.toNat loop (st'.set loop.toNat { (st'.getD loop.toNat o5) with Next:=start })
    else match E75 f kid (n.Max - n.Min).toNat next next st with
     | none=>none
     | some (st',next')=>E76 f kid n.Min.toNat next' st'
   else some (st,next)
def catB:Nat→List Int→Int→List State→Option Bld
 | 0,_,_,_=>none
 | _+1,[],next,st=>some (st,next)
 | f+1,k::r,next,st=>match T0 f k next st with
  | none=>none
  | some (st',next')=>catB f r next' st'
def G13:Nat→List Int→Int→Int→List State→Option Bld
 | 0,_,_,_,_=>none
 | _+1,[],_,start,st=>some (st,start)
 | f+1,k::r,next,start,st=>match T0 f k next st with
  | none=>none
  | some (st',b)=>G13 f r next st'.length (st'++[{ o5 with Kind:=1,Next:=b,Other:=start }])
def E75:Nat→Int→Nat→Int→Int→List State→Option Bld
 | 0,_,_,_,_,_=>none
 | _+1,_,0,_,next,st=>some (st,next)
 | f+1,kid,m+1,last,next,st=>match T0 f kid next st with
  | none=>none
  | some (st',b)=>E75 f kid m last st'.length (st'++[{ o5 with Kind:=1,Next:=b,Other:=last }])
def E76:Nat→Int→Nat→Int→List State→Option Bld
 | 0,_,_,_,_=>none
 | _+1,_,0,next,st=>some (st,next)
 | f+1,kid,m+1,next,st=>match T0 f kid next st with
  | none=>none
  | some (st',next')=>E76 f kid m next' st'
end
end
end Go.AL
namespace Go.AL
open Go
def O6 (q:State) (start fin:Bool):List Int :=
 if q.Kind=1 then [q.Next,q.Other] else if q.Kind=2 then (if start=true then [q.Next] else []) else if q.Kind=3 then (if fin=true then [q.Next] else []) else []
def A88 (n:Int) (q:State):Bool :=
 if q.Kind=0∨q.Kind=2∨q.Kind=3 then decide (0≤q.Next∧q.Next < n)
 else if q.Kind=1 then decide (0≤q.Next∧q.Next < n∧0≤q.Other∧q.Other < n)
 else decide (q.Kind=4)
def E77 (a:Auto):Int:=if a.States.length < 1∨a.States.length > 8000∨a.Start < 0∨a.Start≥a.States.length then 2 else if a.States.all (A88 a.States.length)=true then 0 else 2
structure Thread where
 state:Int
 from_:Int
 deriving DecidableEq
def Y5:Thread→Nat→Cell:=fun t j=>match j with
 | 0=>.v (.int .i64 t.state)
 | _=>.v (.int .i64 t.from_)
abbrev Mach:=List Thread × List Bool
section
variable (a:Auto) (s:Str)
def P2 (i:Int):State:=a.States.getD i.toNat o5
def y2 (at_:Nat) (fr:Int):Nat→List Int→Mach→Mach
 | 0,_,m=>m
 | f+1,opn,m=>match opn.getLast? with
  | none=>m
  | some i=>if K7 m.2 i.toNat=true then y2 at_ fr f opn.dropLast m
   else y2 at_ fr f (opn.dropLast++O6 (P2 a i) (decide (at_=0)) (decide (at_=s.length))) (m.1++[⟨i,fr⟩],m.2.set i.toNat true)
def C84 (at_:Nat) (t:Thread) (m:Mach):Mach:=y2 a s at_ t.from_ (3*a.States.length+2) [t.state] m
def P3:List Thread→Int
 | [] => -1
 | t::r=>if (P2 a t.state).Kind=4 then t.from_ else P3 r
def A22 (q:Set4) (c:Nat):Int:=match c / 64 with
 | 0=>q.a.fdiv (2 ^ (c % 64)) % 2
 | 1=>q.b.fdiv (2 ^ (c % 64)) % 2
 | 2=>q.c.fdiv (2 ^ (c % 64)) % 2
 | _=>q.d.fdiv (2 ^ (c % 64)) % 2
def A70 (at_:Nat) (c:Nat):List Thread→Mach→Mach
 | [],m=>m
 | t::r,m=>A70 at_ c r (if (P2 a t.state).Kind=0∧A22 (P2 a t.state).Set c=1 then C84 a s at_ ⟨(P2 a t.state).Next,t.from_⟩ m else m)
def C85 (at_:Nat) (m:Mach):Mach:=A70 a s (at_+1) (s.getD at_ 0).toNat m.1 ([],List.replicate a.States.length false)
def A23 (fr:Int):List Thread→List Thread
 | []=>[]
 | t::r=>if t.from_ > fr then [] else t::A23 fr r
def A71:Nat→Nat→Mach→(Int × Int)→Bool→(Int × Int) × Bool
 | 0,_,_,b,fd=>(b,fd)
 | f+1,at_,m,b,fd =>
  let m1:=if fd=true then m else C84 a s at_ ⟨a.Start,at_⟩ m
  let i:=P3 a m1.1
  let b':=if 0≤i then (i,(at_:Int)) else b
  let fd':=if 0≤i then true else fd
  let m2:Mach:=if 0≤i then (A23 i m1.1,m1.2) else m1
  if at_=s.length∨(fd'=true∧m2.1=[]) then (b',fd') else A71 f (at_+1) (C85 a s at_ m2) b' fd'
def B66 (from_:Nat):(Int × Int) × Bool:=A71 a s (s.length+1 - from_) from_ ([],List.replicate a.States.length false) (0,0) false
end
end Go.AL
namespace Go.AL
open Go
structure AG (A:Auto):Prop where
 len:1≤A.States.length∧A.States.length≤8000
 start:0≤A.Start∧A.Start < A.States.length
 good:∀q∈A.States,A88 A.States.length q=true
theorem AG.check {A:Auto} (h:AG A):E77 A=0:=by
 obtain ⟨h1,h2⟩:=h.len
 obtain ⟨h3,h4⟩:=h.start
 unfold E77
 rw [if_neg (by omega),if_pos (List.all_eq_true.2 h.good)]
theorem C86 {A:Auto} {i:Int} (h:0≤i∧i < A.States.length):A.States[i.toNat]?=some (P2 A i):=by
 rw [P2,J65,J60 (show i.toNat < A.States.length by omega)];rfl
theorem A89 {A:Auto} (hA:AG A) {i:Int} (h:0≤i∧i < A.States.length):A88 A.States.length (P2 A i)=true:=hA.good _ (J69 (C86 h))
theorem o6 {n:Int} {q:State} (h:A88 n q=true) :
  ((q.Kind=0∨q.Kind=2∨q.Kind=3)∧0≤q.Next∧q.Next < n)∨(q.Kind=1∧(0≤q.Next∧q.Next < n)∧0≤q.Other∧q.Other < n)∨q.Kind=4:=by
 unfold A88 at h
 split at h
 ·rename_i hk;exact .inl ⟨hk,A0 h⟩
 ·split at h
  ·rename_i hk
   have:=A0 h
   exact .inr (.inl ⟨hk,⟨this.1,this.2.1⟩,this.2.2⟩)
  ·exact .inr (.inr (A0 h))
theorem C87 {A:Auto} (hA:AG A) {i:Int} (h:0≤i∧i < A.States.length) (b e:Bool):(O6 (P2 A i) b e).length≤2∧∀k∈O6 (P2 A i) b e,0≤k∧k < A.States.length:=by
 have hg:=o6 (A89 hA h)
 unfold O6
 repeat' split
 all_goals refine ⟨by simp,fun k hk=>?_⟩
 all_goals simp only [J88,List.not_mem_nil,or_false] at hk
 ·rcases hk with rfl | rfl
  ·omega
  ·omega
 ·subst hk;omega
 ·subst hk;omega
structure MG (A:Auto) (m:Mach):Prop where
 sl:m.2.length=A.States.length
 cnt:m.1.length+m.2.count false≤A.States.length
 st:∀t∈m.1,0≤t.state∧t.state < A.States.length
theorem F49 {sn:List Bool}:∀{i:Nat},sn[i]?=some false→(sn.set i true).count false+1=sn.count false:=by
 induction sn with
 | nil=>intro i h;cases h
 | cons b r ih =>
  intro i h
  cases i with
  | zero =>
   rw [List.getElem?_cons_zero] at h
   cases h
   simp
  | succ i =>
   rw [List.getElem?_cons_succ] at h
   have:=ih h
   rw [List.set_cons_succ,List.count_cons,List.count_cons]
   omega
theorem MG.first (A:Auto):MG A ([],List.replicate A.States.length false):=⟨by simp,by simp,fun _ h=>by cases h⟩
theorem H86 {sn:List Bool} {i:Nat} (h:i < sn.length):sn[i]?=some (K7 sn i):=by
 unfold K7;rw [J60 h];rfl
theorem MG.push {A:Auto} {m:Mach} (h:MG A m) {i:Int} (hi:0≤i∧i < A.States.length) (fr:Int) (ho:K7 m.2 i.toNat=false):MG A (m.1++[⟨i,fr⟩],m.2.set i.toNat true):=by
 have h1:=h.sl
 have h2:=F49 (sn:=m.2) (i:=i.toNat) (by rw [←ho];exact H86 (by omega))
 have h3:=h.cnt
 refine ⟨by dsimp only;rw [J83];exact h1,by dsimp only;rw [J63,List.length_singleton];omega,fun t ht=>?_⟩
 rcases List.mem_append.1 ht with ht | ht
 ·exact h.st t ht
 ·rw [List.mem_singleton.1 ht];exact hi
section
variable (A:Auto) (s:Str)
def muA (opn:List Int) (m:Mach):Nat:=3*m.2.count false+opn.length
theorem F50 (a:Nat) (fr:Int) (f:Nat) (m:Mach):y2 A s a fr f [] m=m:=by
 cases f<;>rfl
theorem E78 {a:Nat} {fr:Int} {f:Nat} {opn:List Int} {i:Int} {m:Mach} (h:opn.getLast?=some i) (ho:K7 m.2 i.toNat=true):y2 A s a fr (f+1) opn m=y2 A s a fr f opn.dropLast m:=by
 rw [y2,h]
 simp only [ho,if_true]
theorem F51 {a:Nat} {fr:Int} {f:Nat} {opn:List Int} {i:Int} {m:Mach} (h:opn.getLast?=some i) (ho:K7 m.2 i.toNat=false) :
  y2 A s a fr (f+1) opn m=y2 A s a fr f (opn.dropLast++O6 (P2 A i) (decide (a=0)) (decide (a=s.length))) (m.1++[⟨i,fr⟩],m.2.set i.toNat true):=by
 rw [y2,h]
 simp only [ho,Bool.false_eq_true,if_false]
theorem C88 {opn:List Int} {i:Int} (h:opn.getLast?=some i):opn≠[]∧opn[opn.length - 1]?=some i∧i∈opn:=by
 have hne:opn≠[]:=fun e=>by rw [e] at h;cases h
 rw [List.getLast?_eq_getElem?] at h
 exact ⟨hne,h,J69 h⟩
variable {A}
theorem C38 (hA:AG A) {a:Nat} {fr:Int}:∀(f:Nat) (opn:List Int) (m:Mach),(∀k∈opn,0≤k∧k < A.States.length)→MG A m→MG A (y2 A s a fr f opn m)
 | 0,_,_,_,h=>h
 | f+1,opn,m,ho,h=>by
  cases hl:opn.getLast? with
  | none=>rw [y2,hl];exact h
  | some i =>
   have hi:=ho i (C88 hl).2.2
   have hd:∀k∈opn.dropLast,0≤k∧k < A.States.length:=fun k hk=>ho k (List.dropLast_subset _ hk)
   cases hs:K7 m.2 i.toNat
   ·rw [F51 A s hl hs]
    refine C38 hA f _ _ (fun k hk=>?_) (h.push hi fr hs)
    rcases List.mem_append.1 hk with hk | hk
    ·exact hd k hk
    ·exact (C87 hA hi _ _).2 k hk
   ·rw [E78 A s hl hs]
    exact C38 hA f _ _ hd h
theorem D27 (hA:AG A) {a:Nat} {t:Thread} (ht:0≤t.state∧t.state < A.States.length) {m:Mach} (h:MG A m):MG A (C84 A s a t m) :=
 C38 s hA _ _ _ (fun k hk=>by rw [List.mem_singleton.1 hk];exact ht) h
theorem D70 (hA:AG A) {a:Nat} {fr:Int} {f:Nat} {opn:List Int} {m R:Mach} (hm:MG A m) (ho:∀k∈opn,0≤k∧k < A.States.length) (hf:muA opn m < f) (hR:y2 A s a fr f opn m=R) {i:Int} (hl:opn.getLast?=some i) :
  ∃f' opn' m',f=f'+1∧y2 A s a fr f' opn' m'=R∧muA opn' m' < f'∧muA opn' m' < muA opn m∧MG A m'∧(∀k∈opn',0≤k∧k < A.States.length) ∧
   (K7 m.2 i.toNat=true→opn'=opn.dropLast∧m'=m)∧(K7 m.2 i.toNat=false→opn'=opn.dropLast++O6 (P2 A i) (decide (a=0)) (decide (a=s.length))∧m'=(m.1++[⟨i,fr⟩],m.2.set i.toNat true)):=by
 obtain ⟨hne,hg,hi0⟩:=C88 hl
 have hi:=ho i hi0
 have hpos:0 < opn.length:=List.length_pos_iff.2 hne
 have hdl:opn.dropLast.length=opn.length - 1:=List.length_dropLast
 have hd:∀k∈opn.dropLast,0≤k∧k < A.States.length:=fun k hk=>ho k (List.dropLast_subset _ hk)
 obtain ⟨f',rfl⟩:∃f',f=f'+1:=⟨f - 1,by omega⟩
 unfold muA at hf
 cases hs:K7 m.2 i.toNat
 ·have hc:=F49 (sn:=m.2) (i:=i.toNat) (by rw [←hs];exact H86 (by rw [hm.sl];omega))
  have h2:=C87 hA hi (decide (a=0)) (decide (a=s.length))
  rw [F51 A s hl hs] at hR
  refine ⟨f',_,_,rfl,hR,?_,?_,hm.push hi fr hs,(fun k hk=>?_),⟨(fun h=>by cases h),fun _=>⟨rfl,rfl⟩⟩⟩
  ·unfold muA;rw [J63,hdl];dsimp only;omega
  ·unfold muA;rw [J63,hdl];dsimp only;omega
  ·rcases List.mem_append.1 hk with hk | hk
   ·exact hd k hk
   ·exact h2.2 k hk
 ·rw [E78 A s hl hs] at hR
  refine ⟨f',_,_,rfl,hR,?_,?_,hm,hd,⟨(fun _=>⟨rfl,rfl⟩),fun h=>by cases h⟩⟩
  ·unfold muA;rw [hdl];omega
  ·unfold muA;rw [hdl];omega
theorem D71 (hA:AG A) {a c:Nat}:∀(th:List Thread) (m:Mach),(∀t∈th,0≤t.state∧t.state < A.States.length)→MG A m→MG A (A70 A s a c th m)
 | [],_,_,h=>h
 | t::r,m,ht,h=>by
  rw [A70]
  refine D71 hA r _ (fun x hx=>ht x (List.mem_cons_of_mem _ hx)) ?_
  split
  ·rename_i hk
   refine D27 s hA ?_ h
   have:=o6 (A89 hA (ht t (List.mem_cons_self ..)))
   dsimp only
   omega
  ·exact h
theorem E79 (hA:AG A) {a:Nat} {m:Mach} (h:MG A m):MG A (C85 A s a m):=D71 s hA _ _ h.st (MG.first A)
theorem C39 {fr:Int}:∀{th:List Thread} {i:Nat},(∀t∈th.take i,t.from_≤fr)→(∀t,th[i]?=some t→t.from_ > fr)→A23 fr th=th.take i
 | [],i,_,_=>by simp [A23]
 | t::r,0,_,h2=>by
  have:=h2 t rfl
  unfold A23;rw [if_pos this];rfl
 | t::r,i+1,h1,h2=>by
  have h3:=h1 t (by simp)
  have ih:=C39 (fr:=fr) (th:=r) (i:=i) (fun x hx=>h1 x (by rw [List.take_succ_cons];exact List.mem_cons_of_mem _ hx)) (fun x hx=>h2 x hx)
  rw [A23,if_neg (by omega),List.take_succ_cons,ih]
theorem H00 (fr:Int):∀th:List Thread,(A23 fr th).length≤th.length∧∀t∈A23 fr th,t∈th
 | []=>⟨Nat.le_refl _,fun _ h=>h⟩
 | t::r=>by
  have ih:=H00 fr r
  unfold A23
  split
  ·exact ⟨Nat.zero_le _,fun _ h=>by cases h⟩
  ·refine ⟨by rw [J64,J64];omega,fun x hx=>?_⟩
   rcases List.mem_cons.1 hx with rfl | hx
   ·simp
   ·exact List.mem_cons_of_mem _ (ih.2 x hx)
theorem MG.keep {m:Mach} (h:MG A m) (fr:Int):MG A (A23 fr m.1,m.2):=by
 have h1:=H00 fr m.1
 have h2:=h.cnt
 exact ⟨h.sl,by dsimp only;omega,fun t ht=>h.st t (h1.2 t ht)⟩
end
end Go.AL
namespace Go.AL
open Go
end Go.AL
attribute [local semireducible] Go.AL.Neu Go.AL.Eff Go.AL.EffV Go.AL.WpL Go.AL.WpC Go.AL.FnOk Go.AL.LexD Go.AL.Sees Go.AL.RetOk Go.AL.FnIo Go.AL.Met Go.AL.RetS
namespace Go.AL
open Go Go.RowKit
set_option linter.unusedVariables false
section
variable {P:Program} {dst:Option Tmp} {ty:TypeId} {pos:String} {af:Array Edge} {gd:Option (Nat × Bool)} {fr:Fr} {ob:Obs} {nt:Nat}
theorem l0 {x y:Operand} {t e:TypeId} {n es k off m:Nat} {ki:IntKind} {i:Int} [ht:TyArr P t e n es] (hx:opv fr x=some (.s (.one (.ref k off)))) (hy:opv fr y=some (I0 (.int ki i))) (hi:i=(m:Int)) (h1:m < n) :
  Neu P ⟨dst,.indexAddr t x y,ty,pos,af,gd⟩ fr ob (fun s'=>s'=.s (.one (.ref k (off+m*es)))):=by
 subst hi
 exact L4 hx hy (by omega) (by omega)
theorem B82 {ops:Array Oper} {rest:List Oper} {Q:Post} {d:Nat} {op:Op} {ty:TypeId} {pos:String} {af:Array Edge} {j t:Nat} {b:Bool} (ht:(ops[j]?).bind (·.dst)=some t) (htn:Nat.blt t nt=true) (hx:E6 fr t=some .un) (hd:Nat.blt d nt=true)
  (k:WpL P nt ops rest ((d,.un)::fr) ob Q):WpL P nt ops (⟨some d,op,ty,pos,af,some (j,b)⟩::rest) fr ob Q:=by
 intro S G a w hn hs
 have hlt:d < S.nt:=by rw [hn];simpa using hd
 have hk:=k S G _ w hn (hs.put (s:=.un) (v:=undef) hlt rfl)
 have hts:t < a.tmps.size:=by rw [hs.nt,hn];simpa using htn
 have hy:=(Wants.un (b:=b)).yields (hs.fact (by rw [←hs.nt];exact hts) hx) ht hts rfl
 unfold wpList
 rw [if_neg (by unfold Region.wanted;simp only;rw [hy];simp)]
 exact hk
end
theorem quo64 {c m:Nat} (hc:c < 256) (h:c / 64=m):IntKind.u8.wrap ((c:Int).tdiv 64)=(m:Int):=by
 rw [Int.tdiv_eq_ediv_of_nonneg (by omega)]
 simp [IntKind.wrap,IntKind.signed,IntKind.bits]
 omega
theorem rem64 (c:Nat):min ((c:Int).tmod 64).toNat IntKind.u64.bits=c % 64:=by
 rw [Int.tmod_eq_emod_of_nonneg (by omega)]
 simp only [IntKind.bits]
 omega
theorem H01 (x:Int):IntKind.u64.wrap ((BitVec.ofInt IntKind.u64.bits x &&& BitVec.ofInt IntKind.u64.bits 1).toNat:Int)=x % 2:=by
 have h1:(BitVec.ofInt IntKind.u64.bits 1).toNat=1:=by decide
 rw [BitVec.toNat_and,h1,Nat.and_one_is_mod,BitVec.toNat_ofInt,show ((2 ^ IntKind.u64.bits:Nat):Int)=18446744073709551616 by rfl]
 simp [IntKind.wrap,IntKind.signed,IntKind.bits]
 omega
end Go.AL
namespace Go.AL
open Go
def Y6 (x y:List Str) (c:Change):List Str:=((x.drop c.Old.toNat).take ((c.Old+c.OldLen).toNat - c.Old.toNat))++((y.drop c.New.toNat).take ((c.New+c.NewLen).toNat - c.New.toNat))
def A53 (x y:List Str):List Change:=B60 (L5 (G9 [x,y]) x) (L5 (G9 [x,y]) y)
def x8 (h:Str→Bool) (l:List Str):List Str:=(l.map R4).filter h
def P9 (h:Str→Bool) (x y:List Str) (l:List Change):List Str:=l.flatMap fun c=>x8 h (Y6 x y c)
def A54 (h:Str→Bool) (a b:Str):List Str:=P9 h (F8 a) (F8 b) (A53 (F8 a) (F8 b))
theorem A24 (names:List Str) (file:List Str):(L5 names file).length=file.length:=by unfold L5;rw [J85]
theorem F52 (x y:List Str):(A53 x y).length≤x.length+1∧∀c∈A53 x y,0≤c.Old∧0≤c.New∧0≤c.OldLen∧0≤c.NewLen∧c.Old+c.OldLen≤x.length∧c.New+c.NewLen≤y.length:=by
 constructor
 ·have h1:=F02 (K4 0 0 (L5 (G9 [x,y]) x) (L5 (G9 [x,y]) y)) 0 0 (L5 (G9 [x,y]) x).length (L5 (G9 [x,y]) y).length
  have h2:=C08 0 0 (L5 (G9 [x,y]) x) (L5 (G9 [x,y]) y)
  rw [A24] at h2
  exact Nat.le_trans h1 (by omega)
 ·intro c hc
  have:=G02 _ _ c hc
  rw [A24,A24] at this
  exact this
theorem D72 (x y:List Str) (c:Change):(Y6 x y c).length≤x.length+y.length:=by
 unfold Y6
 rw [J63,J70,J70,J76,J76];omega
theorem H02 {x y:List Str} {c:Change} {s:Str} (h:s∈Y6 x y c):s∈x∨s∈y:=by
 rcases List.mem_append.1 h with h | h
 ·exact .inl (List.mem_of_mem_drop (List.mem_of_mem_take h))
 ·exact .inr (List.mem_of_mem_drop (List.mem_of_mem_take h))
theorem H03 (h:Str→Bool) (l:List Str):(x8 h l).length≤l.length:=by
 unfold x8;exact Nat.le_trans (List.length_filter_le ..) (by rw [J85];exact Nat.le_refl _)
theorem B67 (h:Str→Bool) (x y:List Str):∀l:List Change,(P9 h x y l).length≤l.length*(x.length+y.length)
 | []=>by simp [P9]
 | c::r=>by
  have ih:=B67 h x y r
  have h1:=H03 h (Y6 x y c)
  have h2:=D72 x y c
  unfold P9 at ih ⊢
  rw [List.flatMap_cons,J63,J64,J79];omega
end Go.AL
namespace Go.AL
open Go
abbrev names4:List Str:=[[97],[98,47,120],[98,47,121],[99,32,100]]
theorem names4_asc:names4.Pairwise (fun x y=>ltS x y=true):=by decide
theorem H04:∀p∈names4,d5 p=0∧p.length≤3:=by decide
theorem G14:∀p∈names4,∀q∈names4,above p q=false:=by decide
def NoDig (b:Str):Prop:=∀c∈b,c.toNat < 48∨57 < c.toNat
theorem NoDig.sub {a b:Str} (h:NoDig b) (hs:∀c∈a,c∈b):NoDig a:=fun c hc=>h c (hs c hc)
structure GN (L:Nat) (l:List File):Prop where
 sub:(l.map (·.Path)).Sublist names4
 cnt:∀f∈l,f.Blob.count 10≤L
 dig:∀f∈l,NoDig f.Blob
theorem GN.name {L:Nat} {l:List File} (h:GN L l):∀f∈l,f.Path∈names4:=fun _ hf=>h.sub.subset (List.mem_map_of_mem hf)
theorem GN.mono {L L':Nat} {l:List File} (h:GN L l) (hL:L≤L'):GN L' l:=⟨h.sub,fun f hf=>Nat.le_trans (h.cnt f hf) hL,h.dig⟩
theorem F53:∀{l:List File},E53 (l.map (·.Path))→ascend l=true
 | [],_=>rfl
 | [_],_=>rfl
 | f::g::r,h=>by
  rw [J77] at h
  have h1:=List.pairwise_cons.1 h
  unfold ascend
  rw [h1.1 g.Path (by simp),F53 h1.2];rfl
theorem GN.asc {L:Nat} {l:List File} (h:GN L l):ascend l=true:=F53 (names4_asc.sublist h.sub)
theorem GN.tree {L:Nat} {l:List File} (h:GN L l) (hL:L+1≤4096) (hB:∀f∈l,f.Blob.length≤1048576):G5 l=0:=by
 have hlen:l.length≤4:=by have:=h.sub.length_le;simpa using this
 unfold G5
 rw [if_neg (by omega),if_neg (fun h1=>by
  obtain ⟨f,hf,h2⟩:=List.any_eq_true.1 h1
  exact A0 h2 (H04 _ (h.name f hf)).1),if_neg (fun h1=>by
  rw [C27 h.asc fun x hx y hy=>G14 _ (h.name x hx) _ (h.name y hy)] at h1;cases h1),if_neg (fun h1=>by
  obtain ⟨f,hf,h2⟩:=List.any_eq_true.1 h1
  refine A0 h2 ?_
  unfold K9
  have h3:=h.cnt f hf
  have h4:=hB f hf
  have h5:=C10 f.Blob
  rw [if_neg]
  rintro (h6 | h6)
  ·omega
  ·split at h5<;>omega)]
theorem H05 {n:Int}:∀{ps seen:List Int},(∀p∈ps,0≤p∧p < n∧p∉seen)→ps.Nodup→B55 n seen ps=true
 | [],_,_,_=>rfl
 | p::r,seen,h,hn=>by
  have h1:=List.nodup_cons.1 hn
  unfold B55
  rw [decide_eq_true (h p (by simp)),Bool.true_and]
  refine H05 (fun q hq=>?_) h1.2
  have h2:=h q (by simp [hq])
  refine ⟨h2.1,h2.2.1,fun h3=>?_⟩
  rcases List.mem_append.1 h3 with h3 | h3
  ·exact h2.2.2 h3
  ·rw [List.mem_singleton.1 h3] at hq;exact h1.1 hq
def OneWay (g:Graph):Prop:=(∀c p:Nat,(p:Int)∈F1 g c→p < c)∨(∀c p:Nat,(p:Int)∈F1 g c→c < p)
theorem OneWay.acyc {g:Graph} (h:OneWay g) (c:Nat):¬Reaches g c c:=by
 rcases h with h | h
 ·have key:∀{a b:Nat},Reaches g a b→b < a:=fun {a b} hr=>by
   induction hr with
   | one h2=>exact h _ _ h2
   | more _ h2 ih=>have:=h _ _ h2;omega
  exact fun hr=>Nat.lt_irrefl _ (key hr)
 ·have key:∀{a b:Nat},Reaches g a b→a < b:=fun {a b} hr=>by
   induction hr with
   | one h2=>exact h _ _ h2
   | more _ h2 ih=>have:=h _ _ h2;omega
  exact fun hr=>Nat.lt_irrefl _ (key hr)
theorem D73:∀{g:List Commit},(∀c∈g,G5 c.Files=0)→X4 g=0
 | [],_=>rfl
 | c::r,h=>by
  unfold X4
  rw [if_neg (fun h1=>h1 (h c (by simp)))]
  exact D73 fun d hd=>h d (by simp [hd])
structure GV (g:Graph):Prop where
 len:g.length≤16
 pars:∀c∈g,c.Parents.length≤3∧(∀p∈c.Parents,0≤p∧p < (g.length:Int))∧c.Parents.Nodup∧0≤c.Date∧c.Date≤5
 way:OneWay g
 files:∀c∈g,GN 2111 c.Files∧∀f∈c.Files,f.Blob.length≤1048576
theorem GV.check {g:Graph} (h:GV g):N8 g=0:=by
 have hr:related g=true:=by
  unfold related
  rw [List.all_eq_true]
  exact fun c hc=>H05 (fun p hp=>⟨((h.pars c hc).2.1 p hp).1,((h.pars c hc).2.1 p hp).2,by simp⟩) (h.pars c hc).2.2.1
 have hcy:¬cyclic g=true:=fun h1=>by
  obtain ⟨c,hc⟩:=(B08 hr).1 h1
  exact h.way.acyc c hc
 have hl:=h.len
 have hlim:j6 g=true:=by
  unfold j6
  rw [decide_eq_true (by omega),Bool.true_and]
  cases ha:g.any fun c=>decide (c.Parents.length > 32)
  ·rfl
  obtain ⟨c,hc,h2⟩:=List.any_eq_true.1 ha
  have:=A0 h2
  have:=(h.pars c hc).1
  omega
 have hbd:¬C67 g=true:=fun h1=>by
  obtain ⟨c,hc,h2⟩:=List.any_eq_true.1 h1
  have:=A0 h2
  have:=(h.pars c hc).2.2.2
  omega
 unfold N8
 rw [hlim,hr,if_neg (by simp),if_neg (by simp),if_neg hcy,if_neg hbd]
 exact D73 fun c hc=>(h.files c hc).1.tree (by omega) (h.files c hc).2
end Go.AL
namespace Go.AL
open Go
section
variable (A:Auto) (s:Str)
abbrev E80 (p:Nat) (k:Int):List Int:=O6 (P2 A k) (decide (p=0)) (decide (p=s.length))
def reads (p:Nat) (k:Int):Prop:=(P2 A k).Kind=0∧A22 (P2 A k).Set (s.getD p 0).toNat=1
inductive Run:Int→Nat→Prop
 | start {i:Nat} (hi:i≤s.length):Run A.Start i
 | eps {k j:Int} {p:Nat} (h:Run k p) (hj:j∈E80 A s p k):Run j p
 | read {k:Int} {p:Nat} (h:Run k p) (hp:p < s.length) (hr:reads A s p k):Run (P2 A k).Next (p+1)
abbrev inA (k:Int):Prop:=0≤k∧k < A.States.length
variable {A s}
theorem Run.in_ (hA:AG A) {k:Int} {p:Nat} (h:Run A s k p):inA A k∧p≤s.length:=by
 induction h with
 | start hi=>exact ⟨hA.start,hi⟩
 | eps _ hj ih=>exact ⟨(C87 hA ih.1 _ _).2 _ hj,ih.2⟩
 | read _ hp hr ih =>
  refine ⟨?_,hp⟩
  have:=o6 (A89 hA ih.1)
  have h0:=hr.1
  omega
variable (A s)
def onM (m:Mach) (k:Int):Prop:=inA A k∧K7 m.2 k.toNat=true
structure Sy (p:Nat) (m:Mach):Prop where
 mg:MG A m
 fr:∀t∈m.1,0≤t.from_
 sync:∀k,onM A m k↔∃t∈m.1,t.state=k
variable {A s}
theorem I88 {sn:List Bool} {i c:Nat} (hi:i < sn.length):K7 (sn.set i true) c=(K7 sn c||decide (i=c)):=by
 unfold K7
 rw [List.getElem?_set]
 by_cases e:i=c
 ·subst e
  rw [if_pos rfl,if_pos hi];simp
 ·rw [if_neg e];simp [e]
theorem H06 {m:Mach} (hm:MG A m) {i:Int} (hi:inA A i) {fr:Int} (k:Int):onM A (m.1++[⟨i,fr⟩],m.2.set i.toNat true) k↔onM A m k∨k=i:=by
 unfold onM
 rw [I88 (by rw [hm.sl];have:=hi.2;have:=hi.1;omega),J81,decide_eq_true_eq]
 constructor
 ·rintro ⟨h1,h2 | h2⟩
  ·exact .inl ⟨h1,h2⟩
  ·right;have:=hi.1;have:=h1.1;omega
 ·rintro (⟨h1,h2⟩ | rfl)
  ·exact ⟨h1,.inl h2⟩
  ·exact ⟨hi,.inr rfl⟩
theorem Sy.push {p:Nat} {m:Mach} (h:Sy A p m) {i:Int} (hi:inA A i) {fr:Int} (hfr:0≤fr) (ho:K7 m.2 i.toNat=false):Sy A p (m.1++[⟨i,fr⟩],m.2.set i.toNat true) where
 mg:=h.mg.push hi fr ho
 fr:=fun t ht=>by
  rcases List.mem_append.1 ht with ht | ht
  ·exact h.fr t ht
  ·rw [List.mem_singleton.1 ht];exact hfr
 sync:=fun k=>by
  rw [H06 h.mg hi,h.sync k]
  constructor
  ·rintro (⟨t,ht,e⟩ | rfl)
   ·exact ⟨t,List.mem_append_left _ ht,e⟩
   ·exact ⟨⟨k,fr⟩,by simp,rfl⟩
  ·rintro ⟨t,ht,e⟩
   rcases List.mem_append.1 ht with ht | ht
   ·exact .inl ⟨t,ht,e⟩
   ·right;rw [←e,List.mem_singleton.1 ht]
theorem D28 (hA:AG A) {p:Nat} {fr:Int} (hfr:0≤fr):∀(f:Nat) (opn:List Int) (m:Mach),muA opn m < f→Sy A p m→(∀k∈opn,inA A k)→(∀k,onM A m k→∀j∈E80 A s p k,onM A m j∨j∈opn) →
  let R:=y2 A s p fr f opn m
  Sy A p R∧(∀k,onM A R k→∀j∈E80 A s p k,onM A R j)∧(∀k,onM A m k→onM A R k)∧(∀k∈opn,onM A R k) ∧
   ∀P:Int→Prop,(∀k,P k→∀j∈E80 A s p k,P j)→(∀k,onM A m k→P k)→(∀k∈opn,P k)→∀k,onM A R k→P k
 | 0,_,_,h,_,_,_=>absurd h (Nat.not_lt_zero _)
 | f + 1,opn,m,hf,hm,ho,hc=>by
  dsimp only
  cases hl:opn.getLast? with
  | none =>
   have h0:opn=[]:=List.getLast?_eq_none_iff.1 hl
   subst h0
   rw [F50]
   exact ⟨hm,fun k hk j hj=>(hc k hk j hj).resolve_right (by simp),fun _ h=>h,(fun k hk=>by cases hk),fun P _ h1 _ k hk=>h1 k hk⟩
  | some i =>
   obtain ⟨f',opn',m',hff,hR',hf',hmu',hm',hop',hseen,hnew⟩:=D70 s hA (a:=p) (fr:=fr) hm.mg ho hf rfl hl
   obtain rfl:f=f':=by omega
   obtain ⟨hne,hg,hi0⟩:=C88 hl
   have hi:=ho i hi0
   have hsplit:opn=opn.dropLast++[i]:=by
    rw [List.dropLast_eq_take]
    have hpos:0 < opn.length:=List.length_pos_iff.2 hne
    have h1:=List.take_add_one (l:=opn) (i:=opn.length - 1)
    rw [hg,show opn.length - 1+1=opn.length by omega,J67] at h1
    exact h1
   have hmem:∀k,k∈opn↔k∈opn.dropLast∨k=i:=fun k=>by
    conv=>lhs;rw [hsplit]
    rw [J84,List.mem_singleton]
   cases hs:K7 m.2 i.toNat
   ·obtain ⟨e1,e2⟩:=hnew hs
    subst e1 e2
    have hsy:=hm.push hi hfr hs
    have hon:=H06 (fr:=fr) hm.mg hi
    have ih:=D28 hA hfr f _ _ hf' hsy hop' (fun k hk j hj=>by
     rw [hon,J84]
     rcases (hon k).1 hk with hk | rfl
     ·rcases hc k hk j hj with h | h
      ·exact .inl (.inl h)
      ·rcases (hmem j).1 h with h | h
       ·exact .inr (.inl h)
       ·exact .inl (.inr h)
     ·exact .inr (.inr hj))
    dsimp only at ih
    rw [hR'] at ih
    obtain ⟨a1,a2,a3,a4,a5⟩:=ih
    refine ⟨a1,a2,fun k hk=>a3 k ((hon k).2 (.inl hk)),fun k hk=>?_,fun P hP h1 h2 k hk=>?_⟩
    ·rcases (hmem k).1 hk with hk | rfl
     ·exact a4 k (List.mem_append_left _ hk)
     ·exact a3 _ ((hon _).2 (.inr rfl))
    ·have hPi:=h2 i hi0
     refine a5 P hP (fun k hk=>?_) (fun k hk=>?_) k hk
     ·rcases (hon k).1 hk with hk | rfl
      ·exact h1 k hk
      ·exact hPi
     ·rcases List.mem_append.1 hk with hk | hk
      ·exact h2 k ((hmem k).2 (.inl hk))
      ·exact hP i hPi k hk
   ·obtain ⟨e1,e2⟩:=hseen hs
    subst e1 e2
    have hoi:onM A m' i:=⟨hi,hs⟩
    have ih:=D28 hA hfr f _ _ hf' hm hop' (fun k hk j hj=>by
     rcases hc k hk j hj with h | h
     ·exact .inl h
     ·rcases (hmem j).1 h with h | rfl
      ·exact .inr h
      ·exact .inl hoi)
    dsimp only at ih
    rw [hR'] at ih
    obtain ⟨a1,a2,a3,a4,a5⟩:=ih
    refine ⟨a1,a2,a3,fun k hk=>?_,fun P hP h1 h2 k hk=>a5 P hP h1 (fun k hk=>h2 k ((hmem k).2 (.inl hk))) k hk⟩
    rcases (hmem k).1 hk with hk | rfl
    ·exact a4 k hk
    ·exact a3 _ hoi
def Shut (A:Auto) (s:Str) (p:Nat) (m:Mach):Prop:=∀k,onM A m k→∀j∈E80 A s p k,onM A m j
theorem H07 (hA:AG A) {p:Nat} {q fr:Int} (hfr:0≤fr) (hq:inA A q) {m:Mach} (hm:Sy A p m) (hc:Shut A s p m) :
  Sy A p (C84 A s p ⟨q,fr⟩ m)∧Shut A s p (C84 A s p ⟨q,fr⟩ m)∧(∀k,onM A m k→onM A (C84 A s p ⟨q,fr⟩ m) k)∧onM A (C84 A s p ⟨q,fr⟩ m) q ∧
   ∀P:Int→Prop,(∀k,P k→∀j∈E80 A s p k,P j)→(∀k,onM A m k→P k)→P q→∀k,onM A (C84 A s p ⟨q,fr⟩ m) k→P k:=by
 have hcn:=hm.mg.cnt
 obtain ⟨a1,a2,a3,a4,a5⟩:=D28 (s:=s) hA hfr (3*A.States.length+2) [q] m (by unfold muA;simp only [List.length_singleton];omega) hm (fun k hk=>by rw [List.mem_singleton.1 hk];exact hq) (fun k hk j hj=>.inl (hc k hk j hj))
 exact ⟨a1,a2,a3,a4 q (by simp),fun P hP h1 h2=>a5 P hP h1 fun k hk=>by rw [List.mem_singleton.1 hk];exact h2⟩
theorem C40 (hA:AG A) {p c:Nat}:∀(th:List Thread) (m:Mach),(∀t∈th,inA A t.state∧0≤t.from_)→Sy A p m→Shut A s p m →
  let R:=A70 A s p c th m
  Sy A p R∧Shut A s p R∧(∀k,onM A m k→onM A R k)∧(∀t∈th,(P2 A t.state).Kind=0→A22 (P2 A t.state).Set c=1→onM A R (P2 A t.state).Next) ∧
   ∀P:Int→Prop,(∀k,P k→∀j∈E80 A s p k,P j)→(∀k,onM A m k→P k)→(∀t∈th,(P2 A t.state).Kind=0→A22 (P2 A t.state).Set c=1→P (P2 A t.state).Next)→∀k,onM A R k→P k
 | [],m,_,hm,hc=>⟨hm,hc,fun _ h=>h,(fun t ht=>by cases ht),fun P _ h1 _ k hk=>h1 k hk⟩
 | t::r,m,ht,hm,hc=>by
  dsimp only
  rw [A70]
  have htr:∀x∈r,inA A x.state∧0≤x.from_:=fun x hx=>ht x (List.mem_cons_of_mem _ hx)
  obtain ⟨ht1,ht2⟩:=ht t (List.mem_cons_self ..)
  by_cases hk:(P2 A t.state).Kind=0∧A22 (P2 A t.state).Set c=1
  ·rw [if_pos hk]
   have hn:inA A (P2 A t.state).Next:=by have:=o6 (A89 hA ht1);have:=hk.1;unfold inA;omega
   obtain ⟨a1,a2,a3,a4,a5⟩:=H07 hA (q:=(P2 A t.state).Next) ht2 hn hm hc
   obtain ⟨b1,b2,b3,b4,b5⟩:=C40 hA r _ htr a1 a2
   refine ⟨b1,b2,fun k h=>b3 k (a3 k h),fun x hx h1 h2=>?_,fun P hP h1 h2 k h3=>?_⟩
   ·rcases List.mem_cons.1 hx with rfl | hx
    ·exact b3 _ a4
    ·exact b4 x hx h1 h2
   ·exact b5 P hP (a5 P hP h1 (h2 t (List.mem_cons_self ..) hk.1 hk.2)) (fun x hx=>h2 x (List.mem_cons_of_mem _ hx)) k h3
  ·rw [if_neg hk]
   obtain ⟨b1,b2,b3,b4,b5⟩:=C40 hA r _ htr hm hc
   refine ⟨b1,b2,b3,fun x hx h1 h2=>?_,fun P hP h1 h2 k h3=>b5 P hP h1 (fun x hx=>h2 x (List.mem_cons_of_mem _ hx)) k h3⟩
   rcases List.mem_cons.1 hx with rfl | hx
   ·exact absurd ⟨h1,h2⟩ hk
   ·exact b4 x hx h1 h2
theorem Sy.first (A:Auto) (p:Nat):Sy A p ([],List.replicate A.States.length false) where
 mg:=MG.first A
 fr:=fun _ h=>by cases h
 sync:=fun k=>by
  constructor
  ·rintro ⟨h1,h2⟩
   unfold K7 at h2
   rw [List.getElem?_replicate] at h2
   split at h2<;>cases h2
  ·rintro ⟨_,h,_⟩;cases h
theorem B20 (A:Auto) (k:Int):¬onM A ([],List.replicate A.States.length false) k:=fun h=>by
 obtain ⟨_,h,_⟩:=((Sy.first A 0).sync k).1 h
 cases h
theorem G15 {m:Mach} (h:∀t∈m.1,0≤t.from_):0≤P3 A m.1↔∃t∈m.1,(P2 A t.state).Kind=4:=by
 obtain ⟨th,sn⟩:=m
 dsimp only at h ⊢
 induction th with
 | nil=>simp [P3]
 | cons t r ih =>
  unfold P3
  split
  ·rename_i hk;exact ⟨fun _=>⟨t,List.mem_cons_self ..,hk⟩,fun _=>h t (List.mem_cons_self ..)⟩
  ·rename_i hk
   rw [ih fun x hx=>h x (List.mem_cons_of_mem _ hx)]
   constructor
   ·rintro ⟨x,hx,e⟩;exact ⟨x,List.mem_cons_of_mem _ hx,e⟩
   ·rintro ⟨x,hx,e⟩
    rcases List.mem_cons.1 hx with rfl | hx
    ·exact absurd e hk
    ·exact ⟨x,hx,e⟩
theorem ite_snd {α:Type} {c:Prop} [Decidable c] {x y:α × Bool} (hx:x.2=true) (hy:y.2=true):(if c then x else y).2=true:=by split<;>assumption
theorem D74:∀(f a:Nat) (m:Mach) (b:Int × Int),(A71 A s f a m b true).2=true
 | 0,_,_,_=>rfl
 | f+1,a,m,b=>by
  rw [A71]
  (try dsimp only)
  have e:(if 0≤P3 A (if true=true then m else C84 A s a ⟨A.Start,a⟩ m).1 then true else true)=true:=ite_self _
  rw [e]
  exact ite_snd rfl (D74 f _ _ _)
structure NI (A:Auto) (s:Str) (a:Nat) (m:Mach):Prop where
 sy:Sy A a m
 shut:Shut A s a m
 sound:∀k,onM A m k→Run A s k a
 all:∀p k,p+1=a→Run A s k p→reads A s p k→onM A m (P2 A k).Next
 no:∀p k,p < a→Run A s k p→(P2 A k).Kind≠4
theorem E81 (hA:AG A):∀(f a:Nat) (m:Mach) (b:Int × Int),f=s.length+1 - a→a≤s.length→NI A s a m→((A71 A s f a m b false).2=true↔∃k p,Run A s k p∧(P2 A k).Kind=4)
 | 0,a,m,b,hf,ha,_=>by omega
 | f + 1,a,m,b,hf,ha,h=>by
  obtain ⟨a1,a2,a3,a4,a5⟩:=H07 (s:=s) hA (q:=A.Start) (fr:=(a:Int)) (by omega) hA.start h.sy h.shut
  obtain ⟨m1,hm1⟩:∃m1,m1=C84 A s a ⟨A.Start,a⟩ m:=⟨_,rfl⟩
  rw [←hm1] at a1 a2 a3 a4 a5
  have hon:∀k,onM A m1 k↔Run A s k a:=fun k=>by
   constructor
   ·exact a5 (fun k=>Run A s k a) (fun k hk j hj=>.eps hk hj) h.sound (.start ha) k
   ·have key:∀k p,Run A s k p→p=a→onM A m1 k:=fun k p hr=>by
     induction hr with
     | start _=>exact fun _=>a4
     | eps _ hj ih=>intro e;subst e;exact a2 _ (ih rfl) _ hj
     | read hr' _ hrd _=>intro e;exact a3 _ (h.all _ _ e hr' hrd)
    exact fun hr=>key k a hr rfl
  have hacc:0≤P3 A m1.1↔∃k,Run A s k a∧(P2 A k).Kind=4:=by
   rw [G15 a1.fr]
   constructor
   ·rintro ⟨t,ht,e⟩;exact ⟨t.state,(hon _).1 ((a1.sync _).2 ⟨t,ht,rfl⟩),e⟩
   ·rintro ⟨k,hr,e⟩
    obtain ⟨t,ht,rfl⟩:=(a1.sync k).1 ((hon k).2 hr)
    exact ⟨t,ht,e⟩
  rw [A71]
  (try dsimp only)
  rw [if_neg (show ¬false=true by decide),←hm1]
  by_cases hac:0≤P3 A m1.1
  ·rw [if_pos hac,if_pos hac,if_pos hac]
   obtain ⟨k,hr,e⟩:=hacc.1 hac
   refine ⟨fun _=>⟨k,a,hr,e⟩,fun _=>?_⟩
   split
   ·rfl
   ·exact D74 _ _ _ _
  ·rw [if_neg hac,if_neg hac,if_neg hac]
   have hno:∀p k,p≤a→Run A s k p→(P2 A k).Kind≠4:=fun p k hp hr e=>by
    rcases Nat.lt_or_ge p a with h1 | h1
    ·exact h.no p k h1 hr e
    ·obtain rfl:p=a:=by omega
     exact hac (hacc.2 ⟨k,hr,e⟩)
   by_cases hal:a=s.length
   ·rw [if_pos (.inl hal)]
    refine ⟨(fun h=>by cases h),fun ⟨k,p,hr,e⟩=>?_⟩
    have:=(hr.in_ hA).2
    exact absurd e (hno p k (by omega) hr)
   ·rw [if_neg (fun h=>h.elim hal fun h=>by cases h.1)]
    obtain ⟨b1,b2,b3,b4,b5⟩:=C40 (s:=s) hA (p:=a+1) (c:=(s.getD a 0).toNat) m1.1 ([],List.replicate A.States.length false) (fun t ht=>⟨a1.mg.st t ht,a1.fr t ht⟩) (Sy.first A _) (fun k hk=>absurd hk (B20 A k))
    refine E81 hA f (a+1) _ b (by omega) (by omega) ⟨b1,b2,?_,?_,fun p k hp hr=>hno p k (by omega) hr⟩
    ·refine b5 (fun k=>Run A s k (a+1)) (fun k hk j hj=>.eps hk hj) (fun k hk=>absurd hk (B20 A k)) fun t ht h1 h2=>?_
     exact .read ((hon _).1 ((a1.sync _).2 ⟨t,ht,rfl⟩)) (by omega) ⟨h1,h2⟩
    ·intro p k hp hr hrd
     obtain rfl:p=a:=by omega
     obtain ⟨t,ht,rfl⟩:=(a1.sync k).1 ((hon k).2 hr)
     exact b4 t ht hrd.1 hrd.2
theorem J33 (hA:AG A):(B66 A s 0).2=true↔∃k p,Run A s k p∧(P2 A k).Kind=4:=by
 unfold B66
 exact E81 hA _ 0 _ _ rfl (Nat.zero_le _) ⟨Sy.first A 0,fun k hk=>absurd hk (B20 A k),fun k hk=>absurd hk (B20 A k),fun p k h=>by omega,fun p k h=>by omega⟩
end
end Go.AL
namespace Go.AL
open Go
structure ChainA (A:Auto) (w:Str):Prop where
 ag:AG A
 start:A.Start=(w.length:Int)+2
 s0:(P2 A ((w.length:Int)+2)).Kind=2∧(P2 A ((w.length:Int)+2)).Next=(w.length:Int)+1
 lt:∀(j:Nat) (c:UInt8),w[j]?=some c→(P2 A ((w.length:Int)+1 - j)).Kind=0∧(P2 A ((w.length:Int)+1 - j)).Next=(w.length:Int) - j∧∀x:UInt8,A22 (P2 A ((w.length:Int)+1 - j)).Set x.toNat=1↔x=c
 en:(P2 A 1).Kind=3∧(P2 A 1).Next=0
 ac:(P2 A 0).Kind=4
def chainB (A:Auto) (w:Str):Bool:=decide (E77 A=0)&&decide (A.Start=(w.length:Int)+2)&&decide ((P2 A ((w.length:Int)+2)).Kind=2∧(P2 A ((w.length:Int)+2)).Next=(w.length:Int)+1) &&
 ((List.range w.length).all fun j=>decide ((P2 A ((w.length:Int)+1 - j)).Kind=0∧(P2 A ((w.length:Int)+1 - j)).Next=(w.length:Int) - j)&&(List.range 256).all fun x=>decide (A22 (P2 A ((w.length:Int)+1 - j)).Set x=1) == decide (x=(w.getD j 0).toNat)) &&
 decide ((P2 A 1).Kind=3∧(P2 A 1).Next=0)&&decide ((P2 A 0).Kind=4)
theorem ag_of {A:Auto} (h:E77 A=0):AG A:=by
 unfold E77 at h
 split at h
 ·cases h
 ·split at h
  ·rename_i h1 h2
   exact ⟨by omega,by omega,List.all_eq_true.1 h2⟩
  ·cases h
theorem C89 {A:Auto} {w:Str} (h:chainB A w=true):ChainA A w:=by
 unfold chainB at h
 simp only [J61,decide_eq_true_eq,List.all_eq_true,K12,beq_iff_eq,decide_eq_decide] at h
 obtain ⟨⟨⟨⟨⟨h1,h2⟩,h3⟩,h4⟩,h5⟩,h6⟩:=h
 refine ⟨ag_of h1,h2,h3,fun j c hc=>?_,h5,h6⟩
 have hj:=(List.getElem?_eq_some_iff.1 hc).1
 obtain ⟨a1,a2⟩:=h4 j hj
 refine ⟨a1.1,a1.2,fun x=>?_⟩
 have hx:=a2 x.toNat x.toNat_lt
 rw [hx,J65,hc]
 exact ⟨fun e=>UInt8.toNat_inj.1 e,fun e=>by rw [e];rfl⟩
theorem B21 {q:State} {b e:Bool} {j:Int} (h:j∈O6 q b e):(q.Kind=1)∨(q.Kind=2∧b=true∧j=q.Next)∨(q.Kind=3∧e=true∧j=q.Next):=by
 unfold O6 at h
 split at h
 ·rename_i hk;exact .inl hk
 split at h
 ·rename_i hk
  split at h
  ·rename_i hb;exact .inr (.inl ⟨hk,hb,List.mem_singleton.1 h⟩)
  ·cases h
 split at h
 ·rename_i hk
  split at h
  ·rename_i hb;exact .inr (.inr ⟨hk,hb,List.mem_singleton.1 h⟩)
  ·cases h
 ·cases h
theorem I89 {A:Auto} {w:Str} (h:ChainA A w) (t:Str):(B66 A t 0).2=true↔t=w:=by
 rw [J33 h.ag]
 constructor
 ·rintro ⟨k,p,hr,hk⟩
  have key:∀k p,Run A t k p→k=(w.length:Int)+2∨(∃j:Nat,j≤w.length∧k=(w.length:Int)+1 - j∧p=j∧t.take j=w.take j)∨(k=0∧t=w):=by
   intro k p hr
   induction hr with
   | start _=>exact .inl h.start
   | @eps k j p hr hj ih =>
    rcases ih with rfl | ⟨_,hi,rfl,rfl,hti⟩ | ⟨rfl,e⟩
    ·rcases B21 hj with h1 | ⟨_,h2,h3⟩ | ⟨h1,_⟩
     ·rw [h.s0.1] at h1;cases h1
     ·have hp:p=0:=A0 h2
      rw [h.s0.2] at h3
      exact .inr (.inl ⟨0,Nat.zero_le _,by omega,hp,rfl⟩)
     ·rw [h.s0.1] at h1;cases h1
    ·rcases Nat.lt_or_ge p w.length with hlt | hge
     ·obtain ⟨a1,_⟩:=h.lt p w[p] (J60 hlt)
      rcases B21 hj with h1 | ⟨h1,_⟩ | ⟨h1,_⟩<;>(rw [a1] at h1;cases h1)
     ·obtain rfl:p=w.length:=by omega
      have e1:(w.length:Int)+1 - (w.length:Int)=1:=by omega
      rw [e1] at hj
      rcases B21 hj with h1 | ⟨h1,_⟩ | ⟨_,h2,h3⟩
      ·rw [h.en.1] at h1;cases h1
      ·rw [h.en.1] at h1;cases h1
      ·have hp:w.length=t.length:=A0 h2
       rw [h.en.2] at h3
       right;right
       refine ⟨h3,?_⟩
       rw [hp,J67] at hti
       rw [hti,←hp,J67]
    ·rcases B21 hj with h1 | ⟨h1,_⟩ | ⟨h1,_⟩<;>(rw [h.ac] at h1;cases h1)
   | @read k p hr hp hrd ih =>
    obtain ⟨r1,r2⟩:=hrd
    rcases ih with rfl | ⟨_,hi,rfl,rfl,hti⟩ | ⟨rfl,e⟩
    ·rw [h.s0.1] at r1;cases r1
    ·rcases Nat.lt_or_ge p w.length with hlt | hge
     ·have hw:w[p]?=some w[p]:=J60 hlt
      obtain ⟨_,a2,a3⟩:=h.lt p w[p] hw
      have hc:=(a3 (t.getD p 0)).1 (by subst_vars;exact r2)
      right;left
      refine ⟨p+1,hlt,by rw [a2];omega,by omega,?_⟩
      have ht:t[p]?=some w[p]:=by
       subst_vars
       rw [←hc,J65,J60 hp];rfl
      rw [List.take_add_one,List.take_add_one,hti,ht,hw]
     ·obtain rfl:p=w.length:=by omega
      have e1:(w.length:Int)+1 - (w.length:Int)=1:=by omega
      rw [e1,h.en.1] at r1;cases r1
    ·rw [h.ac] at r1;cases r1
  rcases key k p hr with rfl | ⟨_,hi,rfl,rfl,hti⟩ | ⟨_,e⟩
  ·rw [h.s0.1] at hk;cases hk
  ·rcases Nat.lt_or_ge p w.length with hlt | hge
   ·rw [(h.lt p w[p] (J60 hlt)).1] at hk;cases hk
   ·obtain rfl:p=w.length:=by omega
    have e1:(w.length:Int)+1 - (w.length:Int)=1:=by omega
    rw [e1,h.en.1] at hk;cases hk
  ·exact e
 ·rintro rfl
  have r0:Run A t ((t.length:Int)+2) 0:=by rw [←h.start];exact .start (Nat.zero_le _)
  have r1:Run A t ((t.length:Int)+1) 0:=by
   rw [←h.s0.2]
   refine .eps r0 ?_
   show _∈O6 _ _ _
   unfold O6
   rw [h.s0.1]
   simp
  have key:∀j:Nat,j≤t.length→Run A t ((t.length:Int)+1 - j) j:=by
   intro j
   induction j with
   | zero=>intro _;rw [show (t.length:Int)+1 - ((0:Nat):Int)=(t.length:Int)+1 by omega];exact r1
   | succ j ih =>
    intro hj
    have hlt:j < t.length:=by omega
    obtain ⟨a1,a2,a3⟩:=h.lt j t[j] (J60 hlt)
    have:=Run.read (ih (by omega)) hlt ⟨a1,(a3 _).2 (by rw [J65,J60 hlt];rfl)⟩
    rw [a2] at this
    rw [show (t.length:Int)+1 - ((j+1:Nat):Int)=(t.length:Int) - j by omega]
    exact this
  have r2:=key t.length (Nat.le_refl _)
  rw [show (t.length:Int)+1 - (t.length:Int)=1 by omega] at r2
  refine ⟨0,t.length,?_,h.ac⟩
  rw [←h.en.2]
  refine .eps r2 ?_
  show _∈O6 _ _ _
  unfold O6
  rw [h.en.1]
  simp
theorem I35:∀{l:List Change} {i j m n:Int},ScOk i j l m n→i≤m∧j≤n
 | [],_,_,_,_,h=>h
 | c::r,i,j,m,n,h=>by
  obtain ⟨h1,h2,h3,h4,h5,h6,h7⟩:=h
  have:=I35 h7
  unfold L7 at h1 h2 h3 h4
  omega
def remC (q:Str→Bool) (x:List Str) (l:List Change):Nat:=(l.map fun c=>(sub x c.Old (v8 c)).countP q).sum
def addC (q:Str→Bool) (y:List Str) (l:List Change):Nat:=(l.map fun c=>(sub y c.New (B62 c)).countP q).sum
theorem H08 {x y:List Str} (q:Str→Bool):∀(l:List Change) (i j:Int),0≤i→0≤j→ScOk i j l x.length y.length→B10 x y i j l→(sub x i x.length).countP q+addC q y l=(sub y j y.length).countP q+remC q x l
 | [],i,j,_,_,_,h=>by
  have h:sub x i x.length=sub y j y.length:=h
  rw [h];rfl
 | c::r,i,j,hi,hj,ho,h=>by
  obtain ⟨h1,h2,h3,h4,h5,h6,h7⟩:=ho
  obtain ⟨e1,e2⟩:=h
  unfold L7 at h1 h2 h3 h4
  obtain ⟨h8,h9⟩:=I35 h7
  have ih:=H08 q r (v8 c) (B62 c) (by unfold v8;omega) (by unfold B62;omega) h7 e2
  have s1:sub x i x.length=sub x i c.Old++(sub x c.Old (v8 c)++sub x (v8 c) x.length):=by
   rw [j7 x (a:=c.Old) (b:=v8 c) (by omega) (by unfold v8;omega) h8,j7 x hi h5 (by omega)]
  have s2:sub y j y.length=sub y j c.New++(sub y c.New (B62 c)++sub y (B62 c) y.length):=by
   rw [j7 y (a:=c.New) (b:=B62 c) (by omega) (by unfold B62;omega) h9,j7 y hj h6 (by omega)]
  unfold addC remC at ih ⊢
  rw [s1,s2,e1]
  simp only [List.countP_append,J77,K10]
  omega
theorem H87 (h:Str→Bool) (l:List Str):(x8 h l).length=l.countP fun s=>h (R4 s):=by
 unfold x8
 rw [←List.countP_eq_length_filter,List.countP_map];rfl
theorem D75 (h:Str→Bool) (x y:List Str):∀l:List Change,(P9 h x y l).length=remC (fun s=>h (R4 s)) x l+addC (fun s=>h (R4 s)) y l
 | []=>rfl
 | c::r=>by
  have ih:=D75 h x y r
  have e:Y6 x y c=sub x c.Old (v8 c)++sub y c.New (B62 c):=rfl
  unfold P9 remC addC at ih ⊢
  rw [List.flatMap_cons,J63,ih,H87,e,List.countP_append]
  simp only [J77,K10]
  omega
theorem I90 {h:Str→Bool} {x y:List Str} {l:List Change} {s:Str} (hs:s∈P9 h x y l):h s=true:=by
 obtain ⟨c,_,hc⟩:=List.mem_flatMap.1 hs
 exact (List.mem_filter.1 hc).2
theorem F54 (x:List Str):sub x 0 x.length=x:=by unfold sub;simp
theorem I91 (h:Str→Bool) {x y:List Str} (hx:x.length≤4096) (hy:y.length≤4096):∃r a:Nat,(P9 h x y (A53 x y)).length=r+a∧x.countP (fun s=>h (R4 s))+a=y.countP (fun s=>h (R4 s))+r:=by
 have hf:=H77 x y hx hy
 have h1:=H08 (fun s=>h (R4 s)) _ 0 0 (by omega) (by omega) hf.ok hf.eq
 rw [F54,F54] at h1
 exact ⟨_,_,D75 h x y (A53 x y),h1⟩
end Go.AL
