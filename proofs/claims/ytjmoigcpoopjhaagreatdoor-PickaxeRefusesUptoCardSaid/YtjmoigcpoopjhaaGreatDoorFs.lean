/- Plain facts about data; no project text. -/
import Derived.Test.YtjmoigcpoopjhaaGreatDoorD
import Derived.Lib.Strings
import Derived.Lib.Bytealg
import Derived.Lib.Join
import Derived.Lib.ItoaNum
import Derived.Test.YtjmoigcpoopjhaaGreatDoorAn
import Derived.Lib.IndexMore
set_option linter.unusedSimpArgs false
namespace Go.AL
open Go
theorem u8_lf (c:UInt8):((c.toNat:Int)=10)↔c=10:=by
 constructor
 ·intro h
  have:c.toNat=10:=by omega
  exact UInt8.toNat_inj.1 (by simpa using this)
 ·rintro rfl;rfl
def L1 (cur:Str):Str→List Str
 | []=>if cur=[] then [] else [cur]
 | c::r=>if c=10 then (cur++[c])::L1 [] r else L1 (cur++[c]) r
def I6 (b:Str):List Str:=L1 [] b
theorem B85 (cur:Str) (s:Str):(L1 cur s).length≤s.length+1:=by
 induction s generalizing cur with
 | nil=>unfold L1;split<;>simp
 | cons c r ih=>unfold L1;split<;>simp<;>(have:=ih [];have:=ih (cur++[c]);omega)
theorem C58 (s:Str):(L1 [] s).length≤s.length:=by
 have key:∀(s cur:Str),cur≠[]→(L1 cur s).length≤s.length+1:=fun s cur _=>B85 cur s
 induction s with
 | nil=>simp [L1]
 | cons c r ih=>unfold L1;split<;>simp<;>(have:=B85 ([]++[c]) r;simp at this;omega)
theorem F36 (b:Str):(I6 b).length≤b.length:=C58 b
theorem C78 (cur r:Str) (c:UInt8):L1 cur (c::r)=if c=10 then (cur++[c])::L1 [] r else L1 (cur++[c]) r:=rfl
theorem H07 (cur:Str) (h:cur≠[]):L1 cur []=[cur]:=by simp [L1,h]
theorem or_pick {p q:Prop} [Decidable p] [Decidable q]:(if decide p=true then true else decide q)=decide (p∨q):=by by_cases p<;>simp [*]
theorem and_pick {p q:Prop} [Decidable p] [Decidable q]:(if decide p=true then decide q else false)=decide (p∧q):=by by_cases p<;>simp [*]
theorem D46 {α:Type} (l:List (List α)) (i:Nat) (h:i < l.length):(l.take (i+1)).flatten=(l.take i).flatten++l[i]:=by
 rw [List.take_add_one,L01 h,Option.toList_some,L45];simp
theorem I99 (i:Nat):((i:Int)+1).toNat=i+1:=by omega
theorem G37 {α:Type} (b:List α) (f i:Nat) (hf:f≤i) (hi:i < b.length):(b.drop f).take (i - f)++[b[i]]=(b.drop f).take (i+1 - f):=by
 rw [show i+1 - f=(i - f)+1 by omega,List.take_add_one,L28,show f+(i - f)=i by omega,L01 hi]
 rfl
def ended (s:Str):Bool:=s.getLast? == some 10
def T3:List Str→Str→Int→Int
 | [],_,_ => -1
 | x::r,s,i=>if x=s then i else T3 r s (i+1)
def o6 (s:Str):Bool:=s.dropLast.all (·≠10)&&s != []
def M8 (b:Str):Int:=if b.length > 1048576∨(I6 b).length > 4096 then 1 else 0
def R9 (out:List Str) (s:Str):List Str:=if s∈out then out else out++[s]
def I9 (files:List (List Str)):List Str:=files.flatten.foldl R9 []
def S5 (names:List Str) (file:List Str):List Int:=file.map (fun s=>T3 names s 0)
theorem D94 (out:List Str) (s:Str):(R9 out s).length≤out.length+1:=by unfold R9;split<;>simp
theorem D06 (l out:List Str):(l.foldl R9 out).length≤out.length+l.length:=by
 induction l generalizing out with
 | nil=>simp
 | cons s r ih=>have h1:=ih (R9 out s);have h2:=D94 out s;simp only [L32,L04];omega
theorem F37 (fs:List (List Str)):(I9 fs).length≤fs.flatten.length:=by have:=D06 fs.flatten [];simpa [I9] using this
end Go.AL
namespace Go.AL
open Go
structure File where
 Path:Str
 Blob:Str
 deriving DecidableEq
structure Delta where
 Path:Str
 Kind:Int
 deriving DecidableEq
structure Commit where
 Parents:List Int
 Date:Int
 Files:List File
 deriving DecidableEq
def d8:File→Nat→Cell:=fun f j=>match j with
 | 0=>.v (.string ⟨f.Path.toArray⟩)
 | _=>.v (.string ⟨f.Blob.toArray⟩)
def B60:Delta→Nat→Cell:=fun d j=>match j with
 | 0=>.v (.string ⟨d.Path.toArray⟩)
 | _=>.v (.int .i64 d.Kind)
def H2:Commit→Nat→Cell:=fun c j=>match j with
 | 0=>.list Int 1 F2 c.Parents
 | 1=>.v (.int .i64 c.Date)
 | _=>.list File 2 d8 c.Files
abbrev B61:List File→Nat→Cell:=fun l _=>.list File 2 d8 l
abbrev c5:List Delta→Nat→Cell:=fun l _=>.list Delta 2 B60 l
abbrev J46 (f:File):PV:=.agg [.v (.string ⟨f.Path.toArray⟩),.v (.string ⟨f.Blob.toArray⟩)]
abbrev pDelta (d:Delta):PV:=.agg [.v (.string ⟨d.Path.toArray⟩),.v (.int .i64 d.Kind)]
abbrev D47 (c:Commit):PV:=.agg [.list Int 1 F2 c.Parents,.v (.int .i64 c.Date),.list File 2 d8 c.Files]
abbrev u0 (l:List File):PV:=.one (.list File 2 d8 l)
abbrev H08 (l:List Delta):PV:=.one (.list Delta 2 B60 l)
abbrev K3 (l:List Commit):PV:=.one (.list Commit 3 H2 l)
abbrev H09 (l:List (List File)):PV:=.one (.list (List File) 1 B61 l)
theorem C79 (a b:Bool):(if a=true then b else false)=(a&&b):=by cases a<;>rfl
theorem F38 (a b:Bool):(if a=true then true else b)=(a||b):=by cases a<;>rfl
abbrev ltS (a b:Str):Bool:=Op.bytesLess a b
theorem J47 (a:Str):ltS a []=false:=by cases a<;>rfl
theorem B35 (a b:UInt8) (x y:Str):ltS (a::x) (b::y)=(decide (a < b)||(a == b&&ltS x y)):=rfl
theorem d9:∀a:Str,ltS a a=false
 | []=>rfl
 | c::r=>by
  rw [B35,d9 r]
  have:¬c < c:=by rw [UInt8.lt_iff_toNat_lt];omega
  simp [this]
theorem y6:∀{a b c:Str},ltS a b=true→ltS b c=true→ltS a c=true
 | _,[],_,h,_=>by rw [J47] at h;cases h
 | _,_::_,[],_,h=>by rw [J47] at h;cases h
 | [],_::_,_::_,_,_=>rfl
 | a::x,b::y,c::z,h1,h2=>by
  rw [B35,L20,L02,decide_eq_true_eq,UInt8.lt_iff_toNat_lt,beq_iff_eq] at h1 h2
  rw [B35,L20,L02,decide_eq_true_eq,UInt8.lt_iff_toNat_lt,beq_iff_eq]
  rcases h1 with h1 | ⟨rfl,h1⟩
  ·rcases h2 with h2 | ⟨rfl,h2⟩
   ·left;omega
   ·left;omega
  ·rcases h2 with h2 | ⟨rfl,h2⟩
   ·left;omega
   ·right;exact ⟨rfl,y6 h1 h2⟩
theorem C43:∀{a b:Str},ltS a b=false→ltS b a=false→a=b
 | [],[],_,_=>rfl
 | [],_::_,h,_=>by cases h
 | _::_,[],_,h=>by cases h
 | a::x,b::y,h1,h2=>by
  rw [B35,L34,decide_eq_false_iff_not,UInt8.lt_iff_toNat_lt] at h1 h2
  have e:a=b:=UInt8.toNat_inj.1 (by omega)
  subst e
  simp only [beq_self_eq_true,Bool.true_and] at h1 h2
  rw [C43 h1.2 h2.2]
theorem K03 {a b:Str} (h:ltS a b=true):ltS b a=false:=by
 cases h2:ltS b a
 ·rfl
 ·have:=y6 h h2;rw [d9] at this;cases this
theorem J48:∀(a:Str) (c:UInt8) (t:Str),ltS a (a++c::t)=true
 | [],_,_=>rfl
 | x::r,c,t=>by rw [L25,B35,J48 r c t];simp
def Q8 (s:Str):Bool:=decide (s≠[]∧s≠[46]∧s≠[46,46])
def L2 (cur:Str):Str→List Str
 | []=>[cur]
 | c::r=>if c=47 then cur::L2 [] r else L2 (cur++[c]) r
def B16 (cur:Str):Str→Bool
 | []=>Q8 cur
 | c::r=>if c=0 then false else if c=47 then Q8 cur&&B16 [] r else B16 (cur++[c]) r
def N3 (p:Str):Int:=if p.length < 1∨p.length > 200∨B16 [] p=false then 210 else 0
theorem D07:∀(s cur:Str),B16 cur s=(!s.contains 0&&(L2 cur s).all Q8)
 | [],cur=>by simp [B16,L2]
 | c::r,cur=>by
  rw [B16,L2]
  by_cases h0:c=0
  ·subst h0;simp
  ·rw [if_neg h0]
   have hc:(c::r).contains 0=r.contains 0:=by
    rw [List.contains_cons]
    have:((0:UInt8) == c)=false:=by simpa using fun e=>h0 e.symm
    rw [this,Bool.false_or]
   rw [hc]
   split
   ·rw [D07 r [],List.all_cons]
    cases Q8 cur<;>cases r.contains 0<;>rfl
   ·rw [D07 r]
theorem H10 (p:Str):N3 p=if p.length > 200∨p.contains 0=true then 210 else if (L2 [] p).all Q8=true then 0 else 210:=by
 unfold N3
 rw [D07]
 by_cases h1:p.length > 200
 ·rw [if_pos (.inr (.inl h1)),if_pos (.inl h1)]
 ·cases h2:p.contains 0
  ·rw [if_neg (show ¬(p.length > 200∨false=true) by simp [h1])]
   cases h3:(L2 [] p).all Q8
   ·simp
   ·have:¬p.length < 1:=by
     intro h
     have:p=[]:=List.length_eq_zero_iff.1 (by omega)
     subst this
     simp [L2,Q8] at h3
    rw [if_neg (fun h=>by
     rcases h with h | h | h
     ·exact this h
     ·exact h1 h
     ·cases h)];rfl
  ·rw [if_pos (show p.length > 200∨true=true from .inr rfl),if_pos (.inr (.inr (by simp)))]
def above (a b:Str):Bool:=decide (b.length > a.length∧b.take a.length=a∧b[a.length]?=some 47)
theorem K62 {a b:Str} (h:above a b=true):ltS a b=true:=by
 obtain ⟨h1,h2,h3⟩:=A1 h
 have e:b=a++47::b.drop (a.length+1):=by
  conv=>lhs;rw [←L48 a.length b,h2]
  rw [L11 h1]
  rw [L01 h1] at h3
  rw [Option.some.inj h3]
 rw [e];exact J48 _ _ _
def N9:List File→Bool
 | []=>true
 | f::r=>r.all (fun x=>ltS f.Path x.Path&&!above f.Path x.Path)&&N9 r
def F1 (l:List File):Int:=if l.length > 200 then 1 else if l.any (fun f=>decide (N3 f.Path≠0))=true then 210 else if N9 l=false then 211 else if l.any (fun f=>decide (M8 f.Blob≠0))=true then 1 else 0
def T0 (p:Str) (ps:List Str):Bool:=(List.range p.length).any fun i=>decide (p.take i∈ps)&&decide (p[i]?=some 47)
def ascend:List File→Bool
 | []=>true
 | [_]=>true
 | f::g::r=>ltS f.Path g.Path&&ascend (g::r)
def A18 (l:List File):Bool:=ascend l&&l.all fun f=>!T0 f.Path (l.map (·.Path))
theorem F39 (p:Str) (ps:List Str):T0 p ps=true↔∃a∈ps,above a p=true:=by
 unfold T0
 rw [List.any_eq_true]
 constructor
 ·rintro ⟨i,hi,h⟩
  rw [L02,decide_eq_true_eq,decide_eq_true_eq] at h
  have hlt:i < p.length:=List.mem_range.1 hi
  have hl:(p.take i).length=i:=by rw [L10];omega
  exact ⟨_,h.1,decide_eq_true ⟨by rw [hl];exact hlt,by rw [hl],by rw [hl];exact h.2⟩⟩
 ·rintro ⟨a,ha,h⟩
  obtain ⟨h1,h2,h3⟩:=A1 h
  exact ⟨a.length,List.mem_range.2 h1,by rw [L02,decide_eq_true_eq,decide_eq_true_eq,h2];exact ⟨ha,h3⟩⟩
theorem p7:∀{f:File} {r:List File},ascend (f::r)=true→∀x∈r,ltS f.Path x.Path=true
 | _,[],_,_,hx=>by cases hx
 | f,g::r,h,x,hx=>by
  unfold ascend at h
  rw [L02] at h
  rcases List.mem_cons.1 hx with rfl | hx
  ·exact h.1
  ·exact y6 h.1 (p7 h.2 x hx)
theorem A92 {f:File} {r:List File} (h:ascend (f::r)=true):ascend r=true:=by
 cases r with
 | nil=>rfl
 | cons g r=>unfold ascend at h;rw [L02] at h;exact h.2
theorem u5:∀{l:List File},N9 l=true→ascend l=true
 | [],_=>rfl
 | [_],_=>rfl
 | f::g::r,h=>by
  unfold N9 at h
  rw [L02,List.all_eq_true] at h
  have h1:=h.1 g (by simp)
  rw [L02] at h1
  unfold ascend
  rw [h1.1,u5 h.2];rfl
theorem C80:∀{l:List File},N9 l=true→∀x∈l,∀y∈l,above x.Path y.Path=false
 | [],_,x,hx,_,_=>by cases hx
 | f::r,h,x,hx,y,hy=>by
  have ha:=u5 h
  unfold N9 at h
  rw [L02,List.all_eq_true] at h
  cases hab:above x.Path y.Path
  ·rfl
  have hlt:=K62 hab
  rcases List.mem_cons.1 hx with rfl | hx0
  ·rcases List.mem_cons.1 hy with rfl | hy
   ·rw [d9] at hlt;cases hlt
   ·have:=h.1 y hy;rw [hab,Bool.not_true,Bool.and_false] at this;cases this
  ·have hx2:=hx0
   rcases List.mem_cons.1 hy with hyf | hy2
   ·have:=p7 ha x hx2;rw [←hyf,K03 hlt] at this;cases this
   ·rw [C80 h.2 x hx2 y hy2] at hab;cases hab
theorem D08:∀{l:List File},ascend l=true→(∀x∈l,∀y∈l,above x.Path y.Path=false)→N9 l=true
 | [],_,_=>rfl
 | f::r,h,ha=>by
  unfold N9
  rw [L02,List.all_eq_true]
  refine ⟨fun x hx=>?_,D08 (A92 h) fun x hx y hy=>ha x (by simp [hx]) y (by simp [hy])⟩
  rw [p7 h x hx,ha f (by simp) x (by simp [hx])];rfl
theorem J00 (l:List File):A18 l=N9 l:=by
 cases h:N9 l
 ·cases hp:A18 l
  ·rfl
  unfold A18 at hp
  rw [L02,List.all_eq_true] at hp
  have:N9 l=true:=D08 hp.1 fun x hx y hy=>by
   cases hab:above x.Path y.Path
   ·rfl
   have h1:=hp.2 y hy
   rw [(F39 _ _).2 ⟨x.Path,List.mem_map_of_mem hx,hab⟩] at h1;cases h1
  rw [this] at h;cases h
 ·unfold A18
  rw [L02,List.all_eq_true]
  refine ⟨u5 h,fun y hy=>?_⟩
  cases hn:T0 y.Path (l.map (·.Path))
  ·rfl
  obtain ⟨a,ha,hab⟩:=(F39 _ _).1 hn
  obtain ⟨x,hx,rfl⟩:=List.mem_map.1 ha
  rw [C80 h x hx y hy] at hab;cases hab
def L7:List File→Str→Option Str
 | [],_=>none
 | f::r,p=>if f.Path=p then some f.Blob else L7 r p
def A07 (a:Str) (k:List Str→List Str):List Str→List Str
 | []=>a::k []
 | b::bs=>if ltS a b=true then a::k (b::bs) else if ltS b a=true then b::A07 a k bs else a::k bs
def A57:List Str→List Str→List Str
 | [],bs=>bs
 | a::as,bs=>A07 a (A57 as) bs
def B62 (a b:List File) (p:Str):Option Delta:=match L7 a p,L7 b p with
 | none,_=>some ⟨p,1⟩
 | some _,none=>some ⟨p,2⟩
 | some x,some y=>if x≠y then some ⟨p,3⟩ else none
def Z6 (a b:List File):List Delta:=(A57 (a.map (·.Path)) (b.map (·.Path))).filterMap (B62 a b)
def B17 (b:List File) (f:File):Option Delta:=match L7 b f.Path with
 | none=>some ⟨f.Path,2⟩
 | some y=>if y≠f.Blob then some ⟨f.Path,3⟩ else none
def C59 (a:List File) (f:File):Option Delta:=match L7 a f.Path with
 | none=>some ⟨f.Path,1⟩
 | some _=>none
def A08 (a b:List File):List Delta:=a.filterMap (B17 b)++b.filterMap (C59 a)
def C60 (x:Delta):List Delta→List Delta
 | []=>[x]
 | y::r=>if ltS x.Path y.Path=true then y::C60 x r else x::y::r
def w9:List Delta→List Delta→List Delta
 | acc,[]=>acc
 | acc,x::r=>w9 (C60 x acc) r
def C81 (l:List Delta):List Delta:=(w9 [] l).reverse
def diffOf (a b:List File):List Delta:=C81 (A08 a b)
theorem D48 (x:Delta):∀(l:List Delta) (y:Delta),y∈C60 x l↔y=x∨y∈l
 | [],y=>by simp [C60]
 | z::r,y=>by
  unfold C60
  split
  ·rw [L23,D48 x r,L23]
   constructor
   ·rintro (h | h | h)
    ·exact .inr (.inl h)
    ·exact .inl h
    ·exact .inr (.inr h)
   ·rintro (h | h | h)
    ·exact .inr (.inl h)
    ·exact .inl h
    ·exact .inr (.inr h)
  ·rw [L23]
theorem E32 (x:Delta):∀l:List Delta,(C60 x l).length=l.length+1
 | []=>rfl
 | y::r=>by
  unfold C60
  split
  ·rw [L04,E32 x r,L04]
  ·rfl
theorem G38:∀(l acc:List Delta) (y:Delta),y∈w9 acc l↔y∈acc∨y∈l
 | [],acc,y=>by simp [w9]
 | x::r,acc,y=>by
  unfold w9
  rw [G38 r,D48,L23]
  constructor
  ·rintro ((h | h) | h)
   ·exact .inr (.inl h)
   ·exact .inl h
   ·exact .inr (.inr h)
  ·rintro (h | h | h)
   ·exact .inl (.inr h)
   ·exact .inl (.inl h)
   ·exact .inr h
abbrev I02 (l:List Delta):Prop:=l.Pairwise fun x y=>ltS y.Path x.Path=true
abbrev AscD (l:List Delta):Prop:=l.Pairwise fun x y=>ltS x.Path y.Path=true
theorem G39 {x:Delta}:∀{l:List Delta},I02 l→(∀y∈l,y.Path≠x.Path)→I02 (C60 x l)
 | [],_,_=>by simp [C60,I02]
 | y::r,h,hn=>by
  unfold C60
  have h1:=List.pairwise_cons.1 h
  split
  ·rename_i hlt
   refine List.pairwise_cons.2 ⟨fun z hz=>?_,G39 h1.2 fun z hz=>hn z (by simp [hz])⟩
   rcases (D48 x r z).1 hz with rfl | hz
   ·exact hlt
   ·exact h1.1 z hz
  ·rename_i hlt
   have hyx:ltS y.Path x.Path=true:=by
    cases hc:ltS y.Path x.Path
    ·exact absurd (C43 (by simpa using hlt) hc) fun e=>hn y (by simp) e.symm
    ·rfl
   refine List.pairwise_cons.2 ⟨fun z hz=>?_,h⟩
   rcases List.mem_cons.1 hz with rfl | hz
   ·exact hyx
   ·exact y6 (h1.1 z hz) hyx
theorem F40:∀(l acc:List Delta),I02 acc→(l.map (·.Path)).Nodup→(∀x∈l,∀y∈acc,y.Path≠x.Path)→I02 (w9 acc l)
 | [],acc,h,_,_=>h
 | x::r,acc,h,hn,hd=>by
  unfold w9
  rw [L16,List.nodup_cons] at hn
  refine F40 r _ (G39 h (hd x (by simp))) hn.2 fun z hz y hy=>?_
  rcases (D48 x acc y).1 hy with rfl | hy
  ·intro e;exact hn.1 (by rw [e];exact List.mem_map_of_mem hz)
  ·exact hd z (by simp [hz]) y hy
theorem K04 {l:List Delta} (h:(l.map (·.Path)).Nodup):AscD (C81 l):=by
 unfold C81 AscD
 rw [List.pairwise_reverse]
 exact F40 l [] List.Pairwise.nil h fun _ _ _ hy=>by cases hy
theorem K05 (l:List Delta) (y:Delta):y∈C81 l↔y∈l:=by
 unfold C81;rw [List.mem_reverse,G38];simp
theorem J49:∀{l m:List Delta},AscD l→AscD m→(∀y,y∈l↔y∈m)→l=m
 | [],[],_,_,_=>rfl
 | [],y::_,_,_,h=>by have:=(h y).2 (by simp);cases this
 | y::_,[],_,_,h=>by have:=(h y).1 (by simp);cases this
 | x::l,y::m,h1,h2,h=>by
  have a1:=List.pairwise_cons.1 h1
  have a2:=List.pairwise_cons.1 h2
  have e:x=y:=by
   rcases List.mem_cons.1 ((h x).1 (by simp)) with e | hx
   ·exact e
   rcases List.mem_cons.1 ((h y).2 (by simp)) with e | hy
   ·exact e.symm
   have:=y6 (a1.1 y hy) (a2.1 x hx)
   rw [d9] at this;cases this
  subst e
  refine congrArg (x::·) (J49 a1.2 a2.2 fun z=>⟨fun hz=>?_,fun hz=>?_⟩)
  ·rcases List.mem_cons.1 ((h z).1 (by simp [hz])) with rfl | h3
   ·have:=a1.1 z hz;rw [d9] at this;cases this
   ·exact h3
  ·rcases List.mem_cons.1 ((h z).2 (by simp [hz])) with rfl | h3
   ·have:=a2.1 z hz;rw [d9] at this;cases this
   ·exact h3
abbrev F41 (l:List Str):Prop:=l.Pairwise fun x y=>ltS x y=true
theorem C19 {a:Str} {k:List Str→List Str} {as:List Str} (hk:∀bs p,p∈k bs↔p∈as∨p∈bs):∀(bs:List Str) (p:Str),p∈A07 a k bs↔p=a∨p∈as∨p∈bs
 | [],p=>by rw [A07,L23,hk]
 | b :: bs,p=>by
  rw [A07]
  split
  ·rw [L23,hk]
  ·split
   ·rw [L23,C19 hk bs p,L23]
    constructor
    ·rintro (h | h | h | h)
     ·exact .inr (.inr (.inl h))
     ·exact .inl h
     ·exact .inr (.inl h)
     ·exact .inr (.inr (.inr h))
    ·rintro (h | h | h | h)
     ·exact .inr (.inl h)
     ·exact .inr (.inr (.inl h))
     ·exact .inl h
     ·exact .inr (.inr (.inr h))
   ·rename_i h1 h2
    have e:a=b:=C43 (by simpa using h1) (by simpa using h2)
    subst e
    rw [L23,hk,L23]
    constructor
    ·rintro (h | h | h)
     ·exact .inl h
     ·exact .inr (.inl h)
     ·exact .inr (.inr (.inr h))
    ·rintro (h | h | h | h)
     ·exact .inl h
     ·exact .inr (.inl h)
     ·exact .inl h
     ·exact .inr (.inr h)
theorem A58:∀(as bs:List Str) (p:Str),p∈A57 as bs↔p∈as∨p∈bs
 | [],bs,p=>by simp [A57]
 | a::as,bs,p=>by
  rw [A57,C19 (fun bs p=>A58 as bs p) bs p,L23]
  constructor
  ·rintro (h | h | h)
   ·exact .inl (.inl h)
   ·exact .inl (.inr h)
   ·exact .inr h
  ·rintro ((h | h) | h)
   ·exact .inl h
   ·exact .inr (.inl h)
   ·exact .inr (.inr h)
theorem E33 {a:Str} {k:List Str→List Str} {as:List Str} (hk:∀bs p,p∈k bs↔p∈as∨p∈bs) (hka:∀bs,F41 bs→F41 (k bs)) (ha:∀x∈as,ltS a x=true):∀bs:List Str,F41 bs→F41 (A07 a k bs)
 | [],h=>by
  rw [A07]
  refine List.pairwise_cons.2 ⟨fun x hx=>?_,hka [] h⟩
  rcases (hk [] x).1 hx with hx | hx
  ·exact ha x hx
  ·cases hx
 | b::bs,h=>by
  have hb:=List.pairwise_cons.1 h
  rw [A07]
  split
  ·rename_i hlt
   refine List.pairwise_cons.2 ⟨fun x hx=>?_,hka _ h⟩
   rcases (hk _ x).1 hx with hx | hx
   ·exact ha x hx
   ·rcases List.mem_cons.1 hx with rfl | hx
    ·exact hlt
    ·exact y6 hlt (hb.1 x hx)
  ·split
   ·rename_i _ hlt
    refine List.pairwise_cons.2 ⟨fun x hx=>?_,E33 hk hka ha bs hb.2⟩
    rcases (C19 hk bs x).1 hx with rfl | hx | hx
    ·exact hlt
    ·exact y6 hlt (ha x hx)
    ·exact hb.1 x hx
   ·rename_i h1 h2
    have e:a=b:=C43 (by simpa using h1) (by simpa using h2)
    subst e
    refine List.pairwise_cons.2 ⟨fun x hx=>?_,hka _ hb.2⟩
    rcases (hk _ x).1 hx with hx | hx
    ·exact ha x hx
    ·exact hb.1 x hx
theorem F42:∀(as bs:List Str),F41 as→F41 bs→F41 (A57 as bs)
 | [],_,_,h=>h
 | _::as,bs,h1,h2=>by
  have ha:=List.pairwise_cons.1 h1
  exact E33 (fun bs p=>A58 as bs p) (fun bs hb=>F42 as bs ha.2 hb) ha.1 bs h2
theorem A59:∀{l:List File} {p x:Str},L7 l p=some x→∃f∈l,f.Path=p∧f.Blob=x
 | [],_,_,h=>by cases h
 | f::r,p,x,h=>by
  unfold L7 at h
  split at h
  ·rename_i e;exact ⟨f,by simp,e,Option.some.inj h⟩
  ·obtain ⟨g,hg,h2⟩:=A59 h;exact ⟨g,by simp [hg],h2⟩
theorem findF_none {p:Str}:∀{l:List File},L7 l p=none↔p∉l.map (·.Path)
 | []=>by simp [L7]
 | f::r=>by
  unfold L7
  split
  ·rename_i e;simp [e]
  ·rename_i e
   rw [findF_none (l:=r),L16,L23,not_or]
   exact ⟨fun h=>⟨fun e2=>e e2.symm,h⟩,fun h=>h.2⟩
theorem u6:∀{l:List File},ascend l=true→F41 (l.map (·.Path))
 | [],_=>List.Pairwise.nil
 | f::r,h=>by
  rw [L16]
  refine List.pairwise_cons.2 ⟨fun x hx=>?_,u6 (A92 h)⟩
  obtain ⟨g,hg,rfl⟩:=List.mem_map.1 hx
  exact p7 h g hg
theorem F43 {l:List Str} (h:F41 l):l.Nodup:=h.imp fun {a b} hab e=>by rw [e,d9] at hab;cases hab
theorem A19:∀{l:List File},ascend l=true→∀f∈l,L7 l f.Path=some f.Blob
 | [],_,f,hf=>by cases hf
 | g::r,h,f,hf=>by
  unfold L7
  rcases List.mem_cons.1 hf with rfl | hf
  ·rw [if_pos rfl]
  ·have:=p7 h f hf
   rw [if_neg (fun e=>by rw [e,d9] at this;cases this)]
   exact A19 (A92 h) f hf
theorem H11 {a b:List File} {p:Str} {d:Delta} (h:B62 a b p=some d):d.Path=p:=by
 unfold B62 at h
 split at h
 ·cases h;rfl
 ·cases h;rfl
 ·split at h
  ·cases h;rfl
  ·cases h
theorem C82 {f:Str→Option Delta} (hf:∀p d,f p=some d→d.Path=p):∀{l:List Str},F41 l→AscD (l.filterMap f)
 | [],_=>List.Pairwise.nil
 | p::r,h=>by
  have h1:=List.pairwise_cons.1 h
  have ih:=C82 hf h1.2
  rw [List.filterMap_cons]
  cases hp:f p with
  | none=>exact ih
  | some d =>
   refine List.pairwise_cons.2 ⟨fun y hy=>?_,ih⟩
   obtain ⟨q,hq,hqy⟩:=List.mem_filterMap.1 hy
   rw [hf p d hp,hf q y hqy]
   exact h1.1 q hq
theorem G40 {b:List File} {f:File} {d:Delta} (h:B17 b f=some d):d.Path=f.Path:=by
 unfold B17 at h
 split at h
 ·cases h;rfl
 ·split at h
  ·cases h;rfl
  ·cases h
theorem G41 {a:List File} {f:File} {d:Delta} (h:C59 a f=some d):d.Path=f.Path∧f.Path∉a.map (·.Path):=by
 unfold C59 at h
 split at h
 ·rename_i h2;cases h;exact ⟨rfl,findF_none.1 h2⟩
 ·cases h
theorem K06 {a b:List File} (ha:ascend a=true) (hb:ascend b=true):((A08 a b).map (·.Path)).Nodup:=by
 have sub:∀(f:File→Option Delta),(∀x d,f x=some d→d.Path=x.Path)→∀l:List File,((l.filterMap f).map (·.Path)).Sublist (l.map (·.Path)):=by
  intro f hf l
  induction l with
  | nil=>exact List.Sublist.slnil
  | cons x r ih =>
   rw [List.filterMap_cons]
   cases hx:f x with
   | none=>exact ih.cons _
   | some d=>rw [L16,L16,hf x d hx];exact ih.cons_cons _
 unfold A08
 rw [L40,List.nodup_append]
 refine ⟨(F43 (u6 ha)).sublist (sub _ (fun _ _ h=>G40 h) a),(F43 (u6 hb)).sublist (sub _ (fun _ _ h=>(G41 h).1) b),?_⟩
 intro x hx y hy e
 subst e
 obtain ⟨d,hd,e1⟩:=List.mem_map.1 hy
 obtain ⟨f,hf,h1⟩:=List.mem_filterMap.1 hd
 have h2:=G41 h1
 have h3:=(sub _ (fun _ _ h=>G40 h) a).subset hx
 rw [←e1,h2.1] at h3
 exact h2.2 h3
theorem raw_mem {a b:List File} (ha:ascend a=true) (_hb:ascend b=true) (y:Delta):y∈A08 a b↔y∈Z6 a b:=by
 unfold A08 Z6
 rw [L30,List.mem_filterMap,List.mem_filterMap,List.mem_filterMap]
 constructor
 ·rintro (⟨f,hf,h⟩ | ⟨f,hf,h⟩)
  ·refine ⟨f.Path,(A58 _ _ _).2 (.inl (List.mem_map_of_mem hf)),?_⟩
   unfold B17 at h
   unfold B62
   rw [A19 ha f hf]
   split at h
   ·rename_i h2;rw [h2];exact h
   ·rename_i z h2
    rw [h2]
    dsimp only
    split at h
    ·rename_i h3;rw [if_pos (fun e=>h3 e.symm)];exact h
    ·cases h
  ·refine ⟨f.Path,(A58 _ _ _).2 (.inr (List.mem_map_of_mem hf)),?_⟩
   unfold C59 at h
   unfold B62
   split at h
   ·rename_i h2;rw [h2];exact h
   ·cases h
 ·rintro ⟨p,hp,h⟩
  unfold B62 at h
  split at h
  ·rename_i h2
   rcases (A58 _ _ _).1 hp with hp | hp
   ·exact absurd hp (findF_none.1 h2)
   ·obtain ⟨f,hf,rfl⟩:=List.mem_map.1 hp
    exact .inr ⟨f,hf,by unfold C59;rw [h2];exact h⟩
  ·rename_i x h2 h3
   obtain ⟨f,hf,rfl,rfl⟩:=A59 h2
   exact .inl ⟨f,hf,by unfold B17;rw [h3];exact h⟩
  ·rename_i x z h2 h3
   obtain ⟨f,hf,rfl,rfl⟩:=A59 h2
   refine .inl ⟨f,hf,?_⟩
   unfold B17;rw [h3]
   dsimp only
   split at h
   ·rename_i h4;rw [if_pos (fun e=>h4 e.symm)];exact h
   ·cases h
theorem K07 {a b:List File} (ha:ascend a=true) (hb:ascend b=true):diffOf a b=Z6 a b :=
 J49 (K04 (K06 ha hb)) (C82 (fun _ _ h=>H11 h) (F42 _ _ (u6 ha) (u6 hb))) fun y=>(K05 _ y).trans (raw_mem ha hb y)
theorem J01 (a b:List File):(A08 a b).length≤a.length+b.length:=by
 unfold A08;rw [L06]
 have h1:=List.length_filterMap_le (B17 b) a
 have h2:=List.length_filterMap_le (C59 a) b
 omega
theorem A09 {l:List File} (h:F1 l=0):ascend l=true∧l.length≤200∧(∀f∈l,M8 f.Blob=0)∧∀f∈l,N3 f.Path=0:=by
 unfold F1 at h
 split at h
 ·cases h
 ·rename_i h1
  split at h
  ·cases h
  ·rename_i h2
   split at h
   ·cases h
   ·rename_i h3
    split at h
    ·cases h
    ·rename_i h4
     refine ⟨u5 (by simpa using h3),by omega,fun f hf=>?_,fun f hf=>?_⟩
     ·have:=fun e=>h4 (List.any_eq_true.2 ⟨f,hf,e⟩)
      simpa using this
     ·have:=fun e=>h2 (List.any_eq_true.2 ⟨f,hf,e⟩)
      simpa using this
end Go.AL
namespace Go.AL
open Go
theorem C44 {α:Type} [DecidableEq α]:∀{l m:List α},l.Nodup→(∀x∈l,x∈m)→l.length≤m.length
 | [],_,_,_=>Nat.zero_le _
 | x::l,m,h,hs=>by
  have h1:=List.nodup_cons.1 h
  have h2:l.length≤(m.erase x).length:=C44 h1.2 fun y hy=>by
   have hne:y≠x:=fun e=>h1.1 (e ▸ hy)
   exact (List.mem_erase_of_ne hne).2 (hs y (by simp [hy]))
  have h3:=List.length_erase_of_mem (hs x (by simp))
  have h4:0 < m.length:=List.length_pos_of_mem (hs x (by simp))
  rw [L04];omega
theorem u7 {l:List Int} {n:Nat} (h:l.Nodup) (hr:∀x∈l,0≤x∧x < n):l.length≤n:=by
 have:=C44 (m:=(List.range n).map fun i:Nat=>(i:Int)) h fun x hx=>by
  have:=hr x hx
  exact List.mem_map.2 ⟨x.toNat,List.mem_range.2 (by omega),by omega⟩
 simpa using this
theorem K63 {l:List Int} {n:Nat} (h:l.Nodup) (hr:∀x∈l,0≤x∧x < n) (hl:n≤l.length) (c:Nat) (hc:c < n):(c:Int)∈l:=by
 apply Classical.byContradiction
 intro hn
 have:=u7 (l:=(c:Int)::l) (n:=n) (List.nodup_cons.2 ⟨hn,h⟩) fun x hx=>by
  rcases List.mem_cons.1 hx with rfl | hx
  ·exact ⟨by omega,by omega⟩
  ·exact hr x hx
 rw [L04] at this;omega
theorem D09 {q r:Nat→Bool} (x:Nat) (hr:∀y,r y=(q y&&decide (y≠x))):∀{L:List Nat},L.Nodup→L.countP q=L.countP r+(if x∈L∧q x=true then 1 else 0)
 | [],_=>by simp
 | y :: L,h=>by
  have h1:=List.nodup_cons.1 h
  have ih:=D09 x hr h1.2
  rw [List.countP_cons,List.countP_cons,ih,hr y]
  by_cases e:y=x
  ·subst e
   have:¬(y∈L∧q y=true):=fun e=>h1.1 e.1
   rw [if_neg this]
   cases hq:q y<;>simp
  ·have e2:(x∈y::L∧q x=true)↔(x∈L∧q x=true):=by
    rw [L23]
    constructor
    ·rintro ⟨h3 | h3,h4⟩
     ·exact absurd h3.symm e
     ·exact ⟨h3,h4⟩
    ·exact fun ⟨h3,h4⟩=>⟨.inr h3,h4⟩
   rw [show (if x∈y::L∧q x=true then 1 else 0)=(if x∈L∧q x=true then 1 else 0) by simp only [e2]]
   simp only [e,ne_eq,not_false_eq_true,decide_true,Bool.and_true]
   omega
abbrev Graph:=List Commit
def F3 (g:Graph) (c:Nat):List Int:=(g[c]?.map (·.Parents)).getD []
def A35 (n:Int) (seen:List Int):List Int→Bool
 | []=>true
 | p::r=>decide (0≤p∧p < n∧p∉seen)&&A35 n (seen++[p]) r
def related (g:Graph):Bool:=g.all fun c=>A35 g.length [] c.Parents
theorem I03 {n:Int}:∀{ps seen:List Int},A35 n seen ps=true→(∀p∈ps,0≤p∧p < n∧p∉seen)∧ps.Nodup
 | [],_,_=>⟨(fun _ h=>by cases h),List.nodup_nil⟩
 | p::r,seen,h=>by
  unfold A35 at h
  rw [L02,decide_eq_true_eq] at h
  obtain ⟨h1,h2⟩:=I03 h.2
  refine ⟨fun q hq=>?_,List.nodup_cons.2 ⟨fun hp=>(h1 p hp).2.2 (by simp),h2⟩⟩
  rcases List.mem_cons.1 hq with rfl | hq
  ·exact h.1
  ·have:=h1 q hq;exact ⟨this.1,this.2.1,fun hs=>this.2.2 (by simp [hs])⟩
theorem g9 {g:Graph} {c:Nat} (hc:c < g.length):F3 g c=g[c].Parents:=by unfold F3;rw [L01 hc];rfl
theorem B36 {g:Graph} {c:Nat} (hc:¬c < g.length):F3 g c=[]:=by unfold F3;rw [L18 (by omega)];rfl
theorem K8 {g:Graph} (h:related g=true) (c:Nat):(∀p∈F3 g c,0≤p∧p < g.length)∧(F3 g c).Nodup:=by
 by_cases hc:c < g.length
 ·rw [g9 hc]
  have:=I03 (List.all_eq_true.1 h g[c] (L05 hc))
  exact ⟨fun p hp=>⟨(this.1 p hp).1,(this.1 p hp).2.1⟩,this.2⟩
 ·rw [B36 hc];exact ⟨(fun _ h=>by cases h),List.nodup_nil⟩
inductive Reaches (g:Graph):Nat→Nat→Prop
 | one {c p:Nat} (h:(p:Int)∈F3 g c):Reaches g c p
 | more {c d p:Nat} (h:Reaches g c d) (h2:(p:Int)∈F3 g d):Reaches g c p
theorem Reaches.trans {g:Graph} {a b c:Nat} (h:Reaches g a b) (h2:Reaches g b c):Reaches g a c:=by
 induction h2 with
 | one h2=>exact .more h h2
 | more _ h3 ih=>exact .more ih h3
theorem Reaches.lt {g:Graph} (hr:related g=true) {a b:Nat} (h:Reaches g a b):a < g.length∧b < g.length:=by
 have key:∀{c p:Nat},(p:Int)∈F3 g c→c < g.length∧p < g.length:=fun {c p} h=>by
  refine ⟨?_,by have:=(K8 hr c).1 p h;omega⟩
  apply Classical.byContradiction
  intro hc;rw [B36 hc] at h;cases h
 induction h with
 | one h=>exact key h
 | more _ h2 ih=>exact ⟨ih.1,(key h2).2⟩
def W9 (ps:List Int) (l:List Bool):List Bool:=ps.foldl (fun l p=>l.set p.toNat true) l
def K2 (l:List Bool) (c:Nat):Bool:=l[c]?.getD false
def l3 (g:Graph) (l:List Bool) (c:Nat):List Bool:=if K2 l c=true then W9 (F3 g c) l else l
def C20 (g:Graph) (l:List Bool):List Bool:=(List.range g.length).foldl (l3 g) l
def Y4 (g:Graph):Nat→List Bool→List Bool
 | 0,l=>l
 | k+1,l=>Y4 g k (C20 g l)
def P6 (g:Graph) (starts:List Int):List Bool:=Y4 g g.length (W9 starts (List.replicate g.length false))
theorem K64 {l:List Bool} {i c:Nat}:K2 (l.set i true) c=(K2 l c||decide (i=c∧c < l.length)):=by
 unfold K2
 rw [List.getElem?_set]
 split
 ·rename_i e;subst e
  split
  ·rename_i h;simp [h]
  ·rename_i h;simp [h,L18 (Nat.le_of_not_lt h)]
 ·rename_i h;simp [h]
theorem X0:∀(ps:List Int) (l:List Bool),(W9 ps l).length=l.length
 | [],_=>rfl
 | p::r,l=>by show (W9 r (l.set p.toNat true)).length=_;rw [X0 r];simp
theorem p8:∀(ps:List Int) (l:List Bool) (c:Nat),K2 (W9 ps l) c=(K2 l c||(decide (c < l.length)&&ps.any fun p=>decide (p.toNat=c)))
 | [],l,c=>by simp [W9]
 | p::r,l,c=>by
  show K2 (W9 r (l.set p.toNat true)) c=_
  rw [p8 r,K64,L26,List.any_cons]
  by_cases h1:p.toNat=c<;>by_cases h2:c < l.length<;>simp [h1,h2]
theorem K08 (g:Graph) (l:List Bool) (c:Nat):(l3 g l c).length=l.length:=by unfold l3;split<;>simp [X0]
theorem D95 (g:Graph):∀(cs:List Nat) (l:List Bool),(cs.foldl (l3 g) l).length=l.length
 | [],_=>rfl
 | c::r,l=>by rw [L32,D95 g r,K08]
theorem F44 (g:Graph) (l:List Bool):(C20 g l).length=l.length:=D95 g _ l
theorem C45 (g:Graph):∀(k:Nat) (l:List Bool),(Y4 g k l).length=l.length
 | 0,_=>rfl
 | k+1,l=>by rw [Y4,C45 g k,F44]
theorem E34 (g:Graph) (s:List Int):(P6 g s).length=g.length:=by unfold P6;rw [C45,X0];simp
def LeB (a b:List Bool):Prop:=a.length=b.length∧∀c,K2 a c=true→K2 b c=true
theorem LeB.refl (a:List Bool):LeB a a:=⟨rfl,fun _ h=>h⟩
theorem LeB.trans {a b c:List Bool} (h:LeB a b) (h2:LeB b c):LeB a c:=⟨h.1.trans h2.1,fun x hx=>h2.2 x (h.2 x hx)⟩
theorem C46:∀{a b:List Bool},LeB a b→a=b∨a.countP id < b.countP id
 | [],[],_=>.inl rfl
 | [],_::_,h=>by have:=h.1;simp at this
 | _::_,[],h=>by have:=h.1;simp at this
 | x::a,y::b,h=>by
  have h1:LeB a b:=⟨by simpa using h.1,fun c hc=>h.2 (c+1) hc⟩
  have h2:x=true→y=true:=fun hx=>by simpa [K2] using h.2 0 (by simpa [K2] using hx)
  rw [List.countP_cons,List.countP_cons]
  rcases C46 h1 with rfl | h3
  ·cases x<;>cases y
   ·exact .inl rfl
   ·right;simp
   ·exact absurd (h2 rfl) (by decide)
   ·exact .inl rfl
  ·right
   cases x<;>cases y
   ·simpa using h3
   ·simp;omega
   ·exact absurd (h2 rfl) (by decide)
   ·simpa using h3
theorem I04 {a b:List Bool} (h:LeB a b) (h2:LeB b a):a=b:=by
 rcases C46 h with e | e
 ·exact e
 ·rcases C46 h2 with e2 | e2
  ·exact e2.symm
  ·omega
theorem D96 (ps:List Int) (l:List Bool):LeB l (W9 ps l):=⟨(X0 ps l).symm,fun c h=>by rw [p8,h];rfl⟩
theorem I05 (g:Graph) (l:List Bool) (c:Nat):LeB l (l3 g l c):=by unfold l3;split<;>first | exact D96 _ _ | exact LeB.refl _
theorem D49 (g:Graph):∀(cs:List Nat) (l:List Bool),LeB l (cs.foldl (l3 g) l)
 | [],l=>LeB.refl l
 | c::r,l=>(I05 g l c).trans (D49 g r _)
theorem I06 (g:Graph):∀(k:Nat) (l:List Bool),LeB l (Y4 g k l)
 | 0,l=>LeB.refl l
 | k+1,l=>(D49 g _ l).trans (I06 g k _)
def A93 (g:Graph) (l:List Bool):Prop:=∀c,K2 l c=true→∀p∈F3 g c,K2 l p.toNat=true
theorem I07 (g:Graph):∀(cs:List Nat) (l:List Bool),cs.foldl (l3 g) l=l→∀c∈cs,l3 g l c=l
 | [],_,_,_,h=>by cases h
 | d::r,l,h,c,hc=>by
  rw [L32] at h
  have h1:l3 g l d=l:=I04 (by have:=D49 g r (l3 g l d);rw [h] at this;exact this) (I05 g l d)
  rcases List.mem_cons.1 hc with rfl | hc
  ·exact h1
  ·rw [h1] at h;exact I07 g r l h c hc
theorem J50 {l:List Bool} {c:Nat} (h:K2 l c=true):c < l.length:=by
 unfold K2 at h
 apply Classical.byContradiction
 intro hn;rw [L18 (by omega)] at h;cases h
theorem J02 {g:Graph} {l:List Bool} (hr:related g=true) (hl:l.length=g.length) (h:C20 g l=l):A93 g l:=by
 intro c hc p hp
 have h1:=I07 g _ l h c (List.mem_range.2 (by rw [←hl];exact J50 hc))
 unfold l3 at h1
 rw [if_pos hc] at h1
 rw [←h1,p8]
 have:=(K8 hr c).1 p hp
 rw [L20];right
 rw [L02,decide_eq_true_eq,List.any_eq_true]
 exact ⟨by omega,p,hp,by simp⟩
theorem D50 {g:Graph} {l:List Bool} (h:A93 g l):C20 g l=l:=by
 have key:∀(cs:List Nat),cs.foldl (l3 g) l=l:=by
  intro cs
  induction cs with
  | nil=>rfl
  | cons c r ih =>
   rw [L32]
   have:l3 g l c=l:=by
    unfold l3
    split
    ·rename_i hc
     refine I04 ⟨X0 _ _,fun x hx=>?_⟩ (D96 _ _)
     rw [p8,L20,L02,List.any_eq_true] at hx
     rcases hx with hx | ⟨_,p,hp,e⟩
     ·exact hx
     ·rw [←A1 e];exact h c hc p hp
    ·rfl
   rw [this];exact ih
 exact key _
theorem E35 {g:Graph} (hr:related g=true):∀(k:Nat) {l:List Bool},l.length=g.length→A93 g (Y4 g k l)∨l.countP id+k≤(Y4 g k l).countP id
 | 0,l,_=>.inr (by simp [Y4])
 | k+1,l,hl=>by
  rw [Y4]
  rcases C46 (D49 g (List.range g.length) l) with e | e
  ·left
   have h1:A93 g l:=J02 hr hl e.symm
   rw [show C20 g l=l from e.symm]
   have:∀k,Y4 g k l=l:=fun k=>by
    induction k with
    | zero=>rfl
    | succ k ih=>rw [Y4,D50 h1];exact ih
   rw [this];exact h1
  ·rcases E35 hr k (l:=C20 g l) (by rw [F44];exact hl) with h | h
   ·exact .inl h
   ·right
    have e:l.countP id < (C20 g l).countP id:=e
    omega
theorem B63 {g:Graph} (hr:related g=true) (s:List Int) (hs:∀f∈s,0≤f∧f < g.length):A93 g (P6 g s):=by
 by_cases h0:s=[]
 ·subst h0
  have:A93 g (List.replicate g.length false):=fun c hc=>by
   unfold K2 at hc
   rw [List.getElem?_replicate] at hc
   split at hc<;>cases hc
  have e:∀k,Y4 g k (List.replicate g.length false)=List.replicate g.length false:=fun k=>by
   induction k with
   | zero=>rfl
   | succ k ih=>rw [Y4,D50 this];exact ih
  unfold P6
  show A93 g (Y4 g g.length (List.replicate g.length false))
  rw [e];exact this
 ·rcases E35 hr g.length (l:=W9 s (List.replicate g.length false)) (by rw [X0];simp) with h | h
  ·exact h
  ·obtain ⟨f,r,rfl⟩:=List.exists_cons_of_ne_nil h0
   have h1:(Y4 g g.length (W9 (f::r) (List.replicate g.length false))).countP id≤g.length:=by
    have:=List.countP_le_length (p:=id) (l:=Y4 g g.length (W9 (f::r) (List.replicate g.length false)))
    rw [C45,X0,L24] at this;exact this
   have h2:0 < (W9 (f::r) (List.replicate g.length false)).countP id:=by
    rw [List.countP_pos_iff]
    have hf:=hs f (by simp)
    have hon:K2 (W9 (f::r) (List.replicate g.length false)) f.toNat=true:=by
     rw [p8,L20];right
     rw [L02,decide_eq_true_eq,List.any_eq_true]
     exact ⟨by rw [L24];omega,f,by simp,by simp⟩
    have hlt:=J50 hon
    unfold K2 at hon
    rw [L01 hlt] at hon
    exact ⟨_,L05 hlt,hon⟩
   omega
theorem C47 {g:Graph} (hr:related g=true) {s:List Int} (hs:∀f∈s,0≤f∧f < g.length) (x:Nat):K2 (P6 g s) x=true↔∃f:Nat,(f:Int)∈s∧(f=x∨Reaches g f x):=by
 constructor
 ·let Good:List Bool→Prop:=fun l=>∀x,K2 l x=true→∃f:Nat,(f:Int)∈s∧(f=x∨Reaches g f x)
  have h1:∀l c,Good l→Good (l3 g l c):=by
   intro l c h x hx
   unfold l3 at hx
   split at hx
   ·rename_i hc
    rw [p8,L20,L02,List.any_eq_true] at hx
    rcases hx with hx | ⟨_,p,hp,e⟩
    ·exact h x hx
    ·have e:=A1 e
     have hp2:=(K8 hr c).1 p hp
     have e2:((x:Nat):Int)=p:=by omega
     obtain ⟨f,hf,h2⟩:=h c hc
     refine ⟨f,hf,.inr ?_⟩
     rcases h2 with rfl | h2
     ·exact .one (by rw [e2];exact hp)
     ·exact .more h2 (by rw [e2];exact hp)
   ·exact h x hx
  have h2:∀(cs:List Nat) l,Good l→Good (cs.foldl (l3 g) l):=by
   intro cs
   induction cs with
   | nil=>exact fun l h=>h
   | cons c r ih=>exact fun l h=>ih _ (h1 l c h)
  have h3:∀k l,Good l→Good (Y4 g k l):=by
   intro k
   induction k with
   | zero=>exact fun l h=>h
   | succ k ih=>exact fun l h=>ih _ (h2 _ l h)
  refine h3 _ _ (fun x hx=>?_) x
  rw [p8,L20,L02,List.any_eq_true] at hx
  rcases hx with hx | ⟨_,p,hp,e⟩
  ·unfold K2 at hx
   rw [List.getElem?_replicate] at hx
   split at hx<;>cases hx
  ·have e:=A1 e
   have:=hs p hp
   exact ⟨x,by rw [show ((x:Nat):Int)=p by omega];exact hp,.inl rfl⟩
 ·rintro ⟨f,hf,h⟩
  have hcl:=B63 hr s hs
  have h0:K2 (P6 g s) f=true:=by
   refine (I06 g _ _).2 f ?_
   rw [p8,L20];right
   rw [L02,decide_eq_true_eq,List.any_eq_true]
   have:=hs f hf
   exact ⟨by rw [L24];omega,f,hf,by simp⟩
  rcases h with rfl | h
  ·exact h0
  ·induction h with
   | one h=>exact hcl _ h0 _ h
   | more _ h2 ih=>exact hcl _ ih _ h2
def cyclic (g:Graph):Bool:=(List.range g.length).any fun c=>decide (F3 g c≠[])&&K2 (P6 g (F3 g c)) c
theorem B64 {g:Graph} (hr:related g=true):cyclic g=true↔∃c,Reaches g c c:=by
 unfold cyclic
 rw [List.any_eq_true]
 constructor
 ·rintro ⟨c,_,h⟩
  rw [L02] at h
  obtain ⟨f,hf,h2⟩:=(C47 hr (K8 hr c).1 c).1 h.2
  rcases h2 with rfl | h2
  ·exact ⟨f,.one hf⟩
  ·exact ⟨c,(Reaches.one hf).trans h2⟩
 ·rintro ⟨c,h⟩
  have hlt:=(h.lt hr).1
  refine ⟨c,List.mem_range.2 hlt,?_⟩
  have key:∀{a b:Nat},Reaches g a b→∃f:Nat,(f:Int)∈F3 g a∧(f=b∨Reaches g f b):=by
   intro a b h
   induction h with
   | one h=>exact ⟨_,h,.inl rfl⟩
   | more _ h2 ih =>
    obtain ⟨f,hf,h3⟩:=ih
    refine ⟨f,hf,.inr ?_⟩
    rcases h3 with rfl | h3
    ·exact .one h2
    ·exact .more h3 h2
  obtain ⟨f,hf,h2⟩:=key h
  rw [L02,decide_eq_true_eq]
  exact ⟨(fun e=>by rw [e] at hf;cases hf),(C47 hr (K8 hr c).1 c).2 ⟨f,hf,h2⟩⟩
def D51 (g:Graph) (ex:List Int) (p:Nat):Nat:=(List.range g.length).countP fun c:Nat=>decide ((c:Int)∉ex∧(p:Int)∈F3 g c)
theorem G42 {g:Graph} {ex:List Int} {x p:Nat} (hx:(x:Int)∉ex) (hlt:x < g.length):D51 g ex p=D51 g (ex++[(x:Int)]) p+(if (p:Int)∈F3 g x then 1 else 0):=by
 unfold D51
 rw [D09 (q:=fun c:Nat=>decide ((c:Int)∉ex∧(p:Int)∈F3 g c)) (r:=fun c:Nat=>decide ((c:Int)∉ex++[(x:Int)]∧(p:Int)∈F3 g c)) x (fun y=>?_) List.nodup_range]
 ·congr 1
  simp only [List.mem_range,hlt,true_and,decide_eq_true_eq,hx,not_false_eq_true]
 ·simp only [L30,List.mem_singleton]
  by_cases h1:(y:Int)∈ex<;>by_cases h2:y=x<;>by_cases h3:(p:Int)∈F3 g y<;>simp [h1,h2,h3]<;>omega
theorem K65 {g:Graph} {ex:List Int} {p:Nat} (h:0 < D51 g ex p):∃c,c < g.length∧(c:Int)∉ex∧(p:Int)∈F3 g c:=by
 unfold D51 at h
 rw [List.countP_pos_iff] at h
 obtain ⟨c,hc,h⟩:=h
 have:=A1 h
 exact ⟨c,List.mem_range.1 hc,this.1,this.2⟩
theorem G43 {g:Graph} {ex:List Int} {p:Nat} (h:D51 g ex p=0) {c:Nat} (hc:c < g.length) (hp:(p:Int)∈F3 g c):(c:Int)∈ex:=by
 apply Classical.byContradiction
 intro hn
 have:0 < D51 g ex p:=by
  unfold D51
  rw [List.countP_pos_iff]
  exact ⟨c,List.mem_range.2 hc,by simp [hn,hp]⟩
 omega
structure KInv (g:Graph) (k i:Nat) (ch:List Int) (out:List Int):Prop where
 len:ch.length=g.length
 nodup:out.Nodup
 rng:∀x∈out,0≤x∧x < g.length
 cnt:∀p,p < g.length→ch[p]?.getD 0+(if (p:Int)∈(F3 g (out.getD k 0).toNat).take i then 1 else 0)=D51 g (out.take k) p
 zero:∀p,p < g.length→((p:Int)∈out↔ch[p]?.getD 0=0)
 kids:∀j (h:j < out.length) (c:Nat),out[j]∈F3 g c→(c:Int)∈out.take j
theorem minimal {R:Nat→Nat→Prop} (tr:∀a b c,R a b→R b c→R a c) (ir:∀a,¬R a a):∀{M:List Nat},M≠[]→∃m∈M,∀x∈M,¬R x m
 | [],h=>absurd rfl h
 | [a],_=>⟨a,by simp,fun x hx=>by rw [List.mem_singleton.1 hx];exact ir a⟩
 | a::b::r,_=>by
  obtain ⟨m,hm,h⟩:=minimal tr ir (M:=b::r) (by simp)
  by_cases ham:R a m
  ·refine ⟨a,by simp,fun x hx hxa=>?_⟩
   rcases List.mem_cons.1 hx with rfl | hx
   ·exact ir _ hxa
   ·exact h x hx (tr _ _ _ hxa ham)
  ·refine ⟨m,List.mem_cons_of_mem _ hm,fun x hx=>?_⟩
   rcases List.mem_cons.1 hx with rfl | hx
   ·exact ham
   ·exact h x hx
theorem KInv.done {g:Graph} (hr:related g=true) {ch out:List Int} (h:KInv g out.length 0 ch out):(decide (out.length < g.length))=cyclic g:=by
 cases hc:cyclic g
 ·rw [decide_eq_false_iff_not]
  intro hlt
  have hno:∀c,¬Reaches g c c:=fun c hcc=>by rw [(B64 hr).2 ⟨c,hcc⟩] at hc;cases hc
  let M:=(List.range g.length).filter fun c:Nat=>decide ((c:Int)∉out)
  have hM:M≠[]:=by
   intro e
   have hall:∀c,c < g.length→(c:Int)∈out:=fun c hc=>by
    apply Classical.byContradiction
    intro hn
    have:c∈M:=List.mem_filter.2 ⟨List.mem_range.2 hc,by simp [hn]⟩
    rw [e] at this;cases this
   have:=C44 (l:=(List.range g.length).map fun i:Nat=>(i:Int)) (m:=out) ((List.nodup_range).map (fun i:Nat=>(i:Int)) (fun _ _ hne e=>hne (Int.ofNat.inj e))) fun x hx=>by
    obtain ⟨i,hi,rfl⟩:=List.mem_map.1 hx
    exact hall i (List.mem_range.1 hi)
   rw [L33,L39] at this;omega
  obtain ⟨m,hm,hmin⟩:=minimal (R:=Reaches g) (fun _ _ _ h1 h2=>h1.trans h2) hno hM
  obtain ⟨hm1,hm2⟩:=List.mem_filter.1 hm
  have hm1:=List.mem_range.1 hm1
  have hm2:=A1 hm2
  have h1:=h.cnt m hm1
  have h2:¬ch[m]?.getD 0=0:=fun e=>hm2 ((h.zero m hm1).2 e)
  rw [L08,List.take_zero,if_neg (by simp),Int.add_zero] at h1
  obtain ⟨c,hc1,hc2,hc3⟩:=K65 (g:=g) (ex:=out) (p:=m) (by omega)
  exact hmin c (List.mem_filter.2 ⟨List.mem_range.2 hc1,by simp [hc2]⟩) (.one hc3)
 ·rw [decide_eq_true_eq]
  obtain ⟨c,hcc⟩:=(B64 hr).1 hc
  apply Classical.byContradiction
  intro hn
  have hin:=K63 h.nodup h.rng (by omega) c (hcc.lt hr).1
  have key:∀{x y:Nat},Reaches g x y→∀j (hj:j < out.length),out[j]=(y:Int)→∃i,∃hi:i < out.length,i < j∧out[i]=(x:Int):=by
   have one:∀{x y:Nat},(y:Int)∈F3 g x→∀j (hj:j < out.length),out[j]=(y:Int)→∃i,∃hi:i < out.length,i < j∧out[i]=(x:Int):=by
    intro x y hxy j hj e
    have:=h.kids j hj x (by rw [e];exact hxy)
    obtain ⟨i,hi,he⟩:=List.getElem_of_mem this
    rw [L10] at hi
    rw [List.getElem_take] at he
    exact ⟨i,by omega,by omega,he⟩
   intro x y hxy
   induction hxy with
   | one h=>exact one h
   | more _ h2 ih =>
    intro j hj e
    obtain ⟨i,hi,hlt,e2⟩:=one h2 j hj e
    obtain ⟨i',hi',hlt',e3⟩:=ih i hi e2
    exact ⟨i',hi',by omega,e3⟩
  obtain ⟨j,hj,e⟩:=List.getElem_of_mem hin
  obtain ⟨i,hi,hlt,e2⟩:=key hcc j hj e
  have:=(List.getElem_inj (i:=i) (j:=j) (h₀:=hi) (h₁:=hj) h.nodup).1 (e2.trans e.symm)
  omega
end Go.AL
namespace Go.AL
open Go
def atG (l:List Int) (p:Nat):Int:=l[p]?.getD 0
def bump (l:List Int) (p:Int):List Int:=l.set p.toNat (atG l p.toNat+1)
def Y5 (l:List Int) (p:Int):List Int:=l.set p.toNat (atG l p.toNat - 1)
def Y8 (ps:List Int) (l:List Int):List Int:=ps.foldl bump l
def Q1 (g:Graph) (i:Nat):List Int:=(g.take i).foldl (fun l c=>Y8 c.Parents l) (List.replicate g.length 0)
theorem A94 {l:List Int} {i p:Nat} {v:Int} (h:i < l.length):atG (l.set i v) p=if i=p then v else atG l p:=by
 unfold atG
 rw [List.getElem?_set]
 split
 ·rename_i e;subst e;simp [h]
 ·rfl
theorem C21:∀(ps:List Int) (l:List Int),(Y8 ps l).length=l.length
 | [],_=>rfl
 | p::r,l=>by show (Y8 r (bump l p)).length=_;rw [C21 r];simp [bump]
theorem D10 {n:Int}:∀{ps:List Int} {l:List Int},(∀p∈ps,0≤p∧p < l.length)→ps.Nodup→∀p:Nat,atG (Y8 ps l) p=atG l p+(if (p:Int)∈ps then 1 else 0)
 | [],l,_,_,p=>by simp [Y8]
 | q::r,l,h,hn,p=>by
  show atG (Y8 r (bump l q)) p=_
  have hq:=h q (by simp)
  have hn:=List.nodup_cons.1 hn
  rw [D10 (n:=n) (fun x hx=>by have:=h x (by simp [hx]);simpa [bump] using this) hn.2 p]
  unfold bump
  rw [A94 (by omega)]
  by_cases e:q.toNat=p
  ·have e2:(p:Int)=q:=by omega
   have h2:¬(p:Int)∈r:=by rw [e2];exact hn.1
   rw [if_pos e,if_neg h2,e2,if_pos (by simp),e];omega
  ·have e2:((p:Int)∈q::r)↔(p:Int)∈r:=by
    rw [L23]
    exact ⟨fun h=>h.resolve_left (by omega),.inr⟩
   rw [if_neg e]
   simp only [e2]
theorem A40 (g:Graph):∀i,(Q1 g i).length=g.length:=by
 intro i
 unfold Q1
 have key:∀(cs:List Commit) (l:List Int),(cs.foldl (fun l c=>Y8 c.Parents l) l).length=l.length:=by
  intro cs
  induction cs with
  | nil=>intro l;rfl
  | cons c r ih=>intro l;rw [L32,ih,C21]
 rw [key];simp
theorem C83 {g:Graph} {i:Nat} (hi:i < g.length):Q1 g (i+1)=Y8 (F3 g i) (Q1 g i):=by
 unfold Q1
 rw [List.take_add_one,L01 hi,Option.toList_some,L41,g9 hi];rfl
theorem C22 {g:Graph} (hr:related g=true) (p:Nat) (hp:p < g.length):∀i,i≤g.length→atG (Q1 g i) p=((List.range i).countP fun c:Nat=>decide ((p:Int)∈F3 g c):Nat)
 | 0,_=>by
  unfold Q1 atG
  simp [List.getElem?_replicate,hp]
 | i+1,hi=>by
  have hpr:=K8 hr i
  rw [C83 (by omega),D10 (n:=0) (fun q hq=>by rw [A40];exact hpr.1 q hq) hpr.2,C22 hr p hp i (by omega),L55,List.countP_append]
  by_cases h:(p:Int)∈F3 g i<;>simp [h]
theorem E36 {g:Graph} (hr:related g=true) (p:Nat) (hp:p < g.length):atG (Q1 g g.length) p=D51 g [] p:=by
 rw [C22 hr p hp _ (Nat.le_refl _)]
 unfold D51
 simp
def V9 (ch:List Int) (i:Nat):List Int:=((List.range i).filter fun c=>decide (atG ch c=0)).map fun c:Nat=>(c:Int)
theorem H12 (ch:List Int) (i:Nat):V9 ch (i+1)=if atG ch i=0 then V9 ch i++[(i:Int)] else V9 ch i:=by
 unfold V9
 rw [L55,List.filter_append,L40]
 by_cases h:atG ch i=0<;>simp [h]
theorem E37 (ch:List Int) (i p:Nat):(p:Int)∈V9 ch i↔p < i∧atG ch p=0:=by
 unfold V9
 rw [List.mem_map]
 constructor
 ·rintro ⟨c,hc,e⟩
  have e:c=p:=Int.ofNat.inj e
  subst e
  rw [List.mem_filter,List.mem_range,decide_eq_true_eq] at hc
  exact hc
 ·rintro ⟨h1,h2⟩
  exact ⟨p,by rw [List.mem_filter,List.mem_range,decide_eq_true_eq];exact ⟨h1,h2⟩,rfl⟩
theorem C23 {ch:List Int} {i:Nat}:∀x∈V9 ch i,0≤x∧x < i:=by
 intro x hx
 unfold V9 at hx
 obtain ⟨c,hc,rfl⟩:=List.mem_map.1 hx
 have:=List.mem_range.1 (List.mem_filter.1 hc).1
 omega
theorem C84 (ch:List Int) (i:Nat):(V9 ch i).Nodup:=by
 unfold V9
 exact (List.nodup_range.filter _).map (fun i:Nat=>(i:Int)) fun _ _ hne e=>hne (Int.ofNat.inj e)
theorem I08 (ch:List Int) (i:Nat):(V9 ch i).length≤i:=u7 (C84 ch i) C23
theorem KInv.start {g:Graph} (hr:related g=true):KInv g 0 0 (Q1 g g.length) (V9 (Q1 g g.length) g.length) where
 len:=A40 g _
 nodup:=C84 _ _
 rng:=C23
 cnt:=fun p hp=>by
  have:=E36 hr p hp
  unfold atG at this
  rw [this,List.take_zero,List.take_zero];simp
 zero:=fun p hp=>by
  have:=E37 (Q1 g g.length) g.length p
  rw [this]
  exact ⟨fun h=>h.2,fun h=>⟨hp,h⟩⟩
 kids:=fun j hj c hc=>by
  have h1:=C23 _ (L05 hj)
  have h2:=(E37 (Q1 g g.length) g.length ((V9 (Q1 g g.length) g.length)[j]).toNat).1 (by rw [Int.toNat_of_nonneg h1.1];exact L05 hj)
  rw [E36 hr _ h2.1] at h2
  have hlt:c < g.length:=by
   apply Classical.byContradiction
   intro hn;rw [B36 hn] at hc;cases hc
  have:=G43 (g:=g) (ex:=[]) (p:=((V9 (Q1 g g.length) g.length)[j]).toNat) (by omega) hlt (by rw [Int.toNat_of_nonneg h1.1];exact hc)
  cases this
theorem KInv.le {g:Graph} {k i:Nat} {ch out:List Int} (h:KInv g k i ch out):out.length≤g.length:=u7 h.nodup h.rng
theorem A20 {α:Type} {l m:List α} {k:Nat} (h:k≤l.length):(l++m).take k=l.take k:=by rw [List.take_append_of_le_length h]
theorem I09 {α:Type} {l m:List α} {k:Nat} {d:α} (h:k < l.length):(l++m).getD k d=l.getD k d:=by
 rw [L07,L07,L19 h]
theorem T7 {α:Type} {l:List α} {i:Nat} {x:α} (h:i < l.length):x∈l.take (i+1)↔x∈l.take i∨x=l[i]:=by
 rw [List.take_add_one,L01 h,Option.toList_some,L30,List.mem_singleton]
theorem Y9 {α:Type} {l:List α} (hn:l.Nodup) {i:Nat} (h:i < l.length):l[i]∉l.take i:=by
 intro hm
 obtain ⟨j,hj,e⟩:=List.getElem_of_mem hm
 rw [L10] at hj
 rw [List.getElem_take] at e
 have:=(List.getElem_inj (i:=j) (j:=i) (h₀:=by omega) (h₁:=h) hn).1 e
 omega
theorem KInv.step {g:Graph} (hr:related g=true) {k i:Nat} {ch out:List Int} (h:KInv g k i ch out) (hk:k < out.length) {c p:Nat} (hc:out[k]=(c:Int)) (hi:i < (F3 g c).length) (hp:(F3 g c)[i]=(p:Int)) :
  p < g.length∧1≤atG ch p∧atG ch p≤g.length∧KInv g k (i+1) (Y5 ch p) (if atG ch p - 1=0 then out++[(p:Int)] else out):=by
 have hpr:=K8 hr c
 have hpm:(p:Int)∈F3 g c:=by rw [←hp];exact L05 hi
 have hplt:p < g.length:=by have:=hpr.1 p hpm;omega
 have hclt:c < g.length:=by have:=h.rng out[k] (L05 hk);omega
 have hg0:out.getD k 0=(c:Int):=by rw [L07,L01 hk];exact hc
 have hnt:(c:Int)∉out.take k:=by rw [←hc];exact Y9 h.nodup hk
 have hnp:(p:Int)∉(F3 g c).take i:=by rw [←hp];exact Y9 hpr.2 hi
 have h1:=h.cnt p hplt
 rw [hg0,L03,if_neg hnp] at h1
 have h2:=G42 (g:=g) (ex:=out.take k) (x:=c) (p:=p) hnt hclt
 rw [if_pos hpm] at h2
 have hle:D51 g (out.take k) p≤g.length:=by
  unfold D51
  have:=List.countP_le_length (p:=fun c:Nat=>decide ((c:Int)∉out.take k∧(p:Int)∈F3 g c)) (l:=List.range g.length)
  rwa [L39] at this
 have hat:atG ch p=ch[p]?.getD 0:=rfl
 have hge:1≤atG ch p:=by omega
 have hnout:(p:Int)∉out:=fun hm=>by have:=(h.zero p hplt).1 hm;omega
 have hst:∀q,atG (Y5 ch p) q=if p=q then atG ch p - 1 else atG ch q:=fun q=>by
  unfold Y5
  rw [L03,A94 (by rw [h.len];exact hplt)]
 refine ⟨hplt,hge,by omega,?_⟩
 have htake:(if atG ch p - 1=0 then out++[(p:Int)] else out).take k=out.take k:=by split<;>first | exact A20 (by omega) | rfl
 have hget:(if atG ch p - 1=0 then out++[(p:Int)] else out).getD k 0=out.getD k 0:=by split<;>first | exact I09 hk | rfl
 refine ⟨by unfold Y5;rw [L26];exact h.len,?_,?_,?_,?_,?_⟩
 ·split
  ·exact List.nodup_append.2 ⟨h.nodup,by simp,fun x hx y hy e=>by rw [List.mem_singleton.1 hy] at e;exact hnout (e ▸ hx)⟩
  ·exact h.nodup
 ·intro x hx
  split at hx
  ·rcases List.mem_append.1 hx with hx | hx
   ·exact h.rng x hx
   ·rw [List.mem_singleton.1 hx];omega
  ·exact h.rng x hx
 ·intro q hq
  rw [htake,hget,hg0,L03]
  have e1:=hst q
  have e2:atG (Y5 ch p) q=(Y5 ch p)[q]?.getD 0:=rfl
  rw [←e2,e1]
  by_cases e:p=q
  ·subst e
   rw [if_pos rfl,if_pos ((T7 hi).2 (.inr hp.symm))];omega
  ·rw [if_neg e]
   have h3:=h.cnt q hq
   rw [hg0,L03] at h3
   have h4:((q:Int)∈(F3 g c).take (i+1))↔(q:Int)∈(F3 g c).take i:=by
    rw [T7 hi,hp]
    exact ⟨fun h=>h.resolve_right (by omega),.inl⟩
   simp only [h4]
   exact h3
 ·intro q hq
  have e1:=hst q
  have e2:atG (Y5 ch p) q=(Y5 ch p)[q]?.getD 0:=rfl
  rw [←e2,e1]
  by_cases e:p=q
  ·subst e
   rw [if_pos rfl]
   split
   ·rename_i h0;simp [h0]
   ·rename_i h0;exact ⟨fun hm=>absurd hm hnout,fun e=>absurd e h0⟩
  ·rw [if_neg e]
   have h3:=h.zero q hq
   split
   ·rw [L30,List.mem_singleton]
    exact ⟨fun hm=>h3.1 (hm.resolve_right (by omega)),fun e=>.inl (h3.2 e)⟩
   ·exact h3
 ·intro j hj x hx
  split at hj
  ·rename_i h0
   simp only [h0,if_true] at hx ⊢
   by_cases hjl:j < out.length
   ·rw [L52 hjl] at hx
    rw [A20 (by omega)]
    exact h.kids j hjl x hx
   ·have hje:j=out.length:=by rw [L06,List.length_singleton] at hj;omega
    subst hje
    rw [L49 (Nat.le_refl _)] at hx
    simp only [L42,List.getElem_cons_zero] at hx
    have hxl:x < g.length:=by
     apply Classical.byContradiction
     intro hn;rw [B36 hn] at hx;cases hx
    have hz:D51 g (out.take k++[(c:Int)]) p=0:=by omega
    have:=G43 hz hxl hx
    rw [A20 (Nat.le_refl _),L08]
    rcases List.mem_append.1 this with hm | hm
    ·exact List.mem_of_mem_take hm
    ·rw [List.mem_singleton.1 hm,←hc];exact L05 hk
  ·rename_i h0
   simp only [h0,if_false] at hx ⊢
   exact h.kids j hj x hx
theorem KInv.next {g:Graph} {k:Nat} {ch out:List Int} (hk:k < out.length) {c:Nat} (hc:out[k]=(c:Int)) (h:KInv g k (F3 g c).length ch out):KInv g (k+1) 0 ch out where
 len:=h.len
 nodup:=h.nodup
 rng:=h.rng
 cnt:=fun p hp=>by
  have h1:=h.cnt p hp
  have hg0:out.getD k 0=(c:Int):=by rw [L07,L01 hk];exact hc
  have hclt:c < g.length:=by have:=h.rng out[k] (L05 hk);omega
  rw [hg0,L03,L08] at h1
  have h2:=G42 (g:=g) (ex:=out.take k) (x:=c) (p:=p) (by rw [←hc];exact Y9 h.nodup hk) hclt
  have e:out.take (k+1)=out.take k++[(c:Int)]:=by rw [List.take_add_one,L01 hk,Option.toList_some,hc]
  rw [e,List.take_zero,if_neg (by simp)]
  split at h1
  ·rename_i hm;rw [if_pos hm] at h2;omega
  ·rename_i hm;rw [if_neg hm] at h2;omega
 zero:=h.zero
 kids:=h.kids
def X7:List Commit→Int
 | []=>0
 | c::r=>if F1 c.Files≠0 then F1 c.Files else X7 r
def X8 (g:Graph):Bool:=decide (g.length≤300)&&!g.any fun c=>decide (c.Parents.length > 32)
def A95 (g:Graph):Bool:=g.any fun c=>decide (c.Date < 0∨c.Date > 2147483647)
def H3 (g:Graph):Int:=if X8 g=false then 1 else if related g=false then 230 else if cyclic g=true then 231 else if A95 g=true then 3 else X7 g
theorem C85:∀{g:List Commit},X7 g=0→∀c∈g,F1 c.Files=0
 | [],_,_,hc=>by cases hc
 | d::r,h,c,hc=>by
  unfold X7 at h
  split at h
  ·rename_i h1;exact absurd h h1
  ·rename_i h1
   rcases List.mem_cons.1 hc with rfl | hc
   ·simpa using h1
   ·exact C85 h c hc
structure Valid (g:Graph):Prop where
 len:g.length≤300
 pars:∀c∈g,c.Parents.length≤32
 rel:related g=true
 acyc:∀c,¬Reaches g c c
 tree:∀c∈g,F1 c.Files=0
theorem A60 {g:Graph} (h:H3 g=0):Valid g:=by
 unfold H3 at h
 split at h
 ·cases h
 ·rename_i h1
  split at h
  ·cases h
  ·rename_i h2
   split at h
   ·cases h
   ·rename_i h3
    split at h
    ·cases h
    ·have h1:X8 g=true:=by simpa using h1
     unfold X8 at h1
     rw [L02,decide_eq_true_eq] at h1
     have h2:related g=true:=by simpa using h2
     refine ⟨h1.1,fun c hc=>?_,h2,fun c hc=>h3 ((B64 h2).2 ⟨c,hc⟩),fun c hc=>C85 h c hc⟩
     apply Classical.byContradiction
     intro hn
     have:g.any (fun c=>decide (c.Parents.length > 32))=true:=List.any_eq_true.2 ⟨c,hc,by simp;omega⟩
     rw [this] at h1;cases h1.2
end Go.AL
namespace Go.AL
open Go
def A61 (i j:Int):List Span→Int→Int→List Change
 | [],m,n=>if m > i∨n > j then [⟨i,m - i,j,n - j⟩] else []
 | x::r,m,n=>(if x.From > i∨x.To > j then [⟨i,x.From - i,j,x.To - j⟩] else [])++A61 (x.From+1) (x.To+1) r m n
def F45 (p:List Span) (m n:Int):List Change:=A61 0 0 p m n
theorem F97 (p:List Span) (i j m n:Int):(A61 i j p m n).length≤p.length+1:=by
 induction p generalizing i j with
 | nil=>unfold A61;split<;>simp
 | cons x r ih=>unfold A61;have:=ih (x.From+1) (x.To+1);split<;>simp<;>omega
def W4 (i j:Int) (n:Nat):List Span:=(List.range n).map fun (t:Nat)=>⟨i+(t:Int),j+(t:Int)⟩
theorem F46 (i j:Int) (n:Nat):(W4 i j n).length=n:=by simp [W4]
theorem H13 (i j:Int) (n:Nat):W4 i j (n+1)=⟨i,j⟩::W4 (i+1) (j+1) n:=by
 unfold W4
 rw [List.range_succ_eq_map,L16,L38]
 congr 1
 ·simp
 ·refine List.map_congr_left fun t _=>?_
  simp only [Function.comp,Span.mk.injEq]
  omega
def B37 (i j:Int):List Change→Int→List Span
 | [],m=>W4 i j (m - i).toNat
 | c::r,m=>W4 i j (c.Old - i).toNat++B37 (max i c.Old+c.OldLen) (j+(c.Old - i).toNat+c.NewLen) r m
def K09 (l:List Change) (m:Int):List Span:=B37 0 0 l m
def dist:List Int→List Int→Nat
 | [],b=>b.length
 | x::a,[]=>(x::a).length
 | x::a,y::b=>if x=y then dist a b else 1+min (dist a (y::b)) (dist (x::a) b)
theorem D52 (a:List Int):dist a []=a.length:=by cases a<;>simp [dist]
theorem H14 (a b:List Int):dist a b≤a.length+b.length:=by
 induction a generalizing b with
 | nil=>simp [dist]
 | cons x a iha =>
  induction b with
  | nil=>simp [dist]
  | cons y b ihb =>
   unfold dist
   split
   ·have:=iha b;simp;omega
   ·have:=iha (y::b);have:=ihb;simp only [L04] at *;omega
def N4 (i j:Int):List Int→List Int→List Span
 | [],_=>[]
 | _::_,[]=>[]
 | x::a,y::b=>if x=y then ⟨i,j⟩::N4 (i+1) (j+1) a b else if dist a (y::b)+1=dist (x::a) (y::b) then N4 (i+1) j a (y::b) else N4 i (j+1) (x::a) b
def F47 (a b:List Int):List Change:=F45 (N4 0 0 a b) a.length b.length
theorem K10 (a b:List Int) (i j:Nat) (hi:i < a.length) (hj:j < b.length) :
  dist (a.drop i) (b.drop j)=if a[i]=b[j] then dist (a.drop (i+1)) (b.drop (j+1)) else 1+min (dist (a.drop (i+1)) (b.drop j)) (dist (a.drop i) (b.drop (j+1))):=by
 rw [L11 hi,L11 hj]
 conv=>lhs;rw [dist]
theorem E38 (a b:List Int) (i j:Nat) (hi:i < a.length) (hj:j < b.length) (p q:Int) :
  N4 p q (a.drop i) (b.drop j)=if a[i]=b[j] then ⟨p,q⟩::N4 (p+1) (q+1) (a.drop (i+1)) (b.drop (j+1)) else
   if dist (a.drop (i+1)) (b.drop j)+1=dist (a.drop i) (b.drop j) then N4 (p+1) q (a.drop (i+1)) (b.drop j) else N4 p (q+1) (a.drop i) (b.drop (j+1)):=by
 rw [L11 hi,L11 hj]
 conv=>lhs;rw [N4]
theorem Z7 (p q:Int) (b:List Int):N4 p q [] b=[]:=by simp [N4]
theorem y7 (p q:Int) (a:List Int):N4 p q a []=[]:=by cases a<;>simp [N4]
theorem C86 (p q:Int) (a b:List Int):(N4 p q a b).length≤a.length:=by
 induction a generalizing p q b with
 | nil=>simp [N4]
 | cons x a iha =>
  induction b generalizing p q with
  | nil=>simp [N4]
  | cons y b ihb =>
   unfold N4
   split
   ·have:=iha (p+1) (q+1) b;simp;omega
   ·split
    ·have:=iha (p+1) q (y::b);simp;omega
    ·exact ihb p (q+1)
universe u
theorem G44 {α:Type u} (n k:Nat) (f g:Nat→α) (v:α) (hv:k < n→g k=v) (h:∀q,q < n→q≠k→g q=f q):((List.range n).map f).set k v=(List.range n).map g:=by
 refine List.ext_getElem (by simp) fun q h1 h2=>?_
 have hq:q < n:=by simpa using h2
 rw [List.getElem_set]
 by_cases he:k=q
 ·subst he;simp [hv hq]
 ·rw [if_neg he];simp [h q hq (Ne.symm he)]
theorem K11 {α:Type u} (n k:Nat) (f:Nat→α) (h:k < n):((List.range n).map f)[k]?=some (f k):=by simp [h]
theorem B65 (i j:Int):W4 i j 0=[]:=rfl
theorem H15 (i j:Int) (n:Nat):W4 i j (n+1)=W4 i j n++[⟨i+n,j+n⟩]:=by simp [W4,L55]
def Asc (m n:Int):Int→Int→List Span→Prop
 | i,j,[]=>i≤m∧j≤n
 | i,j,x::r=>i≤x.From∧j≤x.To∧Asc m n (x.From+1) (x.To+1) r
theorem Asc.le {m n:Int}:∀{p:List Span} {i j:Int},Asc m n i j p→i≤m∧j≤n
 | [],i,j,h=>h
 | x::r,i,j,h=>by have:=Asc.le h.2.2;have:=h.1;have:=h.2.1;omega
theorem Asc.weaken {m n:Int} {p:List Span} {i j i' j':Int} (h:Asc m n i j p) (hi:i'≤i) (hj:j'≤j):Asc m n i' j' p:=by
 cases p with
 | nil=>exact ⟨by have:=h.1;omega,by have:=h.2;omega⟩
 | cons x r=>exact ⟨by have:=h.1;omega,by have:=h.2.1;omega,h.2.2⟩
theorem F48 (a b:List Int):∀(p q:Int),Asc (p+a.length) (q+b.length) p q (N4 p q a b):=by
 induction a generalizing b with
 | nil=>intro p q;rw [Z7];simp only [Asc,L09];omega
 | cons x a iha =>
  induction b with
  | nil=>intro p q;rw [y7];simp only [Asc,L09];omega
  | cons y b ihb =>
   intro p q
   rw [N4]
   split
   ·have:=iha b (p+1) (q+1)
    refine ⟨Int.le_refl _,Int.le_refl _,?_⟩
    simp only [L04]
    rwa [show p+((a.length+1:Nat):Int)=p+1+a.length by omega,show q+((b.length+1:Nat):Int)=q+1+b.length by omega]
   ·split
    ·have:=(iha (y::b) (p+1) q).weaken (i':=p) (j':=q) (by omega) (Int.le_refl _)
     rwa [show p+((x::a).length:Int)=p+1+a.length by simp;omega]
    ·have:=(ihb p (q+1)).weaken (i':=p) (j':=q) (Int.le_refl _) (by omega)
     rwa [show q+((y::b).length:Int)=q+1+b.length by simp;omega]
theorem Asc.made {m n:Int}:∀{p:List Span} {i j:Int},Asc m n i j p→∀c∈A61 i j p m n,i≤c.Old∧j≤c.New∧0≤c.OldLen∧0≤c.NewLen∧c.Old+c.OldLen≤m∧c.New+c.NewLen≤n
 | [],i,j,h,c,hc=>by
  unfold A61 at hc
  split at hc
  ·simp only [List.mem_singleton] at hc;subst hc
   have:=h.1;have:=h.2
   simp only;omega
  ·cases hc
 | x::r,i,j,h,c,hc=>by
  unfold A61 at hc
  obtain ⟨h1,h2,h3⟩:=h
  have h4:=h3.le
  rcases List.mem_append.1 hc with hc | hc
  ·split at hc
   ·simp only [List.mem_singleton] at hc;subst hc
    simp only;omega
   ·cases hc
  ·have:=Asc.made h3 c hc;omega
theorem H16 (a b:List Int):∀c∈F47 a b,0≤c.Old∧0≤c.New∧0≤c.OldLen∧0≤c.NewLen∧c.Old+c.OldLen≤a.length∧c.New+c.NewLen≤b.length:=by
 have:=F48 a b 0 0
 rw [Int.zero_add,Int.zero_add] at this
 exact this.made
end Go.AL
namespace Go.AL
open Go
def bitAt (m:Int) (c:Nat):Bool:=m / 2 ^ c % 2 == 1
def visB (r:Row) (c:Int):Bool:=if c = -1 then !r.Lost else if c < -1∨32≤c then false else bitAt r.Marks c.toNat == r.Lost
def colOf (rows:List Row) (c:Int):List Str:=(rows.filter (visB · c)).map (·.Text)
def markOk (n:Nat) (r:Row):Bool:=r.Marks / 2 ^ n == 0&&!(r.Lost&&r.Marks == 0)
theorem u64_id {n:Int} (h:0≤n∧n < 18446744073709551616):IntKind.u64.wrap n=n:=by simp [IntKind.wrap,IntKind.signed,IntKind.bits];omega
end Go.AL
namespace Go.AL
open Go
abbrev Loom:=List Int × (Nat→List (List Int))
structure LoomOk (Q:Int→Prop) (B lines n:Nat) (s:Loom):Prop where
 len:s.1.length=lines
 marks:∀m∈s.1,0≤m∧m < 4294967296
 gaps:∀k,(s.2 k).length=n∧∀x∈s.2 k,x.length≤B∧∀v∈x,Q v
end Go.AL
namespace Go.AL
open Go
theorem D53 (s:Str):Lib.hasSuffix s [10]=ended s:=by
 unfold Lib.hasSuffix ended
 rw [Bool.eq_iff_iff,List.isSuffixOf_iff_suffix,beq_iff_eq]
 constructor
 ·rintro ⟨t,rfl⟩;simp
 ·intro h
  obtain ⟨hne,h2⟩:=List.getLast?_eq_some_iff.1 h
  exact ⟨hne,h2.symm⟩
def A62 (s:Str):Str:=if ended s then s.dropLast else s
theorem F98 (s:Str):Lib.trimSuffix s [10]=A62 s:=by
 unfold Lib.trimSuffix A62
 rw [D53,List.dropLast_eq_take];rfl
theorem n5 (c:UInt8):∀l:Str,(c∉l∧Lib.indexByte l c = -1)∨∃a b,l=a++c::b∧c∉a∧Lib.indexByte l c=a.length
 | []=>.inl ⟨by simp,rfl⟩
 | x::l=>by
  unfold Lib.indexByte
  by_cases hx:x=c
  ·exact .inr ⟨[],l,by rw [hx];rfl,by simp,by simp [hx]⟩
  ·rcases n5 c l with ⟨h1,h2⟩ | ⟨a,b,h1,h2,h3⟩
   ·exact .inl ⟨by simp [h1,Ne.symm hx],by simp [hx,h2]⟩
   ·refine .inr ⟨x::a,b,by rw [h1];rfl,by simp [h2,Ne.symm hx],?_⟩
    have h4:¬((a.length:Int) = -1):=by omega
    simp [hx,h3,h4]
theorem B18 (c:UInt8) (l:Str):0≤Lib.indexByte l c↔c∈l:=by
 rcases n5 c l with ⟨h1,h2⟩ | ⟨a,b,h1,h2,h3⟩
 ·rw [h2];simp [h1]
 ·rw [h3,h1];simp
def and32 (a b:Int):Int:=IntKind.u32.wrap ((BitVec.ofInt IntKind.u32.bits a &&& BitVec.ofInt IntKind.u32.bits b).toNat:Int)
def not32 (a:Int):Int:=IntKind.u32.wrap ((BitVec.ofInt IntKind.u32.bits IntKind.u32.max ^^^ BitVec.ofInt IntKind.u32.bits a).toNat:Int)
def inOf (r:Row):Int:=if r.Lost then r.Marks else not32 r.Marks
def addOk (res:Bool) (par:Int) (r:Row):Bool:=decide (and32 par (inOf r)=0)&&(r.Lost||!res)
structure EndsAt (res:Bool) (par:Int) (bad:Int→Bool):Prop where
 res:res=bad (-1)
 par:∃p:Nat,p < 4294967296∧par=p∧∀c:Nat,c < 32→p.testBit c=bad c
end Go.AL
namespace Go.AL
open Go
def plainB (c:UInt8):Bool:=decide (33≤c.toNat∧c.toNat≤126∧c.toNat≠34∧c.toNat≠92)
def digs8:Str:=[48,49,50,51,52,53,54,55]
def octOf (c:UInt8):Str:=(digs8.drop (c.toNat / 64)).take 1++(digs8.drop (c.toNat / 8 % 8)).take 1++(digs8.drop (c.toNat % 8)).take 1
def escOf (c:UInt8):Str:=if c.toNat=34∨c.toNat=92 then [92,c] else if c.toNat=10 then [92,110] else if c.toNat=9 then [92,116] else if c.toNat < 32∨126 < c.toNat then 92::octOf c else [c]
def J51 (s:Str):Str:=if s≠[]∧s.all plainB=true then s else 34::((s.map escOf).flatten++[34])
def J52 (n:Int):Str:=if n < 0∨2147483647 < n then [] else Lib.itoa n
def H17 (a n:Int):Str:=if a < 0∨n < 0∨2147483647 < a∨2147483647 - a < n then [] else if n=0 then J52 a++[44,48] else if n=1 then J52 (a+1) else J52 (a+1)++[44]++J52 n
end Go.AL
namespace Go.AL
open Go
def Q4 (cur:Str):Str→List Str
 | []=>[cur]
 | c::r=>if c=10 then (cur++[c])::Q4 [] r else Q4 (cur++[c]) r
def T4 (b:Str):List Str:=Q4 [] b
theorem F99 (a cur:Str) (h:(10:UInt8)∉a):Q4 cur a=[cur++a]:=by
 induction a generalizing cur with
 | nil=>simp [Q4]
 | cons c r ih =>
  simp only [L23,not_or] at h
  rw [Q4,if_neg (fun e=>h.1 e.symm),ih _ h.2];simp
theorem H18 (a b cur:Str) (h:(10:UInt8)∉a):Q4 cur (a++10::b)=(cur++a++[10])::Q4 [] b:=by
 induction a generalizing cur with
 | nil=>simp [Q4]
 | cons c r ih =>
  simp only [L23,not_or] at h
  rw [L25,Q4,if_neg (fun e=>h.1 e.symm),ih _ h.2];simp
theorem i6 (s cur:Str):(Q4 cur s).length=s.count 10+1:=by
 induction s generalizing cur with
 | nil=>rfl
 | cons c r ih =>
  by_cases hc:c=10
  ·subst hc;rw [Q4,if_pos rfl,L04,ih,List.count_cons_self]
  ·rw [Q4,if_neg hc,ih,List.count_cons_of_ne hc]
theorem I10 (s cur:Str):L1 cur s=if (Q4 cur s).getLastD []=[] then (Q4 cur s).dropLast else Q4 cur s:=by
 induction s generalizing cur with
 | nil=>by_cases h:cur=[]<;>simp [L1,Q4,h]
 | cons c r ih =>
  rw [L1,Q4]
  by_cases hc:c=10
  ·rw [if_pos hc,if_pos hc,ih]
   have hn:Q4 [] r≠[]:=fun e=>by have:=i6 r [];rw [e] at this;simp at this
   obtain ⟨x,y,hxy⟩:=List.exists_cons_of_ne_nil hn
   rw [hxy]
   have e1:((cur++[c])::x::y).getLastD []=(x::y).getLastD []:=by cases y<;>simp [List.getLastD]
   rw [e1]
   split
   ·rfl
   ·rfl
  ·rw [if_neg hc,if_neg hc,ih]
theorem F49 (s cur:Str):(L1 cur s).length=s.count 10+if s=[] then (if cur=[] then 0 else 1) else if ended s=true then 0 else 1:=by
 induction s generalizing cur with
 | nil=>by_cases h:cur=[]<;>simp [L1,h]
 | cons c r ih =>
  have he:ended (c::r)=if r=[] then c == 10 else ended r:=by
   cases r with
   | nil=>simp [ended]
   | cons d t=>simp [ended,List.getLast?_cons_cons]
  rw [L1,if_neg (List.cons_ne_nil _ _),he]
  by_cases hc:c=10
  ·subst hc
   rw [if_pos rfl,L04,ih,List.count_cons_self]
   by_cases hr:r=[]<;>simp [hr]
   omega
  ·rw [if_neg hc,ih,List.count_cons_of_ne hc]
   by_cases hr:r=[]<;>simp [hr,hc]
theorem C87 (s:Str):(I6 s).length=s.count 10+if s≠[]∧ended s=false then 1 else 0:=by
 unfold I6
 rw [F49]
 by_cases hs:s=[]<;>simp [hs]
 cases ended s<;>simp
theorem J03 {P:List Str} {i:Nat} {r a b:Str} (h:P.drop i=T4 r) (hr:r=a++10::b) (ha:(10:UInt8)∉a):P[i]?=some (a++[10])∧P.drop (i+1)=T4 b:=by
 have e:T4 r=(a++[10])::T4 b:=by rw [hr];unfold T4;rw [H18 _ _ _ ha];rfl
 rw [e] at h
 refine ⟨by rw [←List.head?_drop,h];rfl,?_⟩
 rw [←List.tail_drop,h];rfl
theorem G45 {α:Type} (P:List α) (z x:α) (i:Nat) (h:P[i]?=some x):(P.take i++List.replicate (P.length - i) z).set i x=P.take (i+1)++List.replicate (P.length - (i+1)) z:=by
 obtain ⟨hi,hx⟩:=List.getElem?_eq_some_iff.1 h
 have hl:(P.take i).length=i:=by rw [L10];omega
 rw [List.set_append_right _ _ (by omega),hl,L42,show P.length - i=(P.length - (i+1))+1 by omega,List.replicate_succ,List.set_cons_zero,L35 hi,hx,L15]
 rfl
def j6 (b:Str):List Str × Int:=if b.length > 1048576∨(I6 b).length > 4096 then ([],1) else (I6 b,0)
end Go.AL
namespace Go.AL
open Go
def P8 (n:Int):Prop:=0≤n∧n≤4096
instance (n:Int):Decidable (P8 n):=by unfold P8;exact inferInstance
def badC (k:Nat) (i j:Int) (c:Change):Prop:=((((((¬P8 c.Old∨¬P8 c.OldLen)∨¬P8 c.New)∨¬P8 c.NewLen)∨c.OldLen+c.NewLen=0)∨c.Old - i≠c.New - j)∨c.Old < i)∨(0 < (k:Int)∧c.Old=i)
instance (k:Nat) (i j:Int) (c:Change):Decidable (badC k i j c):=by unfold badC;exact inferInstance
def S6 (k:Nat) (i j:Int):List Change→Int→Int→Bool
 | [],m,n=>decide (¬(m - i≠n - j∨m < i))
 | c::r,m,n=>decide (¬badC k i j c)&&S6 (k+1) (c.Old+c.OldLen) (c.New+c.NewLen) r m n
def check8 (l:List Change) (m n:Int):Int:=if ¬P8 m∨¬P8 n then 80 else if S6 0 0 0 l m n=true then 0 else 80
def ScOk (i j:Int):List Change→Int→Int→Prop
 | [],m,n=>i≤m∧j≤n
 | c::r,m,n=>P8 c.Old∧P8 c.OldLen∧P8 c.New∧P8 c.NewLen∧i≤c.Old∧j≤c.New∧ScOk (c.Old+c.OldLen) (c.New+c.NewLen) r m n
theorem C24:∀(l:List Change) (k:Nat) (i j m n:Int),S6 k i j l m n=true→ScOk i j l m n
 | [],k,i,j,m,n,h=>by simp only [S6,decide_eq_true_eq] at h;simp only [ScOk];omega
 | c::r,k,i,j,m,n,h=>by
  simp only [S6,L02,decide_eq_true_eq] at h
  obtain ⟨h1,h2⟩:=h
  unfold badC at h1
  refine ⟨?_,?_,?_,?_,?_,?_,C24 r _ _ _ m n h2⟩
  all_goals (by_cases a1:P8 c.Old<;>by_cases a2:P8 c.OldLen<;>by_cases a3:P8 c.New<;>by_cases a4:P8 c.NewLen<;>simp [a1,a2,a3,a4] at h1 ⊢<;>omega)
def cAt (l:List Change) (k:Nat):Change:=l.getD k ⟨0,0,0,0⟩
theorem ScOk.end_le:∀{l:List Change} {i j m n:Int},ScOk i j l m n→i≤m∧j≤n
 | [],_,_,_,_,h=>h
 | c::r,i,j,m,n,⟨h1,h2,h3,h4,h5,h6,h7⟩=>by have:=h7.end_le;unfold P8 at *;omega
theorem ScOk.get:∀{l:List Change} {i j m n:Int} (k:Nat),ScOk i j l m n→k < l.length→P8 (cAt l k).Old∧P8 (cAt l k).OldLen∧P8 (cAt l k).New∧P8 (cAt l k).NewLen∧(cAt l k).Old+(cAt l k).OldLen≤m∧(cAt l k).New+(cAt l k).NewLen≤n
 | c::r,i,j,m,n,0,⟨h1,h2,h3,h4,h5,h6,h7⟩,_=>by have:=h7.end_le;exact ⟨h1,h2,h3,h4,this.1,this.2⟩
 | c::r,i,j,m,n,k+1,⟨h1,h2,h3,h4,h5,h6,h7⟩,hk=>by
  have:=h7.get k (by simpa using hk)
  simpa [cAt] using this
theorem ScOk.next:∀{l:List Change} {i j m n:Int} (k:Nat),ScOk i j l m n→k+1 < l.length→(cAt l k).Old+(cAt l k).OldLen≤(cAt l (k+1)).Old
 | [c],_,_,_,_,_,_,hk=>by simp at hk
 | c::c2::r,i,j,m,n,0,⟨_,_,_,_,_,_,h7⟩,_=>by simpa [cAt] using h7.2.2.2.2.1
 | c::c2::r,i,j,m,n,k+1,⟨_,_,_,_,_,_,h7⟩,hk=>by
  have:=h7.next k (by simpa using hk)
  simpa [cAt] using this
theorem ScOk.mono {l:List Change} {m n:Int} (h:ScOk 0 0 l m n):∀(a b:Nat),a≤b→b < l.length→(cAt l a).Old≤(cAt l b).Old∧(cAt l a).Old+(cAt l a).OldLen≤(cAt l b).Old+(cAt l b).OldLen
 | a,0,h1,h2=>by rw [show a=0 by omega];omega
 | a,b+1,h1,h2=>by
  by_cases hab:a=b+1
  ·subst hab;omega
  ·have h3:=h.mono a b (by omega) (by omega)
   have h4:=h.next b h2
   have h5:=h.get b (by omega)
   have h6:=h.get (b+1) h2
   unfold P8 at *;omega
def H19 (a b:Int):Int:=if b < a then b else a
def opens (l:List Change) (ctx:Int) (k:Nat):Prop:=k=0∨2*ctx < (cAt l k).Old - (cAt l (k - 1)).Old - (cAt l (k - 1)).OldLen
instance (l:List Change) (ctx:Int) (k:Nat):Decidable (opens l ctx k):=by unfold opens;exact inferInstance
def J53:Hunk:=⟨0,0,⟨0,0⟩,⟨0,0⟩⟩
def B38 (l:List Change) (ctx:Int) (k:Nat):Hunk:=⟨k,0,⟨(cAt l k).Old - H19 ctx (cAt l k).Old,0⟩,⟨(cAt l k).New - H19 ctx (cAt l k).Old,0⟩⟩
def D54 (l:List Change) (m ctx:Int) (k:Nat) (h:Hunk):Hunk :=
 let c:=cAt l k
 let a:=H19 ctx (m - (c.Old+c.OldLen))
 ⟨h.First,k+1,⟨h.Old.From,c.Old+c.OldLen+a⟩,⟨h.New.From,c.New+c.NewLen+a⟩⟩
def D97 (l:List Change) (ctx:Int) (k:Nat) (out:List Hunk):List Hunk:=if opens l ctx k then out++[B38 l ctx k] else out
def c6 (l:List Change) (m ctx:Int):Nat→List Hunk
 | 0=>[]
 | k+1=>let out:=D97 l ctx k (c6 l m ctx k);out.set (out.length - 1) (D54 l m ctx k (out.getD (out.length - 1) J53))
theorem E39 (l:List Change) (m ctx:Int):∀k,(c6 l m ctx k).length≤k∧(0 < k→0 < (c6 l m ctx k).length)
 | 0=>by simp [c6]
 | k+1=>by
  have h:=E39 l m ctx k
  simp only [c6,L26,D97]
  split
  ·simp only [L06,L04,L09];omega
  ·rename_i ho
   have:k≠0:=fun e=>ho (.inl e)
   omega
end Go.AL
namespace Go.AL
open Go
def nameOk (s:Str):Bool:=decide (1≤s.length∧s.length≤200)
def I3 (ls:List PatchLine) (k:UInt8):List Str:=(ls.filter (fun x=>decide (x.Kind≠k))).map (·.Text)
def badLn (x:PatchLine):Prop:=((x.Kind≠32∧x.Kind≠45)∧x.Kind≠43)∨o6 x.Text=false
instance (x:PatchLine):Decidable (badLn x):=by unfold badLn;exact inferInstance
def D11 (x:PatchLine):Bool:=decide (¬badLn x)
def B19 (ls:List PatchLine):Bool:=ls.any (fun x=>decide (x.Kind≠32))
def D55 (some:Bool) (i j:Int) (h:PatchHunk):Prop:=((((some=false∨h.Old < i)∨h.New < j)∨4096 < h.Old)∨4096 < h.New)∨h.Old - i≠h.New - j
instance (s:Bool) (i j:Int) (h:PatchHunk):Decidable (D55 s i j h):=by unfold D55;exact inferInstance
def C61 (h:PatchHunk):Int:=(I3 h.Lines 43).length
def C62 (h:PatchHunk):Int:=(I3 h.Lines 45).length
def D98 (i j:Int):List PatchHunk→Bool
 | []=>true
 | h::r=>h.Lines.all D11&&(decide (¬D55 (B19 h.Lines) i j h)&&(decide (¬(4096 < h.Old+C61 h∨4096 < h.New+C62 h))&&D98 (h.Old+C61 h) (h.New+C62 h) r))
def P4 (hs:List PatchHunk) (k:UInt8):List Str:=(hs.map (fun h=>I3 h.Lines k)).flatten
def A21:List Str→Bool
 | []=>true
 | x::r=>(r.isEmpty||ended x)&&A21 r
def J04 (hs:List PatchHunk) (k:UInt8):Bool:=A21 (P4 hs k)
def D99 (hs:List PatchHunk):Bool:=D98 0 0 hs&&(J04 hs 43&&J04 hs 45)
def markS:Str:=[10,92,32,78,111,32,110,101,119,108,105,110,101,32,97,116,32,101,110,100,32,111,102,32,102,105,108,101,10]
def linePs (x:PatchLine):List Str:=if ended x.Text then [[x.Kind]++x.Text] else [[x.Kind]++x.Text,markS]
def headW (h:PatchHunk):Str:=[64,64,32,45]++H17 h.Old (C61 h)++[32,43]++H17 h.New (C62 h)++[32,64,64,10]
def hunkPs (h:PatchHunk):List Str:=headW h::(h.Lines.map linePs).flatten
def namePs (p:Patch):List Str:=[[45,45,45,32]++J51 p.OldName++[10],[43,43,43,32]++J51 p.NewName++[10]]
def writePs (p:Patch):List Str:=namePs p++(p.Hunks.map hunkPs).flatten
def J54 (p:Patch):Str:=(writePs p).flatten
def D56 (p:Patch):Int:=if nameOk p.OldName=false∨nameOk p.NewName=false then 120 else if D99 p.Hunks=false then 121 else if 16777216 < (J54 p).length then 1 else 0
def szL (x:PatchLine):Nat:=x.Text.length+64
def szH (h:PatchHunk):Nat:=64+(h.Lines.map szL).sum
def szP (hs:List PatchHunk):Nat:=(hs.map szH).sum
structure PFit (p:Patch):Prop where
 old:p.OldName.length≤4194304
 new:p.NewName.length≤4194304
 hunks:szP p.Hunks≤268435456
theorem szL_len (ls:List PatchLine):64*ls.length≤(ls.map szL).sum:=by
 induction ls with
 | nil=>simp
 | cons x r ih=>simp only [L16,L53,L04,szL];omega
end Go.AL
namespace Go.AL
open Go
def A96 (k:UInt8) (ts:List Str):List PatchLine:=ts.map fun t=>⟨k,t⟩
def sub (x:List Str) (a b:Int):List Str:=(x.drop a.toNat).take (b.toNat - a.toNat)
def B89 (c:Change):Int:=c.Old+c.OldLen
def A97 (l:List Change) (i0:Int) (a t:Nat):Int:=if t=0 then i0 else B89 (cAt l (a+t - 1))
theorem J05 (l:List Change) (i0:Int) (a t:Nat):A97 l i0 a (t+1)=B89 (cAt l (a+t)):=by
 unfold A97;rw [if_neg (by omega)];congr 2
def A27 (l:List Change) (x y:List Str) (i0:Int) (a:Nat):Nat→List PatchLine
 | 0=>[]
 | t+1=>A27 l x y i0 a t++A96 32 (sub x (A97 l i0 a t) (cAt l (a+t)).Old)++A96 45 (sub x (cAt l (a+t)).Old (B89 (cAt l (a+t))))++A96 43 (sub y (cAt l (a+t)).New ((cAt l (a+t)).New+(cAt l (a+t)).NewLen))
def n6 (l:List Change) (x y:List Str) (h:Hunk):PatchHunk :=
 ⟨h.Old.From,h.New.From,A27 l x y h.Old.From h.First.toNat (h.Last.toNat - h.First.toNat)++A96 32 (sub x (A97 l h.Old.From h.First.toNat (h.Last.toNat - h.First.toNat)) h.Old.To)⟩
end Go.AL
namespace Go.AL
open Go
end Go.AL
namespace Go.AL
open Go
def I11 (i j:Int) (h:PatchHunk):Prop:=((((h.Old < 0∨h.New < 0)∨4096 < h.Old)∨4096 < h.New)∨h.Old < i)∨h.Old - i≠h.New - j
instance (i j:Int) (h:PatchHunk):Decidable (I11 i j h):=by unfold I11;exact inferInstance
end Go.AL
namespace Go.AL
open Go
theorem I12 (b s:Str) (h:s∈I6 b):s.length≤b.length:=by
 have h1:(I6 b).flatten=b:=by
  have key:∀(s cur:Str),(L1 cur s).flatten=cur++s:=by
   intro s
   induction s with
   | nil=>intro cur;unfold L1;split<;>simp [*]
   | cons c r ih=>intro cur;unfold L1;split<;>simp [ih]
  exact key b []
 have h2:∀(l:List Str),s∈l→s.length≤l.flatten.length:=by
  intro l
  induction l with
  | nil=>intro h;cases h
  | cons x r ih =>
   intro h
   rcases List.mem_cons.1 h with rfl | h
   ·simp
   ·have:=ih h;simp only [L36,L06];omega
 have:=h2 _ h;rw [h1] at this;exact this
end Go.AL
namespace Go.AL
open Go
theorem E70 {x:List Str} {a b:Int} {s:Str} (h:s∈sub x a b):s∈x:=by
 unfold sub at h
 exact List.mem_of_mem_drop (List.mem_of_mem_take h)
end Go.AL
namespace Go.AL
open Go
def H20 (c:Change):Int:=c.New+c.NewLen
def eoI (i:Int) (l:List Change) (k:Nat):Int:=if k=0 then i else B89 (cAt l (k - 1))
def enI (j:Int) (l:List Change) (k:Nat):Int:=if k=0 then j else H20 (cAt l (k - 1))
theorem A22 (i:Int) (c:Change) (r:List Change) (k:Nat):eoI i (c::r) (k+1)=eoI (B89 c) r k:=by
 cases k<;>rfl
theorem A23 (j:Int) (c:Change) (r:List Change) (k:Nat):enI j (c::r) (k+1)=enI (H20 c) r k:=by
 cases k<;>rfl
theorem C25 (i:Int) (l:List Change) (k:Nat):eoI i l (k+1)=B89 (cAt l k):=rfl
theorem C26 (j:Int) (l:List Change) (k:Nat):enI j l (k+1)=H20 (cAt l k):=rfl
theorem D57 (c:Change) (r:List Change) (k:Nat):cAt (c::r) (k+1)=cAt r k:=rfl
def E00 (x y:List Str) (i j:Int):List Change→Prop
 | []=>sub x i x.length=sub y j y.length
 | c::r=>sub x i c.Old=sub y j c.New∧E00 x y (B89 c) (H20 c) r
theorem A63 (m n:Int):∀(l:List Change) (k0:Nat) (i j:Int),S6 k0 i j l m n=true→∀k,k < l.length →
  P8 (cAt l k).Old∧P8 (cAt l k).OldLen∧P8 (cAt l k).New∧P8 (cAt l k).NewLen∧(cAt l k).OldLen+(cAt l k).NewLen≠0∧(cAt l k).Old - eoI i l k=(cAt l k).New - enI j l k∧eoI i l k≤(cAt l k).Old∧(0 < k0+k→eoI i l k < (cAt l k).Old)
 | [],_,_,_,_,k,hk=>by simp at hk
 | c :: r,k0,i,j,h,k,hk=>by
  simp only [S6,L02,decide_eq_true_eq] at h
  obtain ⟨h1,h2⟩:=h
  cases k with
  | zero =>
   unfold badC at h1
   show P8 c.Old∧P8 c.OldLen∧P8 c.New∧P8 c.NewLen∧c.OldLen+c.NewLen≠0∧c.Old - i=c.New - j∧i≤c.Old∧(0 < k0+0→i < c.Old)
   have d1:P8 c.Old:=by by_cases q:P8 c.Old;exact q;exact absurd (.inl (.inl (.inl (.inl (.inl (.inl (.inl q))))))) h1
   have d2:P8 c.OldLen:=by by_cases q:P8 c.OldLen;exact q;exact absurd (.inl (.inl (.inl (.inl (.inl (.inl (.inr q))))))) h1
   have d3:P8 c.New:=by by_cases q:P8 c.New;exact q;exact absurd (.inl (.inl (.inl (.inl (.inl (.inr q)))))) h1
   have d4:P8 c.NewLen:=by by_cases q:P8 c.NewLen;exact q;exact absurd (.inl (.inl (.inl (.inl (.inr q))))) h1
   refine ⟨d1,d2,d3,d4,fun q=>h1 (.inl (.inl (.inl (.inr q)))),?_,?_,fun h0=>?_⟩
   ·by_cases q:c.Old - i=c.New - j
    ·exact q
    ·exact absurd (.inl (.inl (.inr q))) h1
   ·by_cases q:c.Old < i
    ·exact absurd (.inl (.inr q)) h1
    ·omega
   ·by_cases q:c.Old < i
    ·exact absurd (.inl (.inr q)) h1
    ·by_cases q2:c.Old=i
     ·exact absurd (.inr ⟨by omega,q2⟩) h1
     ·omega
  | succ k =>
   have:=A63 m n r (k0+1) _ _ h2 k (by simpa using hk)
   rw [D57,A22,A23]
   obtain ⟨e1,e2,e3,e4,e5,e6,e7,e8⟩:=this
   exact ⟨e1,e2,e3,e4,e5,e6,e7,fun h0=>e8 (by omega)⟩
theorem J06 (m n:Int):∀(l:List Change) (k0:Nat) (i j:Int),S6 k0 i j l m n=true→m - eoI i l l.length=n - enI j l l.length∧eoI i l l.length≤m
 | [],_,i,j,h=>by
  simp only [S6,decide_eq_true_eq] at h
  show m - i=n - j∧i≤m
  omega
 | c::r,k0,i,j,h=>by
  simp only [S6,L02,decide_eq_true_eq] at h
  rw [L04,A22,A23]
  exact J06 m n r _ _ _ h.2
theorem H21 (x y:List Str):∀(l:List Change) (i j:Int),E00 x y i j l→∀k,k < l.length→sub x (eoI i l k) (cAt l k).Old=sub y (enI j l k) (cAt l k).New
 | [],_,_,_,k,hk=>by simp at hk
 | c::r,i,j,h,k,hk=>by
  cases k with
  | zero=>exact h.1
  | succ k=>rw [A22,A23,D57];exact H21 x y r _ _ h.2 k (by simpa using hk)
theorem J07 (x y:List Str):∀(l:List Change) (i j:Int),E00 x y i j l→sub x (eoI i l l.length) x.length=sub y (enI j l l.length) y.length
 | [],_,_,h=>h
 | c::r,i,j,h=>by rw [L04,A22,A23];exact J07 x y r _ _ h.2
def mkH (l:List Change) (m ctx:Int) (a b:Nat):Hunk:=D54 l m ctx (b - 1) (B38 l ctx a)
def GrOk (l:List Change) (m ctx:Int):Nat→List Hunk→Nat→Prop
 | a,[],k=>a=k
 | a,h::r,k=>∃b,a < b∧opens l ctx a∧h=mkH l m ctx a b∧GrOk l m ctx b r k
theorem GrOk.le {l:List Change} {m ctx:Int}:∀{hs:List Hunk} {a k:Nat},GrOk l m ctx a hs k→a≤k
 | [],a,k,h=>Nat.le_of_eq h
 | _::_,a,k,⟨b,h1,_,_,h2⟩=>by have:=GrOk.le h2;omega
theorem GrOk.snoc {l:List Change} {m ctx:Int} {k:Nat} (ho:opens l ctx k):∀{hs:List Hunk} {a:Nat},GrOk l m ctx a hs k→GrOk l m ctx a (hs++[mkH l m ctx k (k+1)]) (k+1)
 | [],a,h=>by
  obtain rfl:a=k:=h
  exact ⟨a+1,by omega,ho,rfl,rfl⟩
 | _::_,a,⟨b,h1,h2,h3,h4⟩=>⟨b,h1,h2,h3,GrOk.snoc ho h4⟩
theorem GrOk.last {l:List Change} {m ctx:Int} {k:Nat}:∀{hs:List Hunk} {a:Nat},GrOk l m ctx a hs k→hs≠[]→GrOk l m ctx a (hs.set (hs.length - 1) (D54 l m ctx k (hs.getD (hs.length - 1) J53))) (k+1)
 | [],_,_,h0=>absurd rfl h0
 | [h],a,⟨b,h1,h2,h3,h4⟩,_=>by
  obtain rfl:b=k:=h4
  subst h3
  exact ⟨b+1,by omega,h2,rfl,rfl⟩
 | h::h'::r,a,⟨b,h1,h2,h3,h4⟩,_=>by
  have ih:=GrOk.last h4 (by simp)
  refine ⟨b,h1,h2,h3,?_⟩
  simpa using ih
theorem B66 (l:List Change) (m ctx:Int):∀k,GrOk l m ctx 0 (c6 l m ctx k) k
 | 0=>rfl
 | k+1=>by
  have ih:=B66 l m ctx k
  have hne:=(E39 l m ctx k).2
  simp only [c6,D97]
  by_cases ho:opens l ctx k
  ·rw [if_pos ho]
   have e:(c6 l m ctx k++[B38 l ctx k]).set ((c6 l m ctx k++[B38 l ctx k]).length - 1) (D54 l m ctx k ((c6 l m ctx k++[B38 l ctx k]).getD ((c6 l m ctx k++[B38 l ctx k]).length - 1) J53))=c6 l m ctx k++[mkH l m ctx k (k+1)]:=by
    simp [mkH]
   rw [e]
   exact ih.snoc ho
  ·rw [if_neg ho]
   refine ih.last ?_
   have:k≠0:=fun e=>ho (.inl e)
   have:=hne (by omega)
   intro e;rw [e] at this;simp at this
theorem B67 (x:List Str) {a b c:Int} (h0:0≤a) (h1:a≤b) (h2:b≤c):sub x a b++sub x b c=sub x a c:=by
 unfold sub
 obtain ⟨u,rfl⟩:∃u:Nat,(u:Int)=a:=⟨a.toNat,by omega⟩
 obtain ⟨v,rfl⟩:∃v:Nat,(v:Int)=b:=⟨b.toNat,by omega⟩
 obtain ⟨w,rfl⟩:∃w:Nat,(w:Int)=c:=⟨c.toNat,by omega⟩
 simp only [L03]
 have h3:x.drop v=(x.drop u).drop (v - u):=by rw [List.drop_drop];congr 1;omega
 rw [h3,show w - u=(v - u)+(w - v) by omega,List.take_add]
theorem J55 (x:List Str) (a:Int):sub x a a=[]:=by simp [sub]
theorem B68 (x:List Str) {a b:Int} (h0:0≤a) (h1:a≤b) (h2:b≤x.length):((sub x a b).length:Int)=b - a:=by
 unfold sub;rw [L10,L12];omega
theorem F50 {x y:List Str} {p q p' q' e:Int} (h:sub x p q=sub y p' q') (h0:0≤p) (h0':0≤p') (he:0≤e) (h1:e≤q - p) (h2:q - p=q' - p'):sub x (q - e) q=sub y (q' - e) q':=by
 have key:∀(z:List Str) (a b:Int),0≤a→e≤b - a→sub z (b - e) b=(sub z a b).drop (b - a - e).toNat:=by
  intro z a b ha hb
  unfold sub
  rw [List.drop_take,List.drop_drop]
  congr 1
  ·omega
  ·congr 1;omega
 rw [key x p q h0 h1,key y p' q' h0' (by omega),h,h2]
theorem I13 {x y:List Str} {p q p' q' e:Int} (h:sub x p q=sub y p' q') (h0:0≤p) (h0':0≤p') (he:0≤e) (h1:e≤q - p) (h2:q - p=q' - p'):sub x p (p+e)=sub y p' (p'+e):=by
 have key:∀(z:List Str) (a b:Int),0≤a→e≤b - a→sub z a (a+e)=(sub z a b).take e.toNat:=by
  intro z a b ha hb
  unfold sub
  rw [List.take_take]
  congr 1
  omega
 rw [key x p q h0 h1,key y p' q' h0' (by omega),h]
theorem B69 (p q:List PatchLine) (k:UInt8):I3 (p++q) k=I3 p k++I3 q k:=by simp [I3]
theorem B70 (k k':UInt8) (ts:List Str):I3 (A96 k ts) k'=if k=k' then [] else ts:=by
 unfold I3 A96
 by_cases h:k=k'
 ·rw [if_pos h];subst h
  simp [List.filter_eq_nil_iff]
 ·rw [if_neg h]
  rw [List.filter_eq_self.2 (by simp [h])]
  simp [Function.comp_def]
structure ScFit (x y:List Str) (l:List Change):Prop where
 lx:(x.length:Int)≤4096
 ly:(y.length:Int)≤4096
 sc:S6 0 0 0 l x.length y.length=true
 eq:E00 x y 0 0 l
section
variable {x y:List Str} {l:List Change}
theorem ScFit.ok (h:ScFit x y l):ScOk 0 0 l x.length y.length:=C24 _ _ _ _ _ _ h.sc
theorem ScFit.check (h:ScFit x y l):check8 l x.length y.length=0:=by
 have h1:=h.lx
 have h2:=h.ly
 unfold check8
 rw [if_neg (by unfold P8;omega),if_pos h.sc]
theorem ScFit.nn (h:ScFit x y l) (k:Nat) (hk:k≤l.length):0≤eoI 0 l k∧0≤enI 0 l k∧eoI 0 l k≤x.length∧enI 0 l k≤y.length:=by
 cases k with
 | zero=>exact ⟨Int.le_refl _,Int.le_refl _,Int.natCast_nonneg _,Int.natCast_nonneg _⟩
 | succ k =>
  obtain ⟨⟨a1,a2⟩,⟨b1,b2⟩,⟨c1,c2⟩,⟨d1,d2⟩,h5,h6⟩:=h.ok.get k (by omega)
  rw [C25,C26];unfold B89 H20
  omega
def eA (l:List Change) (ctx:Int) (a:Nat):Int:=H19 ctx (cAt l a).Old
def eB (l:List Change) (m ctx:Int) (b:Nat):Int:=H19 ctx (m - eoI 0 l b)
theorem J56 {a b:Int} (h:0≤a) (h':0≤b):0≤H19 a b∧H19 a b≤a∧H19 a b≤b:=by unfold H19;split<;>omega
theorem E01 {ctx:Int} {a:Nat} (ho:opens l ctx a) (ha:a≠0):2*ctx < (cAt l a).Old - eoI 0 l a:=by
 rcases ho with h | h
 ·exact absurd h ha
 ·unfold eoI;rw [if_neg ha];unfold B89;omega
theorem ScFit.before (h:ScFit x y l) {ctx:Int} (hc:0≤ctx) {a:Nat} (ha:a < l.length) (ho:opens l ctx a) :
  0≤eA l ctx a∧eA l ctx a≤ctx∧eA l ctx a≤(cAt l a).Old - eoI 0 l a:=by
 obtain ⟨⟨a1,a2⟩,_⟩:=h.ok.get a ha
 have h3:=J56 hc a1
 unfold eA
 by_cases h0:a=0
 ·subst h0
  show _∧_∧_≤(cAt l 0).Old - 0
  omega
 ·have:=E01 ho h0;omega
theorem ScFit.after (h:ScFit x y l) {ctx:Int} (hc:0≤ctx) {b:Nat} (hb:b≤l.length) (ho:b < l.length→opens l ctx b) (hb0:b≠0) :
  0≤eB l x.length ctx b∧eB l x.length ctx b≤ctx∧eoI 0 l b+eB l x.length ctx b≤x.length∧enI 0 l b+eB l x.length ctx b≤y.length ∧
   sub x (eoI 0 l b) (eoI 0 l b+eB l x.length ctx b)=sub y (enI 0 l b) (enI 0 l b+eB l x.length ctx b):=by
 obtain ⟨h1,h2,h3,h4⟩:=h.nn b hb
 have h5:=J56 hc (show 0≤(x.length:Int) - eoI 0 l b by omega)
 unfold eB
 rcases Nat.lt_or_ge b l.length with hlt | hge
 ·obtain ⟨g1,g2,g3,g4,g5,g6,g7,g8⟩:=A63 _ _ _ _ _ _ h.sc b hlt
  obtain ⟨⟨a1,a2⟩,⟨b1,b2⟩,⟨c1,c2⟩,⟨d1,d2⟩,k5,k6⟩:=h.ok.get b hlt
  have hg:=E01 (ho hlt) hb0
  refine ⟨h5.1,h5.2.1,by omega,by omega,I13 (H21 x y l 0 0 h.eq b hlt) h1 h2 h5.1 (by omega) (by omega)⟩
 ·have e:b=l.length:=by omega
  subst e
  obtain ⟨g1,g2⟩:=J06 _ _ _ _ _ _ h.sc
  refine ⟨h5.1,h5.2.1,by omega,by omega,I13 (J07 x y l 0 0 h.eq) h1 h2 h5.1 (by omega) (by omega)⟩
def H22 (l:List Change) (j0:Int) (a t:Nat):Int:=if t=0 then j0 else H20 (cAt l (a+t - 1))
theorem F51 (i0:Int) (a t:Nat) (ht:t≠0):A97 l i0 a t=eoI 0 l (a+t):=by
 unfold A97 eoI;rw [if_neg ht,if_neg (by omega)]
theorem J57 (j0:Int) (a t:Nat) (ht:t≠0):H22 l j0 a t=enI 0 l (a+t):=by
 unfold H22 enI;rw [if_neg ht,if_neg (by omega)]
theorem ScFit.made (h:ScFit x y l) {ctx:Int} (hc:0≤ctx) {a:Nat} (ho:opens l ctx a):∀t,a+t≤l.length→(t=0→a < l.length) →
  I3 (A27 l x y ((cAt l a).Old - eA l ctx a) a t) 43=sub x ((cAt l a).Old - eA l ctx a) (A97 l ((cAt l a).Old - eA l ctx a) a t) ∧
  I3 (A27 l x y ((cAt l a).Old - eA l ctx a) a t) 45=sub y ((cAt l a).New - eA l ctx a) (H22 l ((cAt l a).New - eA l ctx a) a t)
 | 0,_,_=>by
  unfold A97 H22
  rw [if_pos rfl,if_pos rfl,J55,J55]
  exact ⟨rfl,rfl⟩
 | t + 1,hl,_=>by
  have hlt:a+t < l.length:=by omega
  have hla:a < l.length:=by omega
  obtain ⟨ih1,ih2⟩:=ScFit.made h hc ho t (by omega) (fun _=>hla)
  obtain ⟨q1,q2,q3⟩:=h.before hc hla ho
  obtain ⟨p1,p2,p3,p4⟩:=h.nn (a+t) (by omega)
  obtain ⟨r1,r2,r3,r4⟩:=h.nn a (by omega)
  obtain ⟨g1,g2,g3,g4,g5,g6,g7,g8⟩:=A63 _ _ _ _ _ _ h.sc (a+t) hlt
  obtain ⟨k1,⟨k2,k2'⟩,k3,⟨k4,k4'⟩,k5,k6,k7,k8⟩:=A63 _ _ _ _ _ _ h.sc a hla
  obtain ⟨⟨a1,a2⟩,⟨b1,b2⟩,⟨c1,c2⟩,⟨d1,d2⟩,w5,w6⟩:=h.ok.get (a+t) hlt
  have hrun:sub x (A97 l ((cAt l a).Old - eA l ctx a) a t) (cAt l (a+t)).Old=sub y (H22 l ((cAt l a).New - eA l ctx a) a t) (cAt l (a+t)).New ∧
    (cAt l a).Old - eA l ctx a≤A97 l ((cAt l a).Old - eA l ctx a) a t∧A97 l ((cAt l a).Old - eA l ctx a) a t≤(cAt l (a+t)).Old ∧
    (cAt l a).New - eA l ctx a≤H22 l ((cAt l a).New - eA l ctx a) a t∧H22 l ((cAt l a).New - eA l ctx a) a t≤(cAt l (a+t)).New:=by
   have hrun:=H21 x y l 0 0 h.eq (a+t) hlt
   by_cases ht:t=0
   ·subst ht
    unfold A97 H22
    rw [if_pos rfl,if_pos rfl]
    rw [show a+0=a from rfl] at *
    exact ⟨F50 hrun r1 r2 q1 (by omega) (by omega),by omega,by omega,by omega,by omega⟩
   ·rw [F51 _ _ _ ht,J57 _ _ _ ht]
    have m1:=h.ok.mono a (a+t - 1) (by omega) (by omega)
    have m2:eoI 0 l (a+t)=(cAt l (a+t - 1)).Old+(cAt l (a+t - 1)).OldLen:=by unfold eoI;rw [if_neg (by omega)];rfl
    have m4:∀u,u≤t→(cAt l a).New≤enI 0 l (a+u)∨u=0:=by
     intro u
     induction u with
     | zero=>exact fun _=>.inr rfl
     | succ u ihu =>
      intro hu
      obtain ⟨e1,e2,⟨e3,e3'⟩,⟨e4,e4'⟩,e5,e6,e7,e8⟩:=A63 _ _ _ _ _ _ h.sc (a+u) (by omega)
      have e9:enI 0 l (a+(u+1))=(cAt l (a+u)).New+(cAt l (a+u)).NewLen:=rfl
      rcases ihu (by omega) with h' | h'
      ·left;omega
      ·left;subst h';rw [e9];show (cAt l a).New≤(cAt l a).New+(cAt l a).NewLen;exact Int.le_add_of_nonneg_right e4
    have m5:=(m4 t (Nat.le_refl _)).resolve_right ht
    refine ⟨hrun,by omega,by omega,by omega,by omega⟩
  obtain ⟨hr1,hr2,hr3,hr4,hr5⟩:=hrun
  simp (decide:=true) only [A27,B69,B70,ih1,ih2,if_true,if_false,L29]
  have e1:A97 l ((cAt l a).Old - eA l ctx a) a (t+1)=B89 (cAt l (a+t)):=J05 _ _ _ _
  have e2:H22 l ((cAt l a).New - eA l ctx a) a (t+1)=H20 (cAt l (a+t)):=rfl
  rw [e1,e2]
  have s0:0≤(cAt l a).Old - eA l ctx a:=by omega
  have s1:0≤(cAt l a).New - eA l ctx a:=by omega
  refine ⟨?_,?_⟩
  ·rw [B67 x s0 hr2 hr3,B67 x s0 (by omega) (by unfold B89;omega)]
  ·rw [hr1,B67 y s1 hr4 hr5]
   exact B67 y s1 (by omega) (by omega)
end
end Go.AL
namespace Go.AL
open Go
section
variable {x y:List Str} {l:List Change}
structure HunkIs (x y:List Str) (l:List Change) (ctx:Int) (a b:Nat) (h:PatchHunk):Prop where
 old:h.Old=(cAt l a).Old - eA l ctx a
 new:h.New=(cAt l a).New - eA l ctx a
 o0:0≤h.Old
 n0:0≤h.New
 oe:h.Old+C61 h=eoI 0 l b+eB l x.length ctx b
 ne:h.New+C62 h=enI 0 l b+eB l x.length ctx b
 ox:h.Old+C61 h≤x.length
 ny:h.New+C62 h≤y.length
 ol:I3 h.Lines 43=sub x h.Old (h.Old+C61 h)
 nl:I3 h.Lines 45=sub y h.New (h.New+C62 h)
 ch:B19 h.Lines=true
 gl:(∀s∈x,o6 s=true)→(∀s∈y,o6 s=true)→h.Lines.all D11=true
theorem F52 (p q:List PatchLine):B19 (p++q)=(B19 p||B19 q):=by simp [B19]
theorem F53 {k:UInt8} {ts:List Str} (hk:k≠32) (h:ts≠[]):B19 (A96 k ts)=true:=by
 cases ts with
 | nil=>exact absurd rfl h
 | cons t ts=>simp [B19,A96,hk]
theorem B71 {k:UInt8} {ts:List Str} (hk:k=32∨k=45∨k=43) (h:∀t∈ts,o6 t=true):(A96 k ts).all D11=true:=by
 rw [List.all_eq_true]
 intro q hq
 unfold A96 at hq
 obtain ⟨t,ht,rfl⟩:=List.mem_map.1 hq
 unfold D11
 refine decide_eq_true ?_
 rintro (⟨⟨h1,h2⟩,h3⟩ | h1)
 ·rcases hk with e | e | e
  ·exact h1 e
  ·exact h2 e
  ·exact h3 e
 ·rw [show (PatchLine.mk k t).Text=t from rfl,h t ht] at h1;cases h1
theorem E40 (hx:∀s∈x,o6 s=true) (hy:∀s∈y,o6 s=true) (i0:Int) (a:Nat):∀t,(A27 l x y i0 a t).all D11=true
 | 0=>rfl
 | t+1=>by
  simp only [A27,L43,E40 hx hy i0 a t,Bool.true_and,L02]
  exact ⟨⟨B71 (.inl rfl) (fun s hs=>hx s (E70 hs)),B71 (.inr (.inl rfl)) (fun s hs=>hx s (E70 hs))⟩,B71 (.inr (.inr rfl)) (fun s hs=>hy s (E70 hs))⟩
theorem ScFit.hunk (h:ScFit x y l) {ctx:Int} (hc:0≤ctx) {a b:Nat} (hab:a < b) (hb:b≤l.length) (ho:opens l ctx a) (hob:b < l.length→opens l ctx b) :
  HunkIs x y l ctx a b (n6 l x y (mkH l x.length ctx a b)):=by
 have hla:a < l.length:=by omega
 obtain ⟨q1,q2,q3⟩:=h.before hc hla ho
 obtain ⟨w1,w2,w3,w4,w5⟩:=h.after hc hb hob (by omega)
 obtain ⟨m1,m2⟩:=h.made hc ho (b - a) (by omega) (fun e=>by omega)
 rw [F51 _ _ _ (by omega)] at m1
 rw [J57 _ _ _ (by omega)] at m2
 rw [show a+(b - a)=b by omega] at m1 m2
 obtain ⟨r1,r2,r3,r4⟩:=h.nn a (by omega)
 obtain ⟨s1,s2,s3,s4⟩:=h.nn b hb
 obtain ⟨k1,⟨k2,k2'⟩,k3,⟨k4,k4'⟩,k5,k6,k7,k8⟩:=A63 _ _ _ _ _ _ h.sc a hla
 have hlb:b - 1 < l.length:=by omega
 obtain ⟨g1,⟨g2,g2'⟩,g3,⟨g4,g4'⟩,g5,g6,g7,g8⟩:=A63 _ _ _ _ _ _ h.sc (b - 1) hlb
 have eo:eoI 0 l b=(cAt l (b - 1)).Old+(cAt l (b - 1)).OldLen:=by unfold eoI;rw [if_neg (by omega)];rfl
 have en:enI 0 l b=(cAt l (b - 1)).New+(cAt l (b - 1)).NewLen:=by unfold enI;rw [if_neg (by omega)];rfl
 have mo:=h.ok.mono a (b - 1) (by omega) (by omega)
 have mn:(cAt l a).New≤enI 0 l b:=by
  have m4:∀u,a+u≤l.length→(cAt l a).New≤enI 0 l (a+u)∨u=0:=by
   intro u
   induction u with
   | zero=>exact fun _=>.inr rfl
   | succ u ihu =>
    intro hu
    obtain ⟨e1,e2,⟨e3,e3'⟩,⟨e4,e4'⟩,e5,e6,e7,e8⟩:=A63 _ _ _ _ _ _ h.sc (a+u) (by omega)
    have e9:enI 0 l (a+(u+1))=(cAt l (a+u)).New+(cAt l (a+u)).NewLen:=rfl
    rcases ihu (by omega) with h' | h'
    ·left;omega
    ·left;subst h';rw [e9];show (cAt l a).New≤(cAt l a).New+(cAt l a).NewLen;exact Int.le_add_of_nonneg_right e4
  have:=(m4 (b - a) (by omega)).resolve_right (by omega)
  rwa [show a+(b - a)=b by omega] at this
 have hF:(mkH l x.length ctx a b).First.toNat=a:=by show ((a:Int)).toNat=a;omega
 have hL:(mkH l x.length ctx a b).Last.toNat - (mkH l x.length ctx a b).First.toNat=b - a:=by
  show (((b - 1:Nat):Int)+1).toNat - ((a:Int)).toNat=b - a;omega
 have hOF:(mkH l x.length ctx a b).Old.From=(cAt l a).Old - eA l ctx a:=rfl
 have hNF:(mkH l x.length ctx a b).New.From=(cAt l a).New - eA l ctx a:=rfl
 have hOT:(mkH l x.length ctx a b).Old.To=eoI 0 l b+eB l x.length ctx b:=by
  unfold eB;rw [eo];rfl
 obtain ⟨P,hP⟩:∃P,P=n6 l x y (mkH l x.length ctx a b):=⟨_,rfl⟩
 have hPl:P.Lines=A27 l x y ((cAt l a).Old - eA l ctx a) a (b - a)++A96 32 (sub x (eoI 0 l b) (eoI 0 l b+eB l x.length ctx b)):=by
  rw [hP];unfold n6
  show A27 l x y _ (mkH l x.length ctx a b).First.toNat ((mkH l x.length ctx a b).Last.toNat - (mkH l x.length ctx a b).First.toNat)++A96 32 (sub x (A97 l _ (mkH l x.length ctx a b).First.toNat ((mkH l x.length ctx a b).Last.toNat - (mkH l x.length ctx a b).First.toNat)) _)=_
  rw [hL,hF,hOF,hOT,F51 _ _ _ (by omega),show a+(b - a)=b by omega]
 have hPO:P.Old=(cAt l a).Old - eA l ctx a:=by rw [hP];rfl
 have hPN:P.New=(cAt l a).New - eA l ctx a:=by rw [hP];rfl
 have h43:I3 P.Lines 43=sub x ((cAt l a).Old - eA l ctx a) (eoI 0 l b+eB l x.length ctx b):=by
  rw [hPl,B69,B70,if_neg (by decide),m1]
  exact B67 x (by omega) (by omega) (by omega)
 have h45:I3 P.Lines 45=sub y ((cAt l a).New - eA l ctx a) (enI 0 l b+eB l x.length ctx b):=by
  rw [hPl,B69,B70,if_neg (by decide),m2,w5]
  exact B67 y (by omega) (by omega) (by omega)
 have hon:C61 P=eoI 0 l b+eB l x.length ctx b - ((cAt l a).Old - eA l ctx a):=by
  unfold C61;rw [h43];exact B68 x (by omega) (by omega) (by omega)
 have hnn:C62 P=enI 0 l b+eB l x.length ctx b - ((cAt l a).New - eA l ctx a):=by
  unfold C62;rw [h45];exact B68 y (by omega) (by omega) (by omega)
 rw [←hP]
 refine ⟨hPO,hPN,by omega,by omega,by omega,by omega,by omega,by omega,?_,?_,?_,?_⟩
 ·rw [h43];congr 1
  ·exact hPO.symm
  ·omega
 ·rw [h45];congr 1
  ·exact hPN.symm
  ·omega
 ·rw [hPl,F52]
  have e:A27 l x y ((cAt l a).Old - eA l ctx a) a (b - a)=A27 l x y ((cAt l a).Old - eA l ctx a) a (b - 1 - a+1):=by congr 1;omega
  rw [e]
  simp only [A27,F52]
  rw [show a+(b - 1 - a)=b - 1 by omega]
  have key:B19 (A96 45 (sub x (cAt l (b - 1)).Old (B89 (cAt l (b - 1)))))=true∨B19 (A96 43 (sub y (cAt l (b - 1)).New ((cAt l (b - 1)).New+(cAt l (b - 1)).NewLen)))=true:=by
   obtain ⟨g3a,g3b⟩:=g3
   obtain ⟨g1a,g1b⟩:=g1
   by_cases h0:(cAt l (b - 1)).OldLen=0
   ·right
    refine F53 (by decide) fun e0=>?_
    have:=B68 y (a:=(cAt l (b - 1)).New) (b:=(cAt l (b - 1)).New+(cAt l (b - 1)).NewLen) g3a (by omega) (by omega)
    rw [e0] at this;simp at this;omega
   ·left
    refine F53 (by decide) fun e0=>?_
    have:=B68 x (a:=(cAt l (b - 1)).Old) (b:=B89 (cAt l (b - 1))) g1a (by unfold B89;omega) (by unfold B89;omega)
    rw [e0] at this;unfold B89 at this;simp at this;omega
  rcases key with e1 | e1<;>rw [e1]<;>simp
 ·intro hx hy
  rw [hPl,L43,E40 hx hy,Bool.true_and]
  exact B71 (.inl rfl) (fun s hs=>hx s (E70 hs))
theorem ScFit.hunks (h:ScFit x y l) {ctx:Int} (hc:0≤ctx) (hx:∀s∈x,o6 s=true) (hy:∀s∈y,o6 s=true):∀(hs:List Hunk) (a:Nat),GrOk l x.length ctx a hs l.length →
  ∀(i j e:Int),i=eoI 0 l a+e→j=enI 0 l a+e→0≤e→e≤ctx→(a=0→e=0) →
  D98 i j (hs.map (n6 l x y))=true∧(P4 (hs.map (n6 l x y)) 43).Sublist (x.drop i.toNat)∧(P4 (hs.map (n6 l x y)) 45).Sublist (y.drop j.toNat) ∧
   ∀p∈hs.map (n6 l x y),(p.Old+C61 p≤x.length∧p.New+C62 p≤y.length∧0≤p.Old∧0≤p.New)∧I3 p.Lines 43=sub x p.Old (p.Old+C61 p)∧I3 p.Lines 45=sub y p.New (p.New+C62 p)
 | [],a,_,i,j,e,_,_,_,_,_=>⟨rfl,by simp [P4],by simp [P4],by simp⟩
 | hk::hs,a,⟨b,hab,ho,hE,hr⟩,i,j,e,hi,hj,he,hec,he0=>by
  have hb:=hr.le
  have hob:b < l.length→opens l ctx b:=by
   intro hlt
   cases hs with
   | nil=>exact absurd hr (by show ¬b=l.length;omega)
   | cons h2 hs2=>obtain ⟨_,_,ho2,_⟩:=hr;exact ho2
  obtain ⟨w1,w2,w3,w4,w5⟩:=h.after hc hb hob (by omega)
  obtain ⟨q1,q2,q3⟩:=h.before hc (show a < l.length by omega) ho
  have H:=h.hunk hc hab hb ho hob
  rw [←hE] at H
  obtain ⟨P,hP⟩:∃P,P=n6 l x y hk:=⟨_,rfl⟩
  rw [←hP] at H
  obtain ⟨i1,i2,i3,i4⟩:=ScFit.hunks h hc hx hy hs b hr (P.Old+C61 P) (P.New+C62 P) (eB l x.length ctx b) H.oe H.ne w1 w2 (by omega)
  obtain ⟨k1,⟨k2,k2'⟩,k3,⟨k4,k4'⟩,k5,k6,k7,k8⟩:=A63 _ _ _ _ _ _ h.sc a (show a < l.length by omega)
  have h1:=H.old
  have h2:=H.new
  have h3:=H.o0
  have h4:=H.n0
  have h5:=H.ox
  have h6:=H.ny
  have h7:=h.lx
  have h8:=h.ly
  have n1:0≤C61 P:=by unfold C61;omega
  have n2:0≤C62 P:=by unfold C62;omega
  have hgap:e+eA l ctx a≤(cAt l a).Old - eoI 0 l a:=by
   by_cases h0:a=0
   ·have:=he0 h0;omega
   ·have:=E01 ho h0;omega
  obtain ⟨r1,r2,r3,r4⟩:=h.nn a (by omega)
  have hij:i≤P.Old∧j≤P.New∧P.Old - i=P.New - j∧0≤i∧0≤j:=by omega
  have hsub:∀(z:List Str) (i f t:Int),0≤i→i≤f→f≤t→∀r:List Str,r.Sublist (z.drop t.toNat)→(sub z f t++r).Sublist (z.drop i.toNat):=by
   intro z i f t h0 h1 h2 r hr
   have e1:z.drop f.toNat=sub z f t++z.drop t.toNat:=by
    unfold sub
    rw [show t.toNat=f.toNat+(t.toNat - f.toNat) by omega,←List.drop_drop,show f.toNat+(t.toNat - f.toNat) - f.toNat=t.toNat - f.toNat by omega,L48]
   have e2:z.drop f.toNat=(z.drop i.toNat).drop (f.toNat - i.toNat):=by rw [List.drop_drop];congr 1;omega
   refine List.Sublist.trans ?_ (List.drop_sublist (f.toNat - i.toNat) (z.drop i.toNat))
   rw [←e2,e1]
   exact List.Sublist.append_left hr _
  have key:∀(k:UInt8),P4 ((hk::hs).map (n6 l x y)) k=I3 P.Lines k++P4 (hs.map (n6 l x y)) k:=by
   intro k;rw [hP];simp [P4]
  refine ⟨?_,?_,?_,?_⟩
  ·rw [L16,←hP]
   simp only [D98,H.gl hx hy,i1,Bool.and_true,Bool.true_and,L02,decide_eq_true_eq]
   refine ⟨?_,by omega⟩
   unfold D55
   rw [H.ch]
   rintro (((((e0 | e0) | e0) | e0) | e0) | e0)
   ·cases e0
   all_goals omega
  ·rw [key,H.ol]
   exact hsub x i P.Old (P.Old+C61 P) hij.2.2.2.1 hij.1 (by omega) _ i2
  ·rw [key,H.nl]
   exact hsub y j P.New (P.New+C62 P) hij.2.2.2.2 hij.2.1 (by omega) _ i3
  ·rw [L16,←hP]
   intro p hp
   rcases List.mem_cons.1 hp with rfl | hp
   ·exact ⟨⟨h5,h6,h3,h4⟩,H.ol,H.nl⟩
   ·exact i4 p hp
theorem D58:∀{s z:List Str},s.Sublist z→A21 z=true→A21 s=true:=by
 intro s z hs
 induction hs with
 | slnil=>exact fun h=>h
 | cons a _ ih =>
  intro h
  simp only [A21,L02] at h
  exact ih h.2
 | cons_cons a hs2 ih =>
  intro h
  simp only [A21,L02,L20] at h ⊢
  refine ⟨?_,ih h.2⟩
  rcases h.1 with h1 | h1
  ·left
   rw [List.isEmpty_iff] at h1 ⊢
   rw [h1] at hs2
   exact List.sublist_nil.1 hs2
  ·exact .inr h1
def n7 (l:List Change) (x y:List Str) (ctx:Int):List PatchHunk:=(c6 l x.length ctx l.length).map (n6 l x y)
theorem ScFit.good (h:ScFit x y l) {ctx:Int} (hc:0≤ctx) (hx:∀s∈x,o6 s=true) (hy:∀s∈y,o6 s=true) (ex:A21 x=true) (ey:A21 y=true):D99 (n7 l x y ctx)=true:=by
 obtain ⟨h1,h2,h3,_⟩:=h.hunks hc hx hy _ 0 (B66 l x.length ctx l.length) 0 0 0 rfl rfl (Int.le_refl _) hc (fun _=>rfl)
 unfold D99 J04 n7
 rw [h1,D58 h2 (by simpa using ex),D58 h3 (by simpa using ey)]
 rfl
theorem ScFit.texts (h:ScFit x y l) {ctx:Int} (hc:0≤ctx) (hx:∀s∈x,o6 s=true) (hy:∀s∈y,o6 s=true):∀p∈n7 l x y ctx,(p.Old+C61 p≤x.length∧p.New+C62 p≤y.length∧0≤p.Old∧0≤p.New)∧I3 p.Lines 43=sub x p.Old (p.Old+C61 p)∧I3 p.Lines 45=sub y p.New (p.New+C62 p) :=
 (h.hunks hc hx hy _ 0 (B66 l x.length ctx l.length) 0 0 0 rfl rfl (Int.le_refl _) hc (fun _=>rfl)).2.2.2
end
end Go.AL
namespace Go.AL
open Go
def EqAt (X Y:List Str) (s:Span):Prop:=0≤s.From∧0≤s.To∧∃v,X[s.From.toNat]?=some v∧Y[s.To.toNat]?=some v
theorem I14 {X:List Str} {a b:Int} {v:Str} (h0:0≤a) (h1:a≤b) (hv:X[b.toNat]?=some v):sub X a (b+1)=sub X a b++[v]:=by
 rw [←B67 X h0 h1 (by omega:b≤b+1)]
 congr 1
 unfold sub
 obtain ⟨hl,e⟩:=List.getElem?_eq_some_iff.1 hv
 rw [L11 hl,e,show (b+1).toNat - b.toNat=1 by omega]
 rfl
theorem G46:∀(ls:List PatchLine),ls.all D11=true→(ls.map szL).sum≤64*((I3 ls 43).length+(I3 ls 45).length)+((I3 ls 43).flatten.length+(I3 ls 45).flatten.length)
 | [],_=>by simp
 | q::ls,h=>by
  rw [List.all_cons,L02] at h
  have ih:=G46 ls h.2
  have hk:q.Kind=32∨q.Kind=45∨q.Kind=43:=by
   have hg:=h.1
   unfold D11 at hg
   have hg:=A1 hg
   by_cases h1:q.Kind=32
   ·exact .inl h1
   by_cases h2:q.Kind=45
   ·exact .inr (.inl h2)
   by_cases h3:q.Kind=43
   ·exact .inr (.inr h3)
   exact absurd (.inl ⟨⟨h1,h2⟩,h3⟩) hg
  have hd:∀k:UInt8,I3 (q::ls) k=if q.Kind≠k then q.Text::I3 ls k else I3 ls k:=by
   intro k
   unfold I3
   by_cases e:q.Kind=k
   ·rw [if_neg (by simpa using e),List.filter_cons_of_neg (by simpa using e)]
   ·rw [if_pos e,List.filter_cons_of_pos (by simpa using e)];rfl
  rw [hd 43,hd 45,L16,L53]
  have hz:szL q=q.Text.length+64:=rfl
  rcases hk with e | e | e<;>rw [e]<;>simp (decide:=true) only [if_true,if_false,ne_eq,not_true_eq_false,not_false_eq_true,L04,L36,L06]<;>omega
theorem D59:∀(hs:List PatchHunk) (i j:Int),D98 i j hs=true→szP hs≤128*((P4 hs 43).length+(P4 hs 45).length)+((P4 hs 43).flatten.length+(P4 hs 45).flatten.length)
 | [],_,_,_=>by simp [szP]
 | h :: hs,i,j,hg=>by
  simp only [D98,L02,decide_eq_true_eq] at hg
  obtain ⟨h1,h2,h3,h4⟩:=hg
  have ih:=D59 hs _ _ h4
  have hl:=G46 h.Lines h1
  have hne:1≤h.Lines.length:=by
   cases hq:h.Lines with
   | nil=>exact absurd (.inl (.inl (.inl (.inl (.inl (by rw [hq];rfl)))))) h2
   | cons a b=>simp
  have hcnt:h.Lines.length≤(I3 h.Lines 43).length+(I3 h.Lines 45).length:=by
   have:64*h.Lines.length≤(h.Lines.map szL).sum:=szL_len h.Lines
   have key:∀ls:List PatchLine,ls.length≤(I3 ls 43).length+(I3 ls 45).length:=by
    intro ls
    induction ls with
    | nil=>simp
    | cons q ls ih =>
     have hd:∀k:UInt8,(I3 (q::ls) k).length=if q.Kind≠k then (I3 ls k).length+1 else (I3 ls k).length:=by
      intro k
      unfold I3
      by_cases e:q.Kind=k
      ·rw [if_neg (by simpa using e),List.filter_cons_of_neg (by simpa using e)]
      ·rw [if_pos e,List.filter_cons_of_pos (by simpa using e)];simp
     rw [hd 43,hd 45,L04]
     by_cases e:q.Kind=43
     ·have e2:q.Kind≠45:=by rw [e];decide
      rw [if_pos e2];split<;>omega
     ·rw [if_pos e];split<;>omega
   exact key h.Lines
  have hsz:szP (h::hs)=szH h+szP hs:=by simp [szP]
  have hszh:szH h=64+(h.Lines.map szL).sum:=rfl
  have hs1:∀k,P4 (h::hs) k=I3 h.Lines k++P4 hs k:=by intro k;simp [P4]
  rw [hsz,hszh,hs1 43,hs1 45]
  simp only [L06,L45]
  omega
theorem E41:∀{s z:List Str},s.Sublist z→s.flatten.length≤z.flatten.length:=by
 intro s z hs
 induction hs with
 | slnil=>exact Nat.le_refl _
 | cons a _ ih=>simp only [L36,L06];omega
 | cons_cons a _ ih=>simp only [L36,L06];omega
theorem ScFit.size {x y:List Str} {l:List Change} (h:ScFit x y l) {ctx:Int} (hc:0≤ctx) (hx:∀s∈x,o6 s=true) (hy:∀s∈y,o6 s=true):szP (n7 l x y ctx)≤128*(x.length+y.length)+(x.flatten.length+y.flatten.length):=by
 obtain ⟨h1,h2,h3,_⟩:=h.hunks hc hx hy _ 0 (B66 l x.length ctx l.length) 0 0 0 rfl rfl (Int.le_refl _) hc (fun _=>rfl)
 have h4:=D59 _ _ _ h1
 have e:n7 l x y ctx=(c6 l x.length ctx l.length).map (n6 l x y):=rfl
 rw [←e] at h2 h3 h4
 have h2':(P4 (n7 l x y ctx) 43).Sublist x:=by simpa using h2
 have h3':(P4 (n7 l x y ctx) 45).Sublist y:=by simpa using h3
 have:=h2'.length_le
 have:=h3'.length_le
 have:=E41 h2'
 have:=E41 h3'
 omega
end Go.AL
namespace Go.AL
open Go
end Go.AL
namespace Go.AL
open Go
abbrev D12:Int→Nat→Cell:=fun x _=>.v (.int .u16 x)
abbrev pU16s (l:List Int):PV:=.one (.list Int 1 D12 l)
theorem J08 (n:Int) (h:0≤n∧n < 65536):IntKind.u16.wrap n=n:=by
 simp [IntKind.wrap,IntKind.signed,IntKind.bits];omega
def flat (a b:List Int) (done:Nat→Nat→Bool):List Int :=
 (List.range ((a.length+1)*(b.length+1))).map fun p=>if done (p / (b.length+1)) (p % (b.length+1))=true then (dist (a.drop (p / (b.length+1))) (b.drop (p % (b.length+1))):Int) else 0
theorem E42 (a b:List Int) (done:Nat→Nat→Bool):(flat a b done).length=(a.length+1)*(b.length+1):=by simp [flat]
theorem E71 {a b:List Int} {i j:Nat} (hi:i≤a.length) (hj:j≤b.length):i*(b.length+1)+j < (a.length+1)*(b.length+1)∧(i*(b.length+1)+j) / (b.length+1)=i∧(i*(b.length+1)+j) % (b.length+1)=j:=by
 refine ⟨?_,?_,?_⟩
 ·have:(i+1)*(b.length+1)≤(a.length+1)*(b.length+1):=L13 _ (by omega)
  rw [L22,Nat.one_mul] at this;omega
 ·rw [Nat.mul_comm,Nat.mul_add_div (by omega),Nat.div_eq_of_lt (by omega),Nat.add_zero]
 ·rw [Nat.mul_comm,Nat.mul_add_mod,Nat.mod_eq_of_lt (by omega)]
theorem F54 {a b:List Int} {done:Nat→Nat→Bool} {i j:Nat} (hi:i≤a.length) (hj:j≤b.length):(flat a b done)[i*(b.length+1)+j]?=some (if done i j=true then (dist (a.drop i) (b.drop j):Int) else 0):=by
 obtain ⟨h1,h2,h3⟩:=E71 hi hj
 unfold flat
 rw [K11 _ _ _ h1,h2,h3]
theorem I15 {a b:List Int} {done done':Nat→Nat→Bool} {i j:Nat} {v:Int} (hi:i≤a.length) (hj:j≤b.length) (hv:v=(dist (a.drop i) (b.drop j):Int)) (hd:done' i j=true)
  (ho:∀r q,r≤a.length→q≤b.length→¬(r=i∧q=j)→done' r q=done r q):(flat a b done).set (i*(b.length+1)+j) v=flat a b done':=by
 obtain ⟨h1,h2,h3⟩:=E71 hi hj
 unfold flat
 refine G44 _ _ _ _ _ (fun _=>?_) (fun q hq hne=>?_)
 ·rw [h2,h3,if_pos hd,hv]
 ·have hW:0 < b.length+1:=by omega
  have e:=Nat.div_add_mod q (b.length+1)
  have hr:q / (b.length+1)≤a.length:=by
   have:=(Nat.div_lt_iff_lt_mul hW).2 hq
   omega
  have hm:=Nat.mod_lt q hW
  rw [ho _ _ hr (by omega) (fun ⟨e1,e2⟩=>hne (by rw [e1,e2,Nat.mul_comm] at e;exact e.symm))]
theorem K12 (a b:List Int):List.replicate ((a.length+1)*(b.length+1)) 0=flat a b (fun _ _=>false):=by
 unfold flat
 simp only [Bool.false_eq_true,if_false]
 rw [List.map_const',L39]
theorem B72 {a b:List Int} {done done':Nat→Nat→Bool} (h:∀r q,r≤a.length→q≤b.length→(done r q=done' r q∨dist (a.drop r) (b.drop q)=0)):flat a b done=flat a b done':=by
 unfold flat
 apply List.map_congr_left
 intro p hp
 have hp:=List.mem_range.1 hp
 have hW:0 < b.length+1:=by omega
 have hr:p / (b.length+1)≤a.length:=by have:=(Nat.div_lt_iff_lt_mul hW).2 hp;omega
 have hm:=Nat.mod_lt p hW
 rcases h (p / (b.length+1)) (p % (b.length+1)) hr (by omega) with e | e
 ·rw [e]
 ·rw [e];simp
def Y6:List Int→List Int→Nat
 | x::a,y::b=>if x=y then Y6 a b+1 else 0
 | _,_=>0
theorem I16:∀(a b:List Int),Y6 a b≤a.length∧Y6 a b≤b.length
 | [],_=>by simp [Y6]
 | _::_,[]=>by simp [Y6]
 | x::a,y::b=>by
  have:=I16 a b
  unfold Y6
  simp only [L04]
  split<;>omega
theorem F55 (a b:List Int) (k:Nat) (hk:k < a.length) (hk':k < b.length):Y6 (a.drop k) (b.drop k)=if a[k]=b[k] then Y6 (a.drop (k+1)) (b.drop (k+1))+1 else 0:=by
 rw [L11 hk,L11 hk'];rfl
theorem K13 (a b:List Int) (k:Nat) (h:¬(k < a.length∧k < b.length)):Y6 (a.drop k) (b.drop k)=0:=by
 by_cases h1:k < a.length
 ·rw [L21 (as:=b) (by omega)]
  cases a.drop k<;>rfl
 ·rw [L21 (as:=a) (by omega)];rfl
theorem F56:∀(a b:List Int) (p q:Int),N4 p q a b=W4 p q (Y6 a b)++N4 (p+Y6 a b) (q+Y6 a b) (a.drop (Y6 a b)) (b.drop (Y6 a b))
 | [],b,p,q=>by simp [Y6,B65]
 | x::a,[],p,q=>by simp [Y6,B65]
 | x::a,y::b,p,q=>by
  unfold Y6
  by_cases h:x=y
  ·rw [if_pos h]
   conv=>lhs;unfold N4
   rw [if_pos h,F56 a b (p+1) (q+1),H13]
   simp only [List.drop_succ_cons,L25]
   rw [show p+1+(Y6 a b:Int)=p+((Y6 a b+1:Nat):Int) by omega,show q+1+(Y6 a b:Int)=q+((Y6 a b+1:Nat):Int) by omega]
  ·rw [if_neg h]
   simp [B65]
end Go.AL
namespace Go.AL
open Go
def GrX (l:List Change) (m ctx:Int):Nat→List Hunk→Nat→Prop
 | a,[],k=>a=k
 | a,h::r,k=>∃b,a < b∧opens l ctx a∧(∀c,a < c→c < b→¬opens l ctx c)∧h=mkH l m ctx a b∧GrX l m ctx b r k
theorem GrX.le {l:List Change} {m ctx:Int}:∀{hs:List Hunk} {a k:Nat},GrX l m ctx a hs k→a≤k
 | [],a,k,h=>Nat.le_of_eq h
 | _::_,a,k,⟨b,h1,_,_,_,h2⟩=>by have:=GrX.le h2;omega
theorem GrX.snoc {l:List Change} {m ctx:Int} {k n:Nat} (ho:opens l ctx k) (hk:k < n) (hno:∀c,k < c→c < n→¬opens l ctx c):∀{hs:List Hunk} {a:Nat},GrX l m ctx a hs k→GrX l m ctx a (hs++[mkH l m ctx k n]) n
 | [],a,h=>by
  obtain rfl:a=k:=h
  exact ⟨n,hk,ho,hno,rfl,rfl⟩
 | _::_,a,⟨b,h1,h2,h3,h4,h5⟩=>⟨b,h1,h2,h3,h4,GrX.snoc ho hk hno h5⟩
theorem GrX.last {l:List Change} {m ctx:Int} {k:Nat} (hno:¬opens l ctx k):∀{hs:List Hunk} {a:Nat},GrX l m ctx a hs k→hs≠[]→GrX l m ctx a (hs.set (hs.length - 1) (D54 l m ctx k (hs.getD (hs.length - 1) J53))) (k+1)
 | [],_,_,h0=>absurd rfl h0
 | [h],a,⟨b,h1,h2,h3,h4,h5⟩,_=>by
  obtain rfl:b=k:=h5
  subst h4
  refine ⟨b+1,by omega,h2,fun c hc1 hc2=>?_,rfl,rfl⟩
  by_cases hcb:c=b
  ·rw [hcb];exact hno
  ·exact h3 c hc1 (by omega)
 | h::h'::r,a,⟨b,h1,h2,h3,h4,h5⟩,_=>by
  have ih:=GrX.last hno h5 (by simp)
  refine ⟨b,h1,h2,h3,h4,?_⟩
  simpa using ih
theorem GrX.len {l:List Change} {m ctx:Int}:∀{hs:List Hunk} {a k:Nat},GrX l m ctx a hs k→hs.length≤k - a
 | [],_,_,_=>Nat.zero_le _
 | _::_,a,k,⟨b,h1,_,_,_,h2⟩=>by have:=GrX.len h2;have:=h2.le;simp only [L04];omega
end Go.AL
namespace Go.AL
open Go
def A41:List Str→Int→List (Str × Cell)
 | [],_=>[]
 | s::r,i=>(s,.v (.int .i64 i))::A41 r (i+1)
theorem G47 (s:Str):∀(l:List Str) (i:Int),A41 (l++[s]) i=A41 l i++[(s,.v (.int .i64 (i+l.length)))]
 | [],i=>by simp [A41]
 | x::r,i=>by
  simp only [L25,A41,G47 s r,L04]
  rw [show i+1+(r.length:Int)=i+((r.length+1:Nat):Int) by omega]
theorem G48 (s:Str):∀(l:List Str) (i:Int),s∈l→N6 (A41 l i) s=some (.v (.int .i64 (T3 l s i)))
 | [],_,h=>by simp at h
 | x::r,i,h=>by
  simp only [A41,N6,T3]
  by_cases he:x=s
  ·rw [if_pos he,if_pos he]
  ·rw [if_neg he,if_neg he]
   exact G48 s r (i+1) ((List.mem_cons.1 h).resolve_left (fun q=>he q.symm))
theorem F57 (s:Str):∀(l:List Str) (i:Int),s∉l→N6 (A41 l i) s=none
 | [],_,_=>rfl
 | x::r,i,h=>by
  simp only [A41,N6]
  rw [if_neg (fun q=>h (by simp [q]))]
  exact F57 s r (i+1) (fun q=>h (by simp [q]))
theorem C27 (s:Str) (r:List Str):∀(l:List Str) (i:Int),s∈l→T3 (l++r) s i=T3 l s i
 | [],_,h=>by simp at h
 | x::l,i,h=>by
  simp only [L25,T3]
  by_cases he:x=s
  ·rw [if_pos he,if_pos he]
  ·rw [if_neg he,if_neg he]
   exact C27 s r l (i+1) ((List.mem_cons.1 h).resolve_left (fun q=>he q.symm))
theorem E43 (s:Str):∀(l:List Str) (i:Int),s∉l→T3 (l++[s]) s i=i+l.length
 | [],i,_=>by simp [T3]
 | x::l,i,h=>by
  simp only [L25,T3,L04]
  rw [if_neg (fun q=>h (by simp [q])),E43 s l (i+1) (fun q=>h (by simp [q]))]
  omega
theorem D60:∀(l out:List Str),∃r,l.foldl R9 out=out++r
 | [],out=>⟨[],by simp⟩
 | s::l,out=>by
  obtain ⟨r,hr⟩:=D60 l (R9 out s)
  rw [L32,hr]
  unfold R9
  split
  ·exact ⟨r,rfl⟩
  ·exact ⟨s::r,by simp⟩
def P7 (files:List (List Str)) (k j:Nat):List Str:=((files.take k).flatten++(files.getD k []).take j).foldl R9 []
theorem I17 (files:List (List Str)) (k:Nat):P7 files (k+1) 0=P7 files k (files.getD k []).length:=by
 unfold P7
 rw [List.take_zero,L29,L08]
 by_cases h:k < files.length
 ·rw [D46 files k h]
  congr 2
  simp [h]
 ·rw [L31 (by omega),L31 (by omega)]
  have:files.getD k []=[]:=by simp [show files.length≤k by omega]
  rw [this,L29]
theorem H23 (files:List (List Str)) (k j:Nat) (s:Str) (h:(files.getD k [])[j]?=some s):P7 files k (j+1)=R9 (P7 files k j) s:=by
 unfold P7
 have hj:j < (files.getD k []).length:=(List.getElem?_eq_some_iff.1 h).1
 have he:=(List.getElem?_eq_some_iff.1 h).2
 rw [L35 hj,he,←L15,L41]
 rfl
theorem I18 (files:List (List Str)):P7 files files.length 0=I9 files:=by
 unfold P7 I9
 rw [L08];simp
theorem E44 (files:List (List Str)) (k j:Nat):∃r,I9 files=P7 files k j++r:=by
 have h:∃m,files.flatten=((files.take k).flatten++(files.getD k []).take j)++m:=by
  refine ⟨(files.getD k []).drop j++(files.drop (k+1)).flatten,?_⟩
  by_cases hk:k < files.length
  ·have e:files=files.take k++files.getD k []::files.drop (k+1):=by
    have:files.getD k []=files[k]:=by simp [hk]
    rw [this,List.getElem_cons_drop,L48]
   conv=>lhs;rw [e]
   rw [L45,L36,L15]
   congr 1
   rw [←L15,L48]
  ·have:files.getD k []=[]:=by simp [show files.length≤k by omega]
   rw [this,L31 (by omega:files.length≤k),L21 (by omega:files.length≤k+1)]
   simp
 obtain ⟨m,hm⟩:=h
 unfold I9 P7
 rw [hm,L41]
 obtain ⟨r,hr⟩:=D60 m (((files.take k).flatten++(files.getD k []).take j).foldl R9 [])
 exact ⟨r,hr⟩
theorem F58 (files:List (List Str)) (k j:Nat):(P7 files k j).length≤files.flatten.length:=by
 obtain ⟨r,hr⟩:=E44 files k j
 have:=F37 files
 rw [hr,L06] at this;omega
def Q7 (files:List (List Str)) (k:Nat):List TC:=(List.range files.length).map fun r=>if r < k then .p (.list Int 1 F2 (S5 (I9 files) (files.getD r []))) else .p (.v (.slice none 0 0))
theorem K14 {files:List (List Str)} {k:Nat} (h:k < files.length):(Q7 files k)[k]?=some (.p (.v (.slice none 0 0))):=by
 simp [Q7,h]
theorem H24 (files:List (List Str)) (k m:Nat) (_h:k < files.length):((Q7 files k).set k (.buf m Int 1 F2 (S5 (I9 files) (files.getD k [])))).map (TC.forget m)=Q7 files (k+1):=by
 have e1:(Q7 files k).map (TC.forget m)=Q7 files k:=by
  unfold Q7
  rw [L38]
  apply List.map_congr_left
  intro r _
  simp only [Function.comp]
  split<;>rfl
 rw [List.map_set,e1]
 have e2:(TC.buf m Int 1 F2 (S5 (I9 files) (files.getD k []))).forget m=.p (.list Int 1 F2 (S5 (I9 files) (files.getD k []))):=by simp [TC.forget]
 rw [e2]
 unfold Q7
 refine G44 _ _ _ _ _ (fun _=>by simp) (fun q hq hne=>?_)
 simp only [show (q < k+1)=(q < k) from propext ⟨fun h=>by omega,fun h=>by omega⟩]
theorem J09 (files:List (List Str)):List.replicate files.length (TC.p (.v (.slice none 0 0)))=Q7 files 0:=by
 unfold Q7
 simp only [Nat.not_lt_zero,if_false,List.map_const',L39]
theorem J10 (files:List (List Str)):Q7 files files.length=(files.map (S5 (I9 files))).map fun x=>TC.p (intsC x 0):=by
 unfold Q7
 apply List.ext_getElem
 ·simp
 ·intro i h1 h2
  have hi:i < files.length:=by simpa using h1
  simp [hi,intsC]
end Go.AL
namespace Go.AL
open Go
theorem J58 (m n:Int):∀(l:List Change) (k0:Nat) (i j:Int),(∀k,k < l.length→P8 (cAt l k).Old∧P8 (cAt l k).OldLen∧P8 (cAt l k).New∧P8 (cAt l k).NewLen∧(cAt l k).OldLen+(cAt l k).NewLen≠0∧(cAt l k).Old - eoI i l k=(cAt l k).New - enI j l k∧eoI i l k≤(cAt l k).Old∧(0 < k0+k→eoI i l k < (cAt l k).Old)) →
  (m - eoI i l l.length=n - enI j l l.length∧eoI i l l.length≤m)→S6 k0 i j l m n=true
 | [],k0,i,j,_,h=>by
  have h1:m - i=n - j∧i≤m:=h
  simp only [S6,decide_eq_true_eq];omega
 | c::r,k0,i,j,h,he=>by
  simp only [S6,L02,decide_eq_true_eq]
  refine ⟨?_,J58 m n r (k0+1) _ _ (fun k hk=>?_) ?_⟩
  ·obtain ⟨h1,h2,h3,h4,h5,h6,h7,h8⟩:=h 0 (by simp)
   have h1:P8 c.Old:=h1
   have h2:P8 c.OldLen:=h2
   have h3:P8 c.New:=h3
   have h4:P8 c.NewLen:=h4
   have h5:c.OldLen+c.NewLen≠0:=h5
   have h6:c.Old - i=c.New - j:=h6
   have h7:i≤c.Old:=h7
   have h8:0 < k0+0→i < c.Old:=h8
   unfold badC
   rintro (((((((q | q) | q) | q) | q) | q) | q) | ⟨q,q2⟩)
   ·exact q h1
   ·exact q h2
   ·exact q h3
   ·exact q h4
   ·exact h5 q
   ·exact q h6
   ·omega
   ·have:=h8 (by omega);omega
  ·have:=h (k+1) (by simpa using hk)
   rw [D57,A22,A23] at this
   obtain ⟨e1,e2,e3,e4,e5,e6,e7,e8⟩:=this
   exact ⟨e1,e2,e3,e4,e5,e6,e7,fun h0=>e8 (by omega)⟩
  ·rw [L04,A22,A23] at he;exact he
theorem J59 (x y:List Str):∀(l:List Change) (i j:Int),(∀k,k < l.length→sub x (eoI i l k) (cAt l k).Old=sub y (enI j l k) (cAt l k).New)→sub x (eoI i l l.length) x.length=sub y (enI j l l.length) y.length→E00 x y i j l
 | [],_,_,_,h=>h
 | c::r,i,j,h,he=>by
  refine ⟨h 0 (by simp),J59 x y r _ _ (fun k hk=>?_) ?_⟩
  ·have:=h (k+1) (by simpa using hk)
   rw [D57,A22,A23] at this;exact this
  ·rw [L04,A22,A23] at he;exact he
theorem J60 {x:List Str} {p q:Int} {t:Nat} (h0:0≤p) (h:p+t < q):(sub x p q)[t]?=x[(p+t).toNat]?:=by
 unfold sub
 rw [List.getElem?_take,if_pos (by omega),L28]
 congr 1;omega
theorem H25 {x y:List Str} {p q p' q':Int} (h:sub x p q=sub y p' q') (h0:0≤p) (h0':0≤p') (hq:q≤x.length) (he:q - p=q' - p') {t:Nat} (ht:p+t < q):∃v,x[(p+t).toNat]?=some v∧y[(p'+t).toNat]?=some v:=by
 have h1:x[(p+t).toNat]?=some x[(p+t).toNat]:=L01 (by omega)
 refine ⟨_,h1,?_⟩
 rw [←J60 (q:=q') h0' (by omega),←h,J60 h0 ht];exact h1
theorem E45 {i j:Int} {n:Nat} {p:Span} (h:p∈W4 i j n):∃t:Nat,t < n∧p=⟨i+t,j+t⟩:=by
 unfold W4 at h
 obtain ⟨t,h1,h2⟩:=List.mem_map.1 h
 exact ⟨t,List.mem_range.1 h1,h2.symm⟩
theorem F59 {x y:List Str}:∀(l:List Change) (k0:Nat) (i j:Int),S6 k0 i j l x.length y.length=true→E00 x y i j l→0≤i→0≤j→∀p∈B37 i j l x.length,EqAt x y p
 | [],k0,i,j,hs,he,hi,hj,p,hp=>by
  simp only [S6,decide_eq_true_eq] at hs
  unfold B37 at hp
  obtain ⟨t,ht,rfl⟩:=E45 hp
  have he:sub x i x.length=sub y j y.length:=he
  exact ⟨by dsimp only;omega,by dsimp only;omega,H25 he hi hj (by omega) (by omega) (by omega)⟩
 | c::r,k0,i,j,hs,he,hi,hj,p,hp=>by
  have hok:=C24 _ _ _ _ _ _ hs
  have g:=A63 x.length y.length (c::r) k0 i j hs 0 (by simp)
  obtain ⟨g1,g2,g3,g4,g5,g6,g7,_⟩:=g
  have g1:P8 c.Old:=g1
  have g2:P8 c.OldLen:=g2
  have g3:P8 c.New:=g3
  have g4:P8 c.NewLen:=g4
  have g6:c.Old - i=c.New - j:=g6
  have g7:i≤c.Old:=g7
  simp only [S6,L02,decide_eq_true_eq] at hs
  unfold B37 at hp
  unfold P8 at g1 g2 g3 g4
  have hm:=hok.2.2.2.2.2.2.end_le
  rcases List.mem_append.1 hp with hp | hp
  ·obtain ⟨t,ht,rfl⟩:=E45 hp
   exact ⟨by dsimp only;omega,by dsimp only;omega,H25 he.1 hi hj (by omega) (by omega) (by omega)⟩
  ·rw [show max i c.Old+c.OldLen=c.Old+c.OldLen by omega,show j+((c.Old - i).toNat:Int)+c.NewLen=c.New+c.NewLen by omega] at hp
   exact F59 r (k0+1) _ _ hs.2 he.2 (by omega) (by omega) p hp
theorem ScFit.pairs {x y:List Str} {l:List Change} (h:ScFit x y l):∀p∈K09 l x.length,EqAt x y p:=F59 l 0 0 0 h.sc h.eq (Int.le_refl _) (Int.le_refl _)
def E02 (c:Change):Change:=⟨c.Old+1,c.OldLen,c.New+1,c.NewLen⟩
def B73 (l:List Change) (k:Nat):List Change:=l.set k (E02 (cAt l k))
def atI (t:List Int) (i:Int):Int:=t.getD i.toNat 0
def J61 (l:List Change) (k:Nat) (t:List Int) (f n:Int):Prop:=(f+n < t.length∧atI t f=atI t (f+n))∧(k+1=l.length∨(cAt l k).Old+(cAt l k).OldLen+1 < (cAt l (k+1)).Old)
instance (l:List Change) (k:Nat) (t:List Int) (f n:Int):Decidable (J61 l k t f n):=by unfold J61;exact inferInstance
def E72 (l:List Change) (a b:List Int) (k:Nat):Bool :=
 if (cAt l k).NewLen=0 then decide (J61 l k a (cAt l k).Old (cAt l k).OldLen) else if (cAt l k).OldLen=0 then decide (J61 l k b (cAt l k).New (cAt l k).NewLen) else false
theorem u9 (l:List Change) (k:Nat):(B73 l k).length=l.length:=by simp [B73]
theorem C48 (l:List Change) {k:Nat} (hk:k < l.length) (q:Nat):cAt (B73 l k) q=if q=k then E02 (cAt l k) else cAt l q:=by
 unfold B73
 by_cases h:q=k
 ·subst h
  have:∀z,cAt (l.set q z) q=z:=fun z=>by unfold cAt;simp [hk]
  rw [if_pos rfl,this]
 ·rw [if_neg h];unfold cAt
  simp only [L07]
  rw [List.getElem?_set_ne (Ne.symm h)]
theorem D61 (l:List Change) {k:Nat} (hk:k < l.length) (q:Nat):eoI 0 (B73 l k) q=eoI 0 l q+(if q=k+1 then 1 else 0):=by
 cases q with
 | zero=>simp [eoI]
 | succ q =>
  rw [C25,C25,C48 l hk]
  by_cases h:q=k
  ·subst h;rw [if_pos rfl,if_pos rfl];simp only [B89,E02];omega
  ·rw [if_neg h,if_neg (by omega)];omega
theorem D62 (l:List Change) {k:Nat} (hk:k < l.length) (q:Nat):enI 0 (B73 l k) q=enI 0 l q+(if q=k+1 then 1 else 0):=by
 cases q with
 | zero=>simp [enI]
 | succ q =>
  rw [C26,C26,C48 l hk]
  by_cases h:q=k
  ·subst h;rw [if_pos rfl,if_pos rfl];simp only [H20,E02];omega
  ·rw [if_neg h,if_neg (by omega)];omega
structure IdsOf (x:List Str) (a:List Int):Prop where
 len:a.length=x.length
 inj:∀(i j:Nat) (u v:Str) (z:Int),x[i]?=some u→x[j]?=some v→a[i]?=some z→a[j]?=some z→u=v
theorem ScFit.down {x y:List Str} {l:List Change} {a b:List Int} (h:ScFit x y l) (ha:IdsOf x a) (hb:IdsOf y b) {k:Nat} (hk:k < l.length) (hd:E72 l a b k=true):ScFit x y (B73 l k):=by
 have hlx:=h.lx
 have hly:=h.ly
 have hg:=A63 _ _ _ 0 0 0 h.sc
 have hge:=J06 _ _ _ 0 0 0 h.sc
 have hq:=H21 _ _ _ _ _ h.eq
 have hqe:=J07 _ _ _ _ _ h.eq
 have hok:=h.ok
 obtain ⟨c,hc⟩:∃c,c=cAt l k:=⟨_,rfl⟩
 obtain ⟨g1,g2,g3,g4,g5,g6,g7,g8⟩:=hg k hk
 have hb4:=hok.get k hk
 rw [←hc] at g1 g2 g3 g4 g5 g6 g7 g8 hb4
 unfold P8 at g1 g2 g3 g4
 have eo1:eoI 0 l (k+1)=c.Old+c.OldLen:=by rw [C25,←hc];rfl
 have en1:enI 0 l (k+1)=c.New+c.NewLen:=by rw [C26,←hc];rfl
 obtain ⟨E,E',hE1,hE2,hE3,hE4,hE5,hEn⟩:∃E E':Int,sub x (c.Old+c.OldLen) E=sub y (c.New+c.NewLen) E'∧E - (c.Old+c.OldLen)=E' - (c.New+c.NewLen)∧E≤x.length∧E'≤y.length∧(c.Old+c.OldLen < E)∧(k+1 < l.length→E=(cAt l (k+1)).Old∧E'=(cAt l (k+1)).New∧c.Old+c.OldLen+1 < E):=by
  by_cases hl:k+1=l.length
  ·rw [←hl,eo1,en1] at hge hqe
   refine ⟨x.length,y.length,hqe,by omega,by omega,by omega,?_,fun q=>absurd hl (by omega)⟩
   unfold E72 at hd
   rw [←hc] at hd
   split at hd
   ·have:=(A1 hd).1.1;rw [ha.len] at this;omega
   ·split at hd
    ·have:=(A1 hd).1.1;rw [hb.len] at this;omega
    ·cases hd
  ·have hl:k+1 < l.length:=by omega
   obtain ⟨f1,f2,f3,f4,f5,f6,f7,f8⟩:=hg (k+1) hl
   have f9:=hq (k+1) hl
   have f10:=hok.get (k+1) hl
   rw [eo1,en1] at f6 f9
   rw [eo1] at f7
   unfold P8 at f2 f4
   have hroom:c.Old+c.OldLen+1 < (cAt l (k+1)).Old:=by
    unfold E72 at hd
    rw [←hc] at hd
    split at hd
    ·have:=(A1 hd).2;rw [←hc] at this;omega
    ·split at hd
     ·have:=(A1 hd).2;rw [←hc] at this;omega
     ·cases hd
   exact ⟨_,_,f9,by omega,by omega,by omega,by omega,fun _=>⟨rfl,rfl,hroom⟩⟩
 have hv:∃v,x[c.Old.toNat]?=some v∧y[c.New.toNat]?=some v:=by
  obtain ⟨v,v1,v2⟩:=H25 (t:=0) hE1 (by omega) (by omega) (by omega) hE2 (by omega)
  simp only [Int.natCast_zero,Int.add_zero] at v1 v2
  unfold E72 at hd
  rw [←hc] at hd
  split at hd
  ·rename_i hn
   have:=(A1 hd).1.2
   rw [hn,Int.add_zero] at v2
   refine ⟨v,?_,v2⟩
   have l1:c.Old.toNat < a.length:=by rw [ha.len];omega
   have l2:(c.Old+c.OldLen).toNat < a.length:=by rw [ha.len];omega
   have hx:x[c.Old.toNat]?=some x[c.Old.toNat]:=L01 (by omega)
   have ea:a[c.Old.toNat]?=some (atI a c.Old):=by unfold atI;rw [L07,L01 l1];rfl
   have eb:a[(c.Old+c.OldLen).toNat]?=some (atI a (c.Old+c.OldLen)):=by unfold atI;rw [L07,L01 l2];rfl
   rw [←this] at eb
   have:=ha.inj _ _ _ _ _ hx v1 ea eb
   rw [hx,this]
  ·split at hd
   ·rename_i _ hn
    have:=(A1 hd).1.2
    rw [hn,Int.add_zero] at v1
    refine ⟨v,v1,?_⟩
    have l1:c.New.toNat < b.length:=by rw [hb.len];omega
    have l2:(c.New+c.NewLen).toNat < b.length:=by rw [hb.len];omega
    have hx:y[c.New.toNat]?=some y[c.New.toNat]:=L01 (by omega)
    have ea:b[c.New.toNat]?=some (atI b c.New):=by unfold atI;rw [L07,L01 l1];rfl
    have eb:b[(c.New+c.NewLen).toNat]?=some (atI b (c.New+c.NewLen)):=by unfold atI;rw [L07,L01 l2];rfl
    rw [←this] at eb
    have:=hb.inj _ _ _ _ _ hx v2 ea eb
    rw [hx,this]
   ·cases hd
 obtain ⟨v,v1,v2⟩:=hv
 have hen0:0≤eoI 0 l k∧0≤enI 0 l k:=by
  cases k with
  | zero=>simp [eoI,enI]
  | succ k =>
   obtain ⟨f1,f2,f3,f4,_⟩:=hg k (by omega)
   unfold P8 at f1 f2 f3 f4
   rw [C25,C26];unfold B89 H20;omega
 have htail:sub x (c.Old+c.OldLen+1) E=sub y (c.New+c.NewLen+1) E':=by
  have:=F50 (e:=E - (c.Old+c.OldLen) - 1) hE1 (by omega) (by omega) (by omega) (by omega) hE2
  rw [show E - (E - (c.Old+c.OldLen) - 1)=c.Old+c.OldLen+1 by omega,show E' - (E - (c.Old+c.OldLen) - 1)=c.New+c.NewLen+1 by omega] at this
  exact this
 refine ⟨hlx,hly,J58 _ _ _ 0 0 0 (fun q hql=>?_) ?_,J59 _ _ _ 0 0 (fun q hql=>?_) ?_⟩
 ·rw [u9] at hql
  rw [C48 l hk,D61 l hk,D62 l hk]
  by_cases e:q=k
  ·rw [if_pos e,if_neg (show ¬q=k+1 by omega),e,←hc]
   unfold P8
   simp only [E02]
   refine ⟨by omega,g2,by omega,g4,g5,by omega,by omega,fun _=>by omega⟩
  ·rw [if_neg e]
   obtain ⟨f1,f2,f3,f4,f5,f6,f7,f8⟩:=hg q hql
   refine ⟨f1,f2,f3,f4,f5,?_,?_,?_⟩
   ·by_cases e2:q=k+1
    ·rw [if_pos e2];omega
    ·rw [if_neg e2];omega
   ·by_cases e2:q=k+1
    ·rw [if_pos e2];have:=f8 (by omega);omega
    ·rw [if_neg e2];omega
   ·intro h0
    by_cases e2:q=k+1
    ·rw [if_pos e2,e2,eo1]
     have:=(hEn (by omega))
     omega
    ·rw [if_neg e2];have:=f8 h0;omega
 ·rw [u9,D61 l hk,D62 l hk]
  by_cases e2:l.length=k+1
  ·rw [if_pos e2,e2,eo1,en1]
   rw [e2,eo1,en1] at hge
   have h1:E≤x.length:=hE3
   omega
  ·rw [if_neg e2];omega
 ·rw [u9] at hql
  rw [C48 l hk,D61 l hk,D62 l hk]
  by_cases e:q=k
  ·rw [if_pos e,if_neg (show ¬q=k+1 by omega),e,←hc]
   simp only [E02,Int.add_zero]
   have:=hq k hk
   rw [←hc] at this
   rw [I14 hen0.1 g7 v1,I14 hen0.2 (by omega) v2,this]
  ·rw [if_neg e]
   by_cases e2:q=k+1
   ·rw [if_pos e2]
    subst e2
    obtain ⟨q1,q2,_⟩:=hEn hql
    rw [eo1,en1,←q1,←q2];exact htail
   ·rw [if_neg e2,Int.add_zero,Int.add_zero]
    exact hq q hql
 ·rw [u9,D61 l hk,D62 l hk]
  by_cases e2:l.length=k+1
  ·rw [if_pos e2]
   rw [e2,eo1,en1] at hqe hge ⊢
   have:=F50 (e:=x.length - (c.Old+c.OldLen) - 1) hqe (by omega) (by omega) (by omega) (by omega) (by omega)
   rw [show (x.length:Int) - (x.length - (c.Old+c.OldLen) - 1)=c.Old+c.OldLen+1 by omega,show (y.length:Int) - (x.length - (c.Old+c.OldLen) - 1)=c.New+c.NewLen+1 by omega] at this
   exact this
  ·rw [if_neg e2,Int.add_zero,Int.add_zero];exact hqe
section
variable {x y:List Str} {a b:List Int} (ha:IdsOf x a) (hb:IdsOf y b)
include ha hb
end
end Go.AL
namespace Go.AL
open Go
structure Made12 (on nn a b:Str) (l:List Change) (ctx:Int):Prop where
 chk:D56 ⟨on,nn,n7 l (I6 a) (I6 b) ctx⟩=0
 wr:(J54 ⟨on,nn,n7 l (I6 a) (I6 b) ctx⟩).length≤16777216
 fit:PFit ⟨on,nn,n7 l (I6 a) (I6 b) ctx⟩
 rg:∀h∈n7 l (I6 a) (I6 b) ctx,(-4611686018427387904≤h.Old∧h.Old≤4611686018427387904)∧(-4611686018427387904≤h.New∧h.New≤4611686018427387904)
 sz:szP (n7 l (I6 a) (I6 b) ctx)≤268435456
def Few (a:Str):Prop:=a.length≤1048576∧(I6 a).length≤4096
theorem few_of {a:Str} (h:a.length≤4096):Few a:=⟨by omega,Nat.le_trans (F36 a) h⟩
end Go.AL
namespace Go.AL
open Go
section
variable {x y:List Str} {l:List Change}
end
end Go.AL
namespace Go.AL
open Go
end Go.AL
namespace Go.AL
open Go
def D13 (c:UInt8):Bool:=decide (48≤c.toNat∧c.toNat≤57)
def Q9 (s:Str):Str:=s.takeWhile D13
def B90 (ds:Str):Nat:=ds.foldl (fun n c=>10*n+(c.toNat - 48)) 0
def C88 (s:Str):Option (Nat × Nat) :=
 if Q9 s=[]∨(s.head?=some 48∧1 < (Q9 s).length)∨2147483647 < B90 (Q9 s) then none else some (B90 (Q9 s),(Q9 s).length)
theorem K15 (ds:Str) (c:UInt8):B90 (ds++[c])=10*B90 ds+(c.toNat - 48):=by
 unfold B90;rw [L41];rfl
def rngFin (s:Str) (a c:Nat) (e:Nat):Option (Int × Int × Nat) :=
 if H17 (if 0 < c then (a:Int) - 1 else a) c=s.take e then some ((if 0 < c then (a:Int) - 1 else a),(c:Int),e) else none
def rngAt (s:Str):Option (Int × Int × Nat) :=
 match C88 s with
 | none=>none
 | some (a,k)=>if s[k]?=some 44 then (match C88 (s.drop (k+1)) with | none=>none | some (c,k2)=>rngFin s a c (k+1+k2)) else rngFin s a 1 k
end Go.AL
namespace Go.AL
open Go
def noNl:Str:=[92,32,78,111,32,110,101,119,108,105,110,101,32,97,116,32,101,110,100,32,111,102,32,102,105,108,101]
def spanAt (l:Str) (i:Nat) (pre:Str):Option (Int × Int × Nat):=if (l.drop i).take pre.length=pre then (match rngAt (l.drop (i+pre.length)) with | none=>none | some (a,n,e)=>some (a,n,i+pre.length+e)) else none
def headAt (l:Str):Option (Int × Int × Int × Int) :=
 match spanAt l 0 [64,64,32,45] with
 | none=>none
 | some (a,m,i)=>match spanAt l i [32,43] with
  | none=>none
  | some (b,n,j)=>if l.drop j=[32,64,64] then some (a,m,b,n) else none
def trimS (t:Str):Str:=if ended t=true then t.dropLast else t
def addLine (hs:List PatchHunk) (x:PatchLine):Option (List PatchHunk):=match hs.getLast? with
 | none=>none
 | some h=>some (hs.dropLast++[⟨h.Old,h.New,h.Lines++[x]⟩])
def cutLine (hs:List PatchHunk) (l:Str):Option (List PatchHunk):=match hs.getLast? with
 | none=>none
 | some h=>match h.Lines.getLast? with
  | none=>none
  | some x=>if l=noNl then some (hs.dropLast++[⟨h.Old,h.New,h.Lines.dropLast++[⟨x.Kind,trimS x.Text⟩]⟩]) else none
def stepP (hs:List PatchHunk) (l:Str):Option (List PatchHunk):=match l with
 | []=>none
 | c::r=>if c=64 then (match headAt l with | none=>none | some (a,_,b,_)=>some (hs++[⟨a,b,[]⟩]))
  else if c=32∨c=45∨c=43 then addLine hs ⟨c,r++[10]⟩
  else if c=92 then cutLine hs l else none
theorem check12_good {p:Patch} (h:D56 p=0):D99 p.Hunks=true:=by
 unfold D56 at h
 split at h
 ·cases h
 ·split at h
  ·cases h
  ·rename_i h1;simpa using h1
end Go.AL
namespace Go.AL
open Go
structure CHunk where
 At:List Int
 Rows:List Row
 deriving DecidableEq
structure Comb where
 Path:Str
 Dense:Bool
 Parents:Int
 Hunks:List CHunk
 deriving DecidableEq
def colNum (n k:Nat):Int:=if k=n then -1 else k
def cntC (rows:List Row) (n k:Nat):Int:=(colOf rows (colNum n k)).length
structure CRead (n:Nat) (h:CHunk):Prop where
 len:h.At.length=n+1
 ne:h.Rows≠[]
 at0:∀k,k < n+1→0≤h.At.getD k 0∧h.At.getD k 0+cntC h.Rows n k≤4096
 rows:∀r∈h.Rows,markOk n r=true∧o6 r.Text=true
end Go.AL
namespace Go.AL
open Go
end Go.AL
namespace Go.AL
open Go
theorem getI {l:List Int} {i:Nat} (h:i < l.length):l[i]?=some (l.getD i 0):=by simp [h]
end Go.AL
namespace Go.AL
open Go
end Go.AL
namespace Go.AL
open Go
abbrev C89:Bool→Nat→Cell:=fun b _=>.v (.bool b)
abbrev pBools (l:List Bool):PV:=.one (.list Bool 1 C89 l)
end Go.AL
namespace Go.AL
open Go
def i7 (l:List Int) (i j:Nat):List Int:=(l.set i (atG l j)).set j (atG l i)
def upH (bf:Int→Int→Bool):Nat→List Int→Nat→List Int
 | 0,l,_=>l
 | f+1,l,j=>if (j - 1) / 2=j∨bf (atG l j) (atG l ((j - 1) / 2))=false then l else upH bf f (i7 l ((j - 1) / 2) j) ((j - 1) / 2)
def E60 (bf:Int→Int→Bool) (n:Nat) (l:List Int) (i:Nat):Nat:=if 2*i+2 < n∧bf (atG l (2*i+2)) (atG l (2*i+1))=true then 2*i+2 else 2*i+1
def A64 (bf:Int→Int→Bool) (n:Nat):Nat→List Int→Nat→List Int
 | 0,l,_=>l
 | f+1,l,i=>if n≤2*i+1 then l else if bf (atG l (E60 bf n l i)) (atG l i)=false then l else A64 bf n f (i7 l i (E60 bf n l i)) (E60 bf n l i)
def D63 (bf:Int→Int→Bool) (l:List Int) (x:Int):List Int:=upH bf (l.length+1) (l++[x]) l.length
def D14 (bf:Int→Int→Bool) (l:List Int):List Int:=A64 bf (l.length - 1) l.length (i7 l 0 (l.length - 1)) 0
theorem P5 (l:List Int) (i j:Nat):(i7 l i j).length=l.length:=by simp [i7]
theorem m8 {l:List Int} {i j:Nat} (hi:i < l.length) (hj:j < l.length) (k:Nat):atG (i7 l i j) k=if k=j then atG l i else if k=i then atG l j else atG l k:=by
 unfold i7
 rw [A94 (by rw [L26];exact hj),A94 hi]
 simp only [@eq_comm Nat j k,@eq_comm Nat i k]
theorem R3 {l:List Int} {k:Nat} (h:k < l.length):atG l k=l[k]:=by unfold atG;rw [L01 h];rfl
theorem G49 {l:List Int} {i j:Nat} (hi:i < l.length) (hj:j < l.length) (x:Int):x∈i7 l i j↔x∈l:=by
 have sub:∀{l:List Int} {i j:Nat},i < l.length→j < l.length→∀x,x∈i7 l i j→x∈l:=by
  intro l i j hi hj x hx
  obtain ⟨k,hk,e⟩:=List.getElem_of_mem hx
  rw [←R3 hk,m8 hi hj] at e
  rw [P5] at hk
  split at e
  ·rw [←e,R3 hi];exact L05 hi
  ·split at e
   ·rw [←e,R3 hj];exact L05 hj
   ·rw [←e,R3 hk];exact L05 hk
 refine ⟨sub hi hj x,fun hx=>?_⟩
 have e:i7 (i7 l i j) i j=l:=by
  refine List.ext_getElem (by rw [P5,P5]) fun k h1 h2=>?_
  rw [←R3 h1,←R3 h2,m8 (by rw [P5];exact hi) (by rw [P5];exact hj),m8 hi hj,m8 hi hj,m8 hi hj]
  by_cases h3:k=j
  ·subst h3
   rw [if_pos rfl]
   by_cases h4:i=k
   ·rw [if_pos h4,h4]
   ·rw [if_neg h4,if_pos rfl]
  ·rw [if_neg h3]
   by_cases h4:k=i
   ·rw [if_pos h4,if_pos rfl,h4]
   ·rw [if_neg h4,if_neg h3,if_neg h4]
 exact sub (by rw [P5];exact hi) (by rw [P5];exact hj) x (by rw [e];exact hx)
theorem K66 {l:List Int}:l.Nodup↔∀i j,i < l.length→j < l.length→atG l i=atG l j→i=j:=by
 constructor
 ·intro h i j hi hj e
  rw [R3 hi,R3 hj] at e
  exact (List.getElem_inj h).1 e
 ·intro h
  rw [List.Nodup,List.pairwise_iff_getElem]
  intro i j hi hj hlt e
  have:=h i j hi hj (by rw [R3 hi,R3 hj];exact e)
  omega
theorem I19 {l:List Int} {i j:Nat} (hi:i < l.length) (hj:j < l.length) (h:l.Nodup):(i7 l i j).Nodup:=by
 rw [K66] at h ⊢
 intro a b ha hb e
 rw [P5] at ha hb
 rw [m8 hi hj,m8 hi hj] at e
 by_cases a1:a=j<;>by_cases b1:b=j
 ·omega
 ·rw [if_pos a1,if_neg b1] at e
  by_cases b2:b=i
  ·rw [if_pos b2] at e;have:=h _ _ hi hj e;omega
  ·rw [if_neg b2] at e;have:=h _ _ hi hb e;omega
 ·rw [if_neg a1,if_pos b1] at e
  by_cases a2:a=i
  ·rw [if_pos a2] at e;have:=h _ _ hj hi e;omega
  ·rw [if_neg a2] at e;have:=h _ _ ha hi e;omega
 ·rw [if_neg a1,if_neg b1] at e
  by_cases a2:a=i<;>by_cases b2:b=i
  ·omega
  ·rw [if_pos a2,if_neg b2] at e;have:=h _ _ hj hb e;omega
  ·rw [if_neg a2,if_pos b2] at e;have:=h _ _ ha hj e;omega
  ·rw [if_neg a2,if_neg b2] at e;exact h _ _ ha hb e
structure SameL (l m:List Int):Prop where
 len:m.length=l.length
 mem:∀x,x∈m↔x∈l
 nodup:l.Nodup→m.Nodup
theorem SameL.refl (l:List Int):SameL l l:=⟨rfl,fun _=>Iff.rfl,id⟩
theorem SameL.trans {a b c:List Int} (h:SameL a b) (h2:SameL b c):SameL a c:=⟨h2.len.trans h.len,fun x=>(h2.mem x).trans (h.mem x),fun hn=>h2.nodup (h.nodup hn)⟩
theorem SameL.swap {l:List Int} {i j:Nat} (hi:i < l.length) (hj:j < l.length):SameL l (i7 l i j):=⟨P5 l i j,G49 hi hj,I19 hi hj⟩
structure Weak (bf:Int→Int→Bool):Prop where
 irr:∀a,bf a a=false
 asy:∀{a b},bf a b=true→bf b a=false
 ntr:∀{a b c},bf a b=false→bf b c=false→bf a c=false
def D64 (bf:Int→Int→Bool) (n:Nat) (l:List Int):Prop:=∀k,k < n→0 < k→bf (atG l k) (atG l ((k - 1) / 2))=false
theorem K16 {bf:Int→Int→Bool} (w:Weak bf) {n:Nat} {l:List Int} (h:D64 bf n l):∀k,k < n→bf (atG l k) (atG l 0)=false:=by
 intro k
 induction k using Nat.strongRecOn with
 | _ k ih =>
  intro hk
  by_cases h0:k=0
  ·subst h0;exact w.irr _
  ·exact w.ntr (h k hk (by omega)) (ih ((k - 1) / 2) (by omega) (by omega))
theorem I20 {bf:Int→Int→Bool} (w:Weak bf) {n:Nat}:∀(f j:Nat) (l:List Int),j < f→j < n→n≤l.length →
  (∀k,k < n→0 < k→k≠j→bf (atG l k) (atG l ((k - 1) / 2))=false)→(∀k,k < n→0 < k→(k - 1) / 2=j→0 < j→bf (atG l k) (atG l ((j - 1) / 2))=false) →
  D64 bf n (upH bf f l j)∧SameL l (upH bf f l j)
 | 0,j,l,hf,_,_,_,_=>by omega
 | f + 1,j,l,hf,hj,hl,h1,h2=>by
  unfold upH
  split
  ·rename_i h
   refine ⟨fun k hk h0=>?_,SameL.refl l⟩
   by_cases e:k=j
   ·subst e
    rcases h with h | h
    ·omega
    ·exact h
   ·exact h1 k hk h0 e
  ·rename_i h
   have hne:(j - 1) / 2≠j:=fun e=>h (.inl e)
   have hlt:bf (atG l j) (atG l ((j - 1) / 2))=true:=by
    cases hb:bf (atG l j) (atG l ((j - 1) / 2))
    ·exact absurd (.inr hb) h
    ·rfl
   have hi:(j - 1) / 2 < l.length:=by omega
   have hjl:j < l.length:=by omega
   have hsw:=m8 hi hjl
   obtain ⟨a,b⟩:=I20 (n:=n) w f ((j - 1) / 2) (i7 l ((j - 1) / 2) j) (by omega) (by omega) (by rw [P5];exact hl) (fun k hk h0 hne2=>by
    rw [hsw,hsw]
    by_cases e1:k=j
    ·rw [if_pos e1,e1,if_neg (by omega),if_pos rfl];exact w.asy hlt
    ·rw [if_neg e1,if_neg hne2]
     by_cases e2:(k - 1) / 2=j
     ·rw [if_pos e2];exact h2 k hk h0 e2 (by omega)
     ·rw [if_neg e2]
      by_cases e3:(k - 1) / 2=(j - 1) / 2
      ·rw [if_pos e3]
       have h3:=h1 k hk h0 e1
       rw [e3] at h3
       exact w.ntr h3 (w.asy hlt)
      ·rw [if_neg e3];exact h1 k hk h0 e1) (fun k hk h0 e h3=>by
    rw [hsw,hsw,if_neg (show ¬((j - 1) / 2 - 1) / 2=j by omega),if_neg (show ¬((j - 1) / 2 - 1) / 2=(j - 1) / 2 by omega)]
    have h4:=h1 ((j - 1) / 2) (by omega) h3 (by omega)
    by_cases e1:k=j
    ·rw [if_pos e1];exact h4
    ·rw [if_neg e1,if_neg (by omega)]
     have h5:=h1 k hk h0 e1
     rw [e] at h5
     exact w.ntr h5 h4)
   exact ⟨a,(SameL.swap hi hjl).trans b⟩
theorem I21 {bf:Int→Int→Bool} (w:Weak bf) {l:List Int} (x:Int) (h:D64 bf l.length l):D64 bf (l.length+1) (D63 bf l x)∧SameL (l++[x]) (D63 bf l x):=by
 unfold D63
 have hat:∀k,k < l.length→atG (l++[x]) k=atG l k:=fun k hk=>by unfold atG;rw [L19 hk]
 refine I20 w (n:=l.length+1) (l.length+1) l.length (l++[x]) (by omega) (by omega) (by simp) (fun k hk h0 hne=>?_) (fun k hk h0 e h1=>by omega)
 rw [hat k (by omega),hat _ (by omega)]
 exact h k (by omega) h0
theorem J62 {bf:Int→Int→Bool} {n:Nat} {l:List Int} {i:Nat} (h:2*i+1 < n):E60 bf n l i < n∧(E60 bf n l i - 1) / 2=i∧i < E60 bf n l i:=by
 unfold E60;split<;>omega
theorem K67 {bf:Int→Int→Bool} (w:Weak bf) {n:Nat} {l:List Int} {i k:Nat} (hk:k < n) (h0:0 < k) (e:(k - 1) / 2=i):bf (atG l k) (atG l (E60 bf n l i))=false:=by
 unfold E60
 split
 ·rename_i h
  by_cases e1:k=2*i+2
  ·rw [e1];exact w.irr _
  ·rw [show k=2*i+1 by omega];exact w.asy h.2
 ·rename_i h
  by_cases e1:k=2*i+1
  ·rw [e1];exact w.irr _
  ·have e2:k=2*i+2:=by omega
   rw [e2]
   cases hb:bf (atG l (2*i+2)) (atG l (2*i+1))
   ·rfl
   ·exact absurd ⟨by omega,hb⟩ h
theorem F60 {bf:Int→Int→Bool} (w:Weak bf) {n:Nat}:∀(f i:Nat) (l:List Int),n≤i+f→n≤l.length →
  (∀k,k < n→0 < k→(k - 1) / 2≠i→bf (atG l k) (atG l ((k - 1) / 2))=false)→(∀k,k < n→0 < k→(k - 1) / 2=i→0 < i→bf (atG l k) (atG l ((i - 1) / 2))=false) →
  D64 bf n (A64 bf n f l i)∧SameL l (A64 bf n f l i)∧∀k,n≤k→atG (A64 bf n f l i) k=atG l k
 | 0,i,l,hf,_,h1,h2=>by
  unfold A64
  exact ⟨fun k hk h0=>h1 k hk h0 (by omega),SameL.refl l,fun _ _=>rfl⟩
 | f + 1,i,l,hf,hl,h1,h2=>by
  unfold A64
  split
  ·exact ⟨fun k hk h0=>h1 k hk h0 (by omega),SameL.refl l,fun _ _=>rfl⟩
  ·rename_i hn
   obtain ⟨c1,c2,c3⟩:=J62 (bf:=bf) (l:=l) (show 2*i+1 < n by omega)
   have c4:=fun k hk h0 e=>K67 (bf:=bf) w (n:=n) (l:=l) (i:=i) (k:=k) hk h0 e
   generalize E60 bf n l i=j at c1 c2 c3 c4
   split
   ·rename_i h
    refine ⟨fun k hk h0=>?_,SameL.refl l,fun _ _=>rfl⟩
    by_cases e:(k - 1) / 2=i
    ·rw [e];exact w.ntr (c4 k hk h0 e) h
    ·exact h1 k hk h0 e
   ·rename_i h
    have hlt:bf (atG l j) (atG l i)=true:=by simpa using h
    have hi:i < l.length:=by omega
    have hj:j < l.length:=by omega
    have hsw:=m8 hi hj
    obtain ⟨a,b,c⟩:=F60 (n:=n) w f j (i7 l i j) (by omega) (by rw [P5];exact hl) (fun k hk h0 hne=>by
     rw [hsw,hsw]
     rw [if_neg (show ¬(k - 1) / 2=j from hne)]
     by_cases e1:k=j
     ·rw [if_pos e1]
      rw [e1,if_pos c2];exact w.asy hlt
     ·rw [if_neg e1]
      by_cases e2:(k - 1) / 2=i
      ·rw [if_pos e2,if_neg (by omega)];exact c4 k hk h0 e2
      ·rw [if_neg e2]
       by_cases e3:k=i
       ·rw [if_pos e3,e3]
        exact h2 j c1 (by omega) c2 (by omega)
       ·rw [if_neg e3];exact h1 k hk h0 e2) (fun k hk h0 e h3=>by
     rw [hsw,hsw,if_neg (by omega),if_neg (by omega),c2,if_neg (by omega),if_pos rfl]
     have:=h1 k hk h0 (by omega)
     rw [e] at this;exact this)
    refine ⟨a,(SameL.swap hi hj).trans b,fun k hk=>?_⟩
    rw [c k hk,hsw,if_neg (by omega),if_neg (by omega)]
theorem popH_ok {bf:Int→Int→Bool} (w:Weak bf) {l:List Int} (h:D64 bf l.length l) (hl:0 < l.length) :
  D64 bf (l.length - 1) (D14 bf l)∧SameL l (D14 bf l)∧atG (D14 bf l) (l.length - 1)=atG l 0:=by
 unfold D14
 have h0:0 < l.length:=hl
 have h1:l.length - 1 < l.length:=by omega
 have hsw:=m8 h0 h1
 obtain ⟨a,b,c⟩:=F60 w (n:=l.length - 1) l.length 0 (i7 l 0 (l.length - 1)) (by omega) (by rw [P5];omega) (fun k hk hk0 hne=>by
  rw [hsw,hsw,if_neg (by omega),if_neg (by omega),if_neg (by omega),if_neg hne]
  exact h k (by omega) hk0) (fun k hk hk0 e h3=>by omega)
 refine ⟨a,(SameL.swap h0 h1).trans b,?_⟩
 rw [c _ (Nat.le_refl _),hsw,if_pos rfl]
end Go.AL
namespace Go.AL
open Go
def A28 (g:Graph) (c:Nat):Int:=(g[c]?.map (·.Date)).getD 0
def U0 (g:Graph) (a b:Int):Bool:=decide (A28 g a.toNat > A28 g b.toNat∨(A28 g a.toNat=A28 g b.toNat∧a < b))
theorem C49 (g:Graph):Weak (U0 g) where
 irr:=fun a=>by unfold U0;rw [decide_eq_false_iff_not];omega
 asy:=fun {a b} h=>by unfold U0 at h ⊢;rw [decide_eq_true_eq] at h;rw [decide_eq_false_iff_not];omega
 ntr:=fun {a b c} h h2=>by unfold U0 at h h2 ⊢;rw [decide_eq_false_iff_not] at h h2 ⊢;omega
def A29 (g:Graph) (inn:List Bool) (L:List Int) (c:Nat):Bool:=K2 inn c&&decide ((c:Int)∉L)&&(List.range g.length).all fun k=>!(decide ((c:Int)∈F3 g k)&&K2 inn k&&decide ((k:Int)∉L))
def D15 (g:Graph) (inn:List Bool) (L:List Int):Nat→Int
 | 0 => -1
 | m+1=>if A29 g inn L m=true∧(D15 g inn L m < 0∨A28 g m > A28 g (D15 g inn L m).toNat) then m else D15 g inn L m
def A98 (g:Graph) (inn:List Bool) (L:List Int):Int:=D15 g inn L g.length
def E03 (g:Graph) (inn:List Bool):Nat→List Int→List Int
 | 0,L=>L
 | f+1,L=>if A98 g inn L < 0 then L else E03 g inn f (L++[A98 g inn L])
def D65 (g:Graph) (s:List Int):List Int:=E03 g (P6 g s) (g.length+1) []
theorem C50 (g:Graph) (inn:List Bool) (L:List Int):∀m,(D15 g inn L m = -1∧∀c,c < m→A29 g inn L c=false)∨∃b:Nat,b < m∧D15 g inn L m=b∧A29 g inn L b=true∧∀c,c < m→A29 g inn L c=true→c≠b→U0 g b c=true
 | 0=>.inl ⟨rfl,fun _ h=>by omega⟩
 | m + 1=>by
  rw [D15]
  rcases C50 g inn L m with ⟨h1,h2⟩ | ⟨b,h1,h2,h3,h4⟩
  ·rw [h1]
   cases hr:A29 g inn L m
   ·rw [if_neg (by simp)]
    exact .inl ⟨rfl,fun c hc=>by
     by_cases e:c=m
     ·rw [e];exact hr
     ·exact h2 c (by omega)⟩
   ·rw [if_pos ⟨rfl,.inl (by omega)⟩]
    exact .inr ⟨m,by omega,rfl,hr,fun c hc hcr hne=>by rw [h2 c (by omega)] at hcr;cases hcr⟩
  ·rw [h2]
   split
   ·rename_i h
    have hd:A28 g m > A28 g b:=by
     rcases h.2 with h | h
     ·omega
     ·simpa using h
    refine .inr ⟨m,by omega,rfl,h.1,fun c hc hcr hne=>?_⟩
    unfold U0
    rw [decide_eq_true_eq,L03,L03]
    by_cases e:c=b
    ·subst e;exact .inl hd
    ·have:=A1 (h4 c (by omega) hcr e)
     rw [L03,L03] at this
     omega
   ·rename_i h
    refine .inr ⟨b,by omega,rfl,h3,fun c hc hcr hne=>?_⟩
    by_cases e:c=m
    ·subst e
     unfold U0
     rw [decide_eq_true_eq,L03,L03]
     have:¬A28 g c > A28 g b:=fun hd=>h ⟨hcr,.inr (by simpa using hd)⟩
     omega
    ·exact h4 c (by omega) hcr hne
theorem J11 {g:Graph} {inn:List Bool} {L:List Int} (h:∀c,c < g.length→A29 g inn L c=false):A98 g inn L = -1:=by
 rcases C50 g inn L g.length with h1 | ⟨b,h1,_,h3,_⟩
 ·exact h1.1
 ·rw [h b h1] at h3;cases h3
theorem K68 {g:Graph} {inn:List Bool} {L:List Int} {b:Nat} (hb:b < g.length) (hr:A29 g inn L b=true) (h:∀c,c < g.length→A29 g inn L c=true→U0 g c b=false):A98 g inn L=b:=by
 rcases C50 g inn L g.length with h1 | ⟨b',h1,h2,h3,h4⟩
 ·rw [h1.2 b hb] at hr;cases hr
 ·unfold A98
  rw [h2]
  by_cases e:b=b'
  ·rw [e]
  ·have:=h4 b hb hr e
   rw [h b' h1 h3] at this;cases this
theorem K17 {g:Graph} {inn:List Bool} {L:List Int} (h:0≤A98 g inn L):∃b:Nat,b < g.length∧A98 g inn L=b∧K2 inn b=true∧(b:Int)∉L:=by
 rcases C50 g inn L g.length with h1 | ⟨b,h1,h2,h3,_⟩
 ·have:A98 g inn L = -1:=h1.1
  omega
 ·unfold A29 at h3
  rw [L02,L02,decide_eq_true_eq] at h3
  exact ⟨b,h1,h2,h3.1.1,h3.1.2⟩
theorem K18 {g:Graph} {inn:List Bool} {f:Nat} {L:List Int} (hf:0 < f) (h:0≤A98 g inn L):E03 g inn f L=E03 g inn (f - 1) (L++[A98 g inn L]):=by
 obtain ⟨f,rfl⟩:∃k,f=k+1:=⟨f - 1,by omega⟩
 rw [E03,if_neg (by omega)];rfl
theorem K69 {g:Graph} {inn:List Bool} {f:Nat} {L:List Int} (h:A98 g inn L < 0):E03 g inn f L=L:=by
 cases f with
 | zero=>rfl
 | succ f=>rw [E03,if_pos h]
theorem I22 {g:Graph} {inn:List Bool}:∀(f:Nat) (L:List Int),L.Nodup→(∀x∈L,0≤x∧x < g.length)→(E03 g inn f L).Nodup∧∀x∈E03 g inn f L,0≤x∧x < g.length
 | 0,L,h,h2=>⟨h,h2⟩
 | f+1,L,h,h2=>by
  rw [E03]
  split
  ·exact ⟨h,h2⟩
  ·rename_i hb
   obtain ⟨b,b1,b2,_,b4⟩:=K17 (g:=g) (inn:=inn) (L:=L) (by omega)
   rw [b2]
   refine I22 f _ (List.nodup_append.2 ⟨h,by simp,fun x hx y hy e=>by rw [List.mem_singleton.1 hy] at e;exact b4 (e ▸ hx)⟩) fun x hx=>?_
   rcases List.mem_append.1 hx with hx | hx
   ·exact h2 x hx
   ·rw [List.mem_singleton.1 hx];omega
theorem E46 (g:Graph) (s:List Int):(D65 g s).Nodup∧∀x∈D65 g s,0≤x∧x < g.length:=I22 _ [] List.nodup_nil fun _ h=>by cases h
def E04 (g:Graph) (inn:List Bool) (ex:List Int) (p:Nat):Nat:=(List.range g.length).countP fun c:Nat=>K2 inn c&&decide ((c:Int)∉ex∧(p:Int)∈F3 g c)
theorem G50 {g:Graph} {inn:List Bool} {ex:List Int} {x p:Nat} (hx:(x:Int)∉ex) (hlt:x < g.length) (hon:K2 inn x=true):E04 g inn ex p=E04 g inn (ex++[(x:Int)]) p+(if (p:Int)∈F3 g x then 1 else 0):=by
 unfold E04
 rw [D09 (q:=fun c=>K2 inn c&&decide ((c:Int)∉ex∧(p:Int)∈F3 g c)) (r:=fun c=>K2 inn c&&decide ((c:Int)∉ex++[(x:Int)]∧(p:Int)∈F3 g c)) x (fun y=>?_) List.nodup_range]
 ·congr 1
  simp only [List.mem_range,hlt,true_and,decide_eq_true_eq,hx,not_false_eq_true,hon,Bool.true_and]
 ·simp only [L30,List.mem_singleton]
  by_cases h1:(y:Int)∈ex<;>by_cases h2:y=x<;>by_cases h3:(p:Int)∈F3 g y<;>cases K2 inn y<;>simp [h1,h2,h3]<;>omega
theorem K19 {g:Graph} {inn:List Bool} {ex:List Int} {p:Nat}:E04 g inn ex p=0↔∀c,c < g.length→K2 inn c=true→(p:Int)∈F3 g c→(c:Int)∈ex:=by
 unfold E04
 rw [List.countP_eq_zero]
 constructor
 ·intro h c hc ho hp
  have:=h c (List.mem_range.2 hc)
  rw [ho,Bool.true_and,decide_eq_true_eq] at this
  apply Classical.byContradiction
  exact fun hn=>this ⟨hn,hp⟩
 ·intro h c hc hh
  rw [L02,decide_eq_true_eq] at hh
  exact hh.2.1 (h c (List.mem_range.1 hc) hh.1 hh.2.2)
theorem H26 (g:Graph) (inn:List Bool) (ex:List Int) (p:Nat):E04 g inn ex p≤g.length:=by
 unfold E04
 have:=List.countP_le_length (p:=fun c=>K2 inn c&&decide ((c:Int)∉ex∧(p:Int)∈F3 g c)) (l:=List.range g.length)
 rwa [L39] at this
structure OInv (g:Graph) (inn:List Bool) (k i:Nat) (ch hp out:List Int):Prop where
 len:ch.length=g.length
 cnt:∀p,p < g.length→K2 inn p=true→atG ch p+(if (p:Int)∈(F3 g (out.getD k 0).toNat).take i then 1 else 0)=E04 g inn (out.take k) p
 off:∀p,p < g.length→K2 inn p=false→atG ch p = -1
 hpm:∀p:Nat,(p:Int)∈hp↔p < g.length∧K2 inn p=true∧(p:Int)∉out∧atG ch p=0
 hpr:∀x∈hp,0≤x∧x < g.length
 hpn:hp.Nodup
 heap:D64 (U0 g) hp.length hp
 outn:out.Nodup
 outr:∀x∈out,0≤x∧x < g.length∧K2 inn x.toNat=true∧atG ch x.toNat=0
theorem OInv.ready {g:Graph} {inn:List Bool} {ch hp out:List Int} (h:OInv g inn out.length 0 ch hp out) {c:Nat} (hc:c < g.length):A29 g inn out c=true↔(c:Int)∈hp:=by
 rw [h.hpm]
 unfold A29
 rw [L02,L02,decide_eq_true_eq,List.all_eq_true]
 have key:K2 inn c=true→((∀x∈List.range g.length,(!(decide ((c:Int)∈F3 g x)&&K2 inn x&&decide ((x:Int)∉out)))=true)↔atG ch c=0):=by
  intro ho
  have h1:=h.cnt c hc ho
  rw [L08,List.take_zero,if_neg (by simp)] at h1
  have h2:=K19 (g:=g) (inn:=inn) (ex:=out) (p:=c)
  constructor
  ·intro hall
   have:E04 g inn out c=0:=h2.2 fun k hk hok hp=>by
    have:=hall k (List.mem_range.2 hk)
    simpa [hp,hok] using this
   omega
  ·intro h0 k hk
   cases hok:K2 inn k
   ·simp
   ·by_cases hp:(c:Int)∈F3 g k
    ·have:=h2.1 (by omega) k (List.mem_range.1 hk) hok hp
     simp [hp,this]
    ·simp [hp]
 constructor
 ·rintro ⟨⟨h1,h2⟩,h3⟩;exact ⟨hc,h1,h2,(key h1).1 h3⟩
 ·rintro ⟨_,h1,h2,h3⟩;exact ⟨⟨h1,h2⟩,(key h1).2 h3⟩
theorem OInv.fin {g:Graph} {inn:List Bool} {ch out:List Int} (h:OInv g inn out.length 0 ch [] out):A98 g inn out = -1 :=
 J11 fun c hc=>by
  cases hr:A29 g inn out c
  ·rfl
  ·have:=(h.ready hc).1 hr;cases this
theorem OInv.le {g:Graph} {inn:List Bool} {k i:Nat} {ch hp out:List Int} (h:OInv g inn k i ch hp out):out.length≤g.length∧hp.length≤g.length :=
 ⟨u7 h.outn fun x hx=>⟨(h.outr x hx).1,(h.outr x hx).2.1⟩,u7 h.hpn h.hpr⟩
theorem K20 {l m:List Int} {n:Nat} (hn:n+1=l.length) (hs:SameL l m) (hnd:l.Nodup) {x:Int} (hx:atG m n=x):(∀y,y∈m.take n↔y∈l∧y≠x)∧(m.take n).Nodup∧(m.take n).length=n:=by
 have hml:m.length=n+1:=by rw [hs.len,hn]
 have hmn:=hs.nodup hnd
 have hlt:n < m.length:=by omega
 have e:m=m.take n++[x]:=by
  have h1:m.take (n+1)=m:=L31 (by omega)
  rw [List.take_add_one,L01 hlt,Option.toList_some] at h1
  rw [R3 hlt] at hx
  rw [hx] at h1
  exact h1.symm
 have hnd2:=hmn
 rw [e,List.nodup_append] at hnd2
 refine ⟨fun y=>?_,hnd2.1,by rw [L10];omega⟩
 rw [←hs.mem y]
 constructor
 ·intro hy
  exact ⟨List.mem_of_mem_take hy,hnd2.2.2 y hy x (by simp)⟩
 ·rintro ⟨hy,hne⟩
  rw [e] at hy
  rcases List.mem_append.1 hy with hy | hy
  ·exact hy
  ·exact absurd (List.mem_singleton.1 hy) hne
theorem OInv.pop {g:Graph} {inn:List Bool} {ch hp out:List Int} (h:OInv g inn out.length 0 ch hp out) (h0:0 < hp.length) :
  A98 g inn out=atG hp 0∧OInv g inn out.length 0 ch ((D14 (U0 g) hp).take (hp.length - 1)) (out++[atG hp 0])∧atG (D14 (U0 g) hp) (hp.length - 1)=atG hp 0:=by
 have hm:atG hp 0∈hp:=by rw [R3 h0];exact L05 h0
 have hr:=h.hpr _ hm
 obtain ⟨c,hc⟩:∃c:Nat,atG hp 0=c:=⟨(atG hp 0).toNat,by omega⟩
 have hm2:=(h.hpm c).1 (by rw [←hc];exact hm)
 obtain ⟨p1,p2,p3⟩:=popH_ok (C49 g) h.heap h0
 obtain ⟨t1,t2,t3⟩:=K20 (n:=hp.length - 1) (by omega) p2 h.hpn p3
 have hb:A98 g inn out=c:=K68 hm2.1 ((h.ready hm2.1).2 (by rw [←hc];exact hm)) fun d hd hdr=>by
  obtain ⟨j,hj,e⟩:=List.getElem_of_mem ((h.ready hd).1 hdr)
  have:=K16 (C49 g) h.heap j hj
  rw [R3 hj,e,hc] at this
  exact this
 refine ⟨by rw [hb,hc],?_,p3⟩
 rw [hc] at t1 ⊢
 refine ⟨h.len,fun p hp ho=>?_,h.off,fun p=>?_,fun x hx=>h.hpr x ((t1 x).1 hx).1,t2,?_,?_,?_⟩
 ·have h1:=h.cnt p hp ho
  rw [List.take_zero,if_neg (by simp)] at h1 ⊢
  rw [A20 (Nat.le_refl _)]
  exact h1
 ·rw [t1,h.hpm,L30,List.mem_singleton,not_or]
  constructor
  ·rintro ⟨⟨a1,a2,a3,a4⟩,a5⟩;exact ⟨a1,a2,⟨a3,a5⟩,a4⟩
  ·rintro ⟨a1,a2,⟨a3,a5⟩,a4⟩;exact ⟨⟨a1,a2,a3,a4⟩,a5⟩
 ·rw [t3]
  intro k hk hk0
  have e:∀j,j < hp.length - 1→atG ((D14 (U0 g) hp).take (hp.length - 1)) j=atG (D14 (U0 g) hp) j:=fun j hj=>by
   unfold atG;rw [List.getElem?_take,if_pos hj]
  rw [e k hk,e _ (by omega)]
  exact p1 k hk hk0
 ·exact List.nodup_append.2 ⟨h.outn,by simp,fun x hx y hy e=>by rw [List.mem_singleton.1 hy] at e;exact hm2.2.2.1 (e ▸ hx)⟩
 ·intro x hx
  rcases List.mem_append.1 hx with hx | hx
  ·exact h.outr x hx
  ·rw [List.mem_singleton.1 hx,L03];exact ⟨by omega,by omega,hm2.2.1,hm2.2.2.2⟩
theorem OInv.step {g:Graph} {inn:List Bool} (hr:related g=true) (hcl:A93 g inn) {k i:Nat} {ch hp out:List Int} (h:OInv g inn k i ch hp out) (hk:k+1=out.length) {c p:Nat} (hc:out[k]?=some (c:Int)) (hi:i < (F3 g c).length) (hpp:(F3 g c)[i]=(p:Int)) :
  p < g.length∧1≤atG ch p∧atG ch p≤g.length∧hp.length < g.length∧OInv g inn k (i+1) (Y5 ch p) (if atG ch p - 1=0 then D63 (U0 g) hp p else hp) out:=by
 have hkl:k < out.length:=by omega
 have hc:out[k]=(c:Int):=by rw [L01 hkl] at hc;exact Option.some.inj hc
 have hpr:=K8 hr c
 have hpm:(p:Int)∈F3 g c:=by rw [←hpp];exact L05 hi
 have hplt:p < g.length:=by have:=hpr.1 p hpm;omega
 have hco:=h.outr out[k] (L05 hkl)
 rw [hc,L03] at hco
 have hclt:c < g.length:=by omega
 have hon:K2 inn p=true:=by have:=hcl c hco.2.2.1 p hpm;rwa [L03] at this
 have hg0:out.getD k 0=(c:Int):=by rw [L07,L01 hkl];exact hc
 have hnt:(c:Int)∉out.take k:=by rw [←hc];exact Y9 h.outn hkl
 have hnp:(p:Int)∉(F3 g c).take i:=by rw [←hpp];exact Y9 hpr.2 hi
 have h1:=h.cnt p hplt hon
 rw [hg0,L03,if_neg hnp] at h1
 have h2:=G50 (g:=g) (inn:=inn) (ex:=out.take k) (x:=c) (p:=p) hnt hclt hco.2.2.1
 rw [if_pos hpm] at h2
 have hle:=H26 g inn (out.take k) p
 have hge:1≤atG ch p:=by omega
 have hnout:(p:Int)∉out:=fun hm=>by have:=(h.outr _ hm).2.2.2;rw [L03] at this;omega
 have hnhp:(p:Int)∉hp:=fun hm=>by have:=((h.hpm p).1 hm).2.2.2;omega
 have hst:∀q,atG (Y5 ch p) q=if p=q then atG ch p - 1 else atG ch q:=fun q=>by
  unfold Y5
  rw [L03,A94 (by rw [h.len];exact hplt)]
 have hlen:hp.length < g.length:=by
  have:=u7 (l:=(c:Int)::hp) (n:=g.length) (List.nodup_cons.2 ⟨fun hm=>((h.hpm c).1 hm).2.2.1 (by rw [←hc];exact L05 hkl),h.hpn⟩) fun x hx=>by
   rcases List.mem_cons.1 hx with rfl | hx
   ·omega
   ·exact h.hpr x hx
  rw [L04] at this;omega
 obtain ⟨u1,u2⟩:=I21 (C49 g) (p:Int) h.heap
 refine ⟨hplt,hge,by omega,hlen,⟨by unfold Y5;rw [L26];exact h.len,?_,?_,?_,?_,?_,?_,h.outn,?_⟩⟩
 ·intro q hq ho
  rw [hg0,L03,hst q]
  by_cases e:p=q
  ·subst e
   rw [if_pos rfl,if_pos ((T7 hi).2 (.inr hpp.symm))];omega
  ·rw [if_neg e]
   have h3:=h.cnt q hq ho
   rw [hg0,L03] at h3
   have h4:((q:Int)∈(F3 g c).take (i+1))↔(q:Int)∈(F3 g c).take i:=by
    rw [T7 hi,hpp]
    exact ⟨fun h=>h.resolve_right (by omega),.inl⟩
   simp only [h4]
   exact h3
 ·intro q hq ho
  rw [hst q,if_neg (fun e=>by rw [e,ho] at hon;cases hon)]
  exact h.off q hq ho
 ·intro q
  rw [hst q]
  by_cases e:p=q
  ·subst e
   rw [if_pos rfl]
   split
   ·rename_i h0
    rw [u2.mem]
    exact ⟨fun _=>⟨hplt,hon,hnout,h0⟩,fun _=>by simp⟩
   ·rename_i h0
    exact ⟨fun hm=>absurd hm hnhp,fun hm=>absurd hm.2.2.2 h0⟩
  ·rw [if_neg e,←h.hpm q]
   split
   ·rw [u2.mem,L30,List.mem_singleton]
    exact ⟨fun hm=>hm.resolve_right (by omega),.inl⟩
   ·exact Iff.rfl
 ·intro x hx
  split at hx
  ·rw [u2.mem,L30,List.mem_singleton] at hx
   rcases hx with hx | rfl
   ·exact h.hpr x hx
   ·omega
  ·exact h.hpr x hx
 ·split
  ·exact u2.nodup (List.nodup_append.2 ⟨h.hpn,by simp,fun x hx y hy e=>by rw [List.mem_singleton.1 hy] at e;exact hnhp (e ▸ hx)⟩)
  ·exact h.hpn
 ·split
  ·rw [u2.len,L06,List.length_singleton];exact u1
  ·exact h.heap
 ·intro x hx
  have h3:=h.outr x hx
  refine ⟨h3.1,h3.2.1,h3.2.2.1,?_⟩
  rw [hst,if_neg (fun e=>hnout (by rw [show ((p:Nat):Int)=x by omega];exact hx))]
  exact h3.2.2.2
theorem OInv.next {g:Graph} {inn:List Bool} {k:Nat} {ch hp out:List Int} (hk:k+1=out.length) {c:Nat} (hc:out[k]?=some (c:Int)) (h:OInv g inn k (F3 g c).length ch hp out):OInv g inn out.length 0 ch hp out:=by
 refine { h with cnt:=fun p hp ho=>?_ }
 have hkl:k < out.length:=by omega
 have hc:out[k]=(c:Int):=by rw [L01 hkl] at hc;exact Option.some.inj hc
 have h1:=h.cnt p hp ho
 have hg0:out.getD k 0=(c:Int):=by rw [L07,L01 hkl];exact hc
 have hco:=h.outr out[k] (L05 hkl)
 rw [hc,L03] at hco
 rw [hg0,L03,L08] at h1
 have h2:=G50 (g:=g) (inn:=inn) (ex:=out.take k) (x:=c) (p:=p) (by rw [←hc];exact Y9 h.outn hkl) (by omega) hco.2.2.1
 have e:out.take (k+1)=out.take k++[(c:Int)]:=by rw [List.take_add_one,L01 hkl,Option.toList_some,hc]
 rw [←hk,e,List.take_zero,if_neg (by simp)]
 split at h1
 ·rename_i hm;rw [if_pos hm] at h2;omega
 ·rename_i hm;rw [if_neg hm] at h2;omega
structure HInv (g:Graph) (ch hp:List Int) (i:Nat):Prop where
 mem:∀p:Nat,(p:Int)∈hp↔p < i∧atG ch p=0
 rng:∀x∈hp,0≤x∧x < i
 nodup:hp.Nodup
 heap:D64 (U0 g) hp.length hp
theorem HInv.nil (g:Graph) (ch:List Int):HInv g ch [] 0:=⟨fun p=>by simp,(fun _ h=>by cases h),List.nodup_nil,fun k hk=>by simp at hk⟩
theorem HInv.le {g:Graph} {ch hp:List Int} {i:Nat} (h:HInv g ch hp i):hp.length≤i:=u7 h.nodup h.rng
theorem HInv.step {g:Graph} {ch hp:List Int} {i:Nat} (h:HInv g ch hp i):HInv g ch (if atG ch i=0 then D63 (U0 g) hp (i:Int) else hp) (i+1):=by
 obtain ⟨u1,u2⟩:=I21 (C49 g) (i:Int) h.heap
 split
 ·rename_i h0
  refine ⟨fun p=>?_,fun x hx=>?_,u2.nodup (List.nodup_append.2 ⟨h.nodup,by simp,fun x hx y hy e=>by rw [List.mem_singleton.1 hy] at e;have:=h.rng x hx;omega⟩),by rw [u2.len,L06,List.length_singleton];exact u1⟩
  ·rw [u2.mem,L30,List.mem_singleton,h.mem]
   constructor
   ·rintro (⟨a,b⟩ | e)
    ·exact ⟨by omega,b⟩
    ·have e:p=i:=by omega
     subst e;exact ⟨by omega,h0⟩
   ·rintro ⟨a,b⟩
    by_cases e:p=i
    ·right;omega
    ·exact .inl ⟨by omega,b⟩
  ·rw [u2.mem,L30,List.mem_singleton] at hx
   rcases hx with hx | rfl
   ·have:=h.rng x hx;omega
   ·omega
 ·rename_i h0
  refine ⟨fun p=>?_,fun x hx=>by have:=h.rng x hx;omega,h.nodup,h.heap⟩
  rw [h.mem]
  constructor
  ·rintro ⟨a,b⟩;exact ⟨by omega,b⟩
  ·rintro ⟨a,b⟩
   refine ⟨?_,b⟩
   apply Classical.byContradiction
   intro hn
   have:p=i:=by omega
   subst this;exact h0 b
def cntD (g:Graph) (D:List Int) (p:Nat):Nat:=D.countP fun x=>decide ((p:Int)∈F3 g x.toNat)
structure DInv (g:Graph) (inn:List Bool) (st:List Int) (k i:Nat) (ch opn D:List Int):Prop where
 len:ch.length=g.length
 nodup:(D++opn).Nodup
 on:∀x∈D++opn,0≤x∧x < g.length∧K2 inn x.toNat=true
 cnt:∀p:Nat,(p:Int)∈D++opn→atG ch p=cntD g (D.take k) p+(if (p:Int)∈(F3 g (D.getD k 0).toNat).take i then 1 else 0)
 off:∀p,p < g.length→(p:Int)∉D++opn→atG ch p = -1
 clo:∀x∈D.take k,∀p∈F3 g x.toNat,p∈D++opn
 clo2:∀p∈(F3 g (D.getD k 0).toNat).take i,p∈D++opn
 sts:∀f∈st,f∈D++opn
theorem DInv.start (g:Graph) (inn:List Bool):DInv g inn [] 0 0 (List.replicate g.length (-1)) [] [] where
 len:=by simp
 nodup:=List.nodup_nil
 on:=fun _ h=>by cases h
 cnt:=fun _ h=>by cases h
 off:=fun p hp _=>by unfold atG;rw [List.getElem?_replicate,if_pos hp];rfl
 clo:=fun _ h=>by cases h
 clo2:=fun _ h=>by simp at h
 sts:=fun _ h=>by cases h
theorem DInv.le {g:Graph} {inn:List Bool} {st:List Int} {k i:Nat} {ch opn D:List Int} (h:DInv g inn st k i ch opn D):D.length+opn.length≤g.length:=by
 have:=u7 h.nodup fun x hx=>⟨(h.on x hx).1,(h.on x hx).2.1⟩
 rwa [L06] at this
theorem DInv.mem {g:Graph} {inn:List Bool} {st:List Int} {k i:Nat} {ch opn D:List Int} (h:DInv g inn st k i ch opn D) {p:Nat} (hp:p < g.length):atG ch p < 0↔(p:Int)∉D++opn:=by
 by_cases hm:(p:Int)∈D++opn
 ·have:=h.cnt p hm
  constructor
  ·intro hl;split at this<;>omega
  ·exact fun hn=>absurd hm hn
 ·have:=h.off p hp hm
  exact ⟨fun _=>hm,fun _=>by omega⟩
theorem DInv.reach {g:Graph} {inn:List Bool} {st:List Int} {k i:Nat} {ch opn D:List Int} (h:DInv g inn st k i ch opn D) (_hk:k≤D.length) {p:Nat} (hp:p < g.length) (ho:K2 inn p=true) (st':List Int) (hst:∀f∈st',f∈st∨f=p) :
  DInv g inn st' k i (if atG ch p < 0 then ch.set p 0 else ch) (if atG ch p < 0 then opn++[(p:Int)] else opn) D∧(p:Int)∈D++(if atG ch p < 0 then opn++[(p:Int)] else opn):=by
 split
 ·rename_i hl
  have hnm:=(h.mem hp).1 hl
  refine ⟨⟨by rw [L26];exact h.len,?_,?_,?_,?_,?_,?_,?_⟩,by simp⟩
  ·rw [←L15]
   exact List.nodup_append.2 ⟨h.nodup,by simp,fun x hx y hy e=>by rw [List.mem_singleton.1 hy] at e;exact hnm (e ▸ hx)⟩
  ·intro x hx
   rw [←L15] at hx
   rcases List.mem_append.1 hx with hx | hx
   ·exact h.on x hx
   ·rw [List.mem_singleton.1 hx,L03];exact ⟨by omega,by omega,ho⟩
  ·intro q hq
   rw [A94 (by rw [h.len];exact hp)]
   by_cases e:p=q
   ·subst e
    rw [if_pos rfl,if_neg (fun hm=>hnm (h.clo2 _ hm))]
    have:cntD g (D.take k) p=0:=by
     unfold cntD
     rw [List.countP_eq_zero]
     intro x hx hm
     exact hnm (h.clo x hx _ (A1 hm))
    rw [this];rfl
   ·rw [if_neg e]
    rw [←L15] at hq
    rcases List.mem_append.1 hq with hq | hq
    ·exact h.cnt q hq
    ·exact absurd (List.mem_singleton.1 hq) (by omega)
  ·intro q hq hn
   rw [←L15,L30,not_or,List.mem_singleton] at hn
   rw [A94 (by rw [h.len];exact hp),if_neg (by omega)]
   exact h.off q hq hn.1
  ·intro x hx q hq
   rw [←L15];exact List.mem_append_left _ (h.clo x hx q hq)
  ·intro q hq
   rw [←L15];exact List.mem_append_left _ (h.clo2 q hq)
  ·intro f hf
   rw [←L15]
   rcases hst f hf with hf | rfl
   ·exact List.mem_append_left _ (h.sts f hf)
   ·simp
 ·rename_i hl
  have hm:(p:Int)∈D++opn:=by
   apply Classical.byContradiction
   intro hn;exact hl ((h.mem hp).2 hn)
  refine ⟨{ h with sts:=fun f hf=>?_ },hm⟩
  rcases hst f hf with hf | rfl
  ·exact h.sts f hf
  ·exact hm
theorem DInv.count {g:Graph} {inn:List Bool} {st:List Int} {k i:Nat} {ch opn D:List Int} (h:DInv g inn st k i ch opn D) {c p:Nat} (hr:related g=true) (hc:D.getD k 0=(c:Int)) (hi:i < (F3 g c).length) (hpp:(F3 g c)[i]=(p:Int)) (hm:(p:Int)∈D++opn) :
  0≤atG ch p∧atG ch p≤g.length∧DInv g inn st k (i+1) (bump ch p) opn D:=by
 have hpr:=K8 hr c
 have hplt:p < g.length:=by have:=hpr.1 p (by rw [←hpp];exact L05 hi);omega
 have h1:=h.cnt p hm
 have hnp:(p:Int)∉(F3 g c).take i:=by rw [←hpp];exact Y9 hpr.2 hi
 rw [hc,L03,if_neg hnp] at h1
 have hle:cntD g (D.take k) p≤g.length:=by
  unfold cntD
  have h2:=List.countP_le_length (p:=fun x:Int=>decide ((p:Int)∈F3 g x.toNat)) (l:=D.take k)
  rw [L10] at h2
  have:=h.le;omega
 have hst:∀q,atG (bump ch p) q=if p=q then atG ch p+1 else atG ch q:=fun q=>by
  unfold bump
  rw [L03,A94 (by rw [h.len];exact hplt)]
 refine ⟨by omega,by omega,{ h with len:=by unfold bump;rw [L26];exact h.len,cnt:=fun q hq=>?_,off:=fun q hq hn=>?_,clo2:=fun q hq=>?_ }⟩
 ·rw [hst q,hc,L03]
  by_cases e:p=q
  ·subst e
   rw [if_pos rfl,if_pos ((T7 hi).2 (.inr hpp.symm))];omega
  ·rw [if_neg e]
   have h3:=h.cnt q hq
   rw [hc,L03] at h3
   have h4:((q:Int)∈(F3 g c).take (i+1))↔(q:Int)∈(F3 g c).take i:=by
    rw [T7 hi,hpp]
    exact ⟨fun h=>h.resolve_right (by omega),.inl⟩
   simp only [h4]
   exact h3
 ·rw [hst q,if_neg (show ¬p=q from fun e=>hn (by rw [←e];exact hm))]
  exact h.off q hq hn
 ·rw [hc,L03] at hq
  rcases (T7 hi).1 hq with hq | rfl
  ·exact h.clo2 q (by rw [hc,L03];exact hq)
  ·rw [hpp];exact hm
theorem DInv.pop {g:Graph} {inn:List Bool} {st:List Int} {ch opn D:List Int} {c:Int} (h:DInv g inn st D.length 0 ch (opn++[c]) D):DInv g inn st D.length 0 ch opn (D++[c]):=by
 have hmem:∀x,x∈(D++[c])++opn↔x∈D++(opn++[c]):=fun x=>by
  simp only [L30,List.mem_singleton]
  constructor
  ·rintro ((h | h) | h)
   ·exact .inl h
   ·exact .inr (.inr h)
   ·exact .inr (.inl h)
  ·rintro (h | h | h)
   ·exact .inl (.inl h)
   ·exact .inr h
   ·exact .inl (.inr h)
 have ht:(D++[c]).take D.length=D:=by rw [A20 (Nat.le_refl _),L08]
 refine ⟨h.len,?_,fun x hx=>h.on x ((hmem x).1 hx),fun p hp=>?_,fun p hp hn=>h.off p hp fun hm=>hn ((hmem _).2 hm),fun x hx p hp=>?_,fun p hp=>by simp at hp,fun f hf=>(hmem f).2 (h.sts f hf)⟩
 ·have h1:=h.nodup
  rw [List.nodup_append,List.nodup_append] at h1
  rw [L15,List.nodup_append,List.nodup_append]
  refine ⟨h1.1,⟨by simp,h1.2.1.1,fun x hx y hy e=>?_⟩,fun x hx y hy=>?_⟩
  ·exact h1.2.1.2.2 y hy x hx e.symm
  ·refine h1.2.2 x hx y ?_
   rcases List.mem_append.1 hy with hy | hy
   ·exact List.mem_append_right _ hy
   ·exact List.mem_append_left _ hy
 ·have h1:=h.cnt p ((hmem _).1 hp)
  rw [List.take_zero,if_neg (by simp),L08] at h1
  rw [ht,List.take_zero,if_neg (by simp)]
  exact h1
 ·rw [ht] at hx
  exact (hmem p).2 (h.clo x (by rw [L08];exact hx) p hp)
theorem DInv.next {g:Graph} {inn:List Bool} {st:List Int} {k:Nat} {ch opn D:List Int} {c:Nat} (hk:k+1=D.length) (hc:D.getD k 0=(c:Int)) (h:DInv g inn st k (F3 g c).length ch opn D):DInv g inn st D.length 0 ch opn D:=by
 have hkl:k < D.length:=by omega
 have hc2:D[k]?=some (c:Int):=by
  rw [L07,L01 hkl] at hc
  rw [L01 hkl];exact congrArg some hc
 have e:D.take D.length=D.take k++[(c:Int)]:=by rw [←hk,List.take_add_one,hc2,Option.toList_some]
 refine { h with cnt:=fun p hp=>?_,clo:=fun x hx p hp=>?_,clo2:=fun p hp=>by simp at hp }
 ·have h1:=h.cnt p hp
  rw [hc,L03,L08] at h1
  rw [List.take_zero,if_neg (show ¬(p:Int)∈([]:List Int) by simp),h1,e]
  unfold cntD
  rw [List.countP_append,List.countP_singleton,L03]
  by_cases hm:(p:Int)∈F3 g c<;>simp [hm]
 ·rw [e] at hx
  rcases List.mem_append.1 hx with hx | hx
  ·exact h.clo x hx p hp
  ·rw [List.mem_singleton.1 hx,L03] at hp
   exact h.clo2 p (by rw [hc,L03,L08];exact hp)
theorem I23 {q:Int→Bool} {l m:List Int} (hl:l.Nodup) (hm:m.Nodup) (h:∀x,x∈l↔x∈m):l.countP q=m.countP q:=by
 rw [List.countP_eq_length_filter,List.countP_eq_length_filter]
 have key:∀{l m:List Int},l.Nodup→(∀x,x∈l↔x∈m)→(l.filter q).length≤(m.filter q).length:=fun hl h =>
  C44 (hl.filter _) fun x hx=>by
   rw [List.mem_filter] at hx ⊢
   exact ⟨(h x).1 hx.1,hx.2⟩
 have h1:=key hl h
 have h2:=key hm fun x=>(h x).symm
 omega
theorem DInv.fin {g:Graph} {s ch D:List Int} (hr:related g=true) (hs:∀f∈s,0≤f∧f < g.length) (h:DInv g (P6 g s) s D.length 0 ch [] D) :
  ∀p,p < g.length→atG ch p=if K2 (P6 g s) p=true then (E04 g (P6 g s) [] p:Int) else -1:=by
 have hiff:∀p:Nat,K2 (P6 g s) p=true↔(p:Int)∈D:=by
  intro p
  constructor
  ·intro ho
   obtain ⟨f,hf,h2⟩:=(C47 hr hs p).1 ho
   clear ho
   have h0:(f:Int)∈D:=by simpa using h.sts f hf
   have hcl:∀x:Nat,(x:Int)∈D→∀q:Nat,(q:Int)∈F3 g x→(q:Int)∈D:=fun x hx q hq=>by
    have:=h.clo x (by rw [L08];exact hx) q (by rw [L03];exact hq)
    simpa using this
   rcases h2 with rfl | h2
   ·exact h0
   ·induction h2 with
    | one h=>exact hcl _ h0 _ h
    | more _ h2 ih=>exact hcl _ ih _ h2
  ·intro hm
   have:=(h.on p (by simpa using hm)).2.2
   rwa [L03] at this
 intro p hp
 split
 ·rename_i ho
  have h1:=h.cnt p (by simpa using (hiff p).1 ho)
  rw [L08,List.take_zero,if_neg (by simp)] at h1
  rw [h1,Int.add_zero]
  congr 1
  have hD:D.Nodup:=by have:=h.nodup;rwa [L29] at this
  have h2:∀x∈D,0≤x∧x < g.length:=fun x hx=>by
   have:=h.on x (by simpa using hx);exact ⟨this.1,this.2.1⟩
  unfold cntD E04
  have e:(List.range g.length).countP (fun c=>K2 (P6 g s) c&&decide ((c:Int)∉([]:List Int)∧(p:Int)∈F3 g c))=(((List.range g.length).filter fun c=>K2 (P6 g s) c).map fun c:Nat=>(c:Int)).countP fun x=>decide ((p:Int)∈F3 g x.toNat):=by
   rw [List.countP_map,List.countP_filter]
   refine List.countP_congr fun c _=>?_
   simp only [L47,not_false_eq_true,true_and,Function.comp_def,L03,L02,decide_eq_true_eq]
   exact And.comm
  rw [e]
  refine I23 hD ((List.nodup_range.filter _).map (fun i:Nat=>(i:Int)) fun _ _ hne e=>hne (Int.ofNat.inj e)) fun x=>?_
  rw [List.mem_map]
  constructor
  ·intro hx
   have:=h2 x hx
   refine ⟨x.toNat,List.mem_filter.2 ⟨List.mem_range.2 (by omega),(hiff _).2 (by rw [Int.toNat_of_nonneg this.1];exact hx)⟩,by omega⟩
  ·rintro ⟨c,hc,rfl⟩
   exact (hiff c).1 (List.mem_filter.1 hc).2
 ·rename_i ho
  exact h.off p hp fun hm=>ho ((hiff p).2 (by simpa using hm))
theorem OInv.start {g:Graph} {inn:List Bool} {ch hp:List Int} (hl:ch.length=g.length) (_hin:inn.length=g.length) (hc:∀p,p < g.length→atG ch p=if K2 inn p=true then (E04 g inn [] p:Int) else -1) (h:HInv g ch hp g.length):OInv g inn 0 0 ch hp [] where
 len:=hl
 cnt:=fun p hp ho=>by rw [hc p hp,if_pos ho,List.take_zero,List.take_zero];simp
 off:=fun p hp ho=>by rw [hc p hp,ho];rfl
 hpm:=fun p=>by
  rw [h.mem]
  constructor
  ·rintro ⟨a,b⟩
   refine ⟨a,?_,by simp,b⟩
   cases ho:K2 inn p
   ·rw [hc p a,ho] at b;simp at b
   ·rfl
  ·rintro ⟨a,_,_,b⟩;exact ⟨a,b⟩
 hpr:=h.rng
 hpn:=h.nodup
 heap:=h.heap
 outn:=List.nodup_nil
 outr:=fun _ h=>by cases h
end Go.AL
namespace Go.AL
open Go
def Z2 (nd s:Str) (p:Nat):Option Nat:=if nd=[]∨p > s.length∨Lib.index (s.drop p) nd < 0 then none else some (p+(Lib.index (s.drop p) nd).toNat)
def A65 (nd s:Str):Nat→Nat→List Int→List Int
 | 0,_,out=>out
 | f+1,p,out=>match Z2 nd s p with
  | none=>out
  | some i=>A65 nd s f (i+nd.length) (out++[(i:Int)])
def i8 (nd s:Str):List Int:=A65 nd s (s.length+2) 0 []
def c7 (nd s:Str):Int:=(i8 nd s).length
theorem A99 {nd s:Str} {p i:Nat} (h:Z2 nd s p=some i):nd≠[]∧p≤s.length∧p≤i∧i+nd.length≤s.length:=by
 unfold Z2 at h
 split at h
 ·cases h
 ·rename_i hn
  simp only [not_or] at hn
  have h1:=Lib.index_room (s.drop p) nd (by omega)
  rw [L12] at h1
  have e:=Option.some.inj h
  exact ⟨hn.1,by omega,by omega,by omega⟩
theorem D16 {nd s:Str} {f p i:Nat} {out:List Int} (hf:s.length < f+p) (h:Z2 nd s p=some i):A65 nd s f p out=A65 nd s (f - 1) (i+nd.length) (out++[(i:Int)]):=by
 have:=A99 h
 obtain ⟨f,rfl⟩:∃k,f=k+1:=⟨f - 1,by omega⟩
 rw [A65,h];rfl
theorem B39 {nd s:Str} {f p:Nat} {out:List Int} (h:Z2 nd s p=none):A65 nd s f p out=out:=by
 cases f with
 | zero=>rfl
 | succ f=>rw [A65,h]
theorem F61 {nd s:Str}:∀(f f' p:Nat) (out:List Int),s.length < f+p→s.length < f'+p→A65 nd s f p out=A65 nd s f' p out
 | 0,f',p,out,h,_=>by
  have:Z2 nd s p=none:=by
   cases hn:Z2 nd s p with
   | none=>rfl
   | some i=>have:=A99 hn;omega
  rw [B39 this,B39 this]
 | f+1,f',p,out,h,h'=>by
  cases hn:Z2 nd s p with
  | none=>rw [B39 hn,B39 hn]
  | some i =>
   have hr:=A99 hn
   have hl:0 < nd.length:=List.length_pos_iff.2 hr.1
   rw [D16 h hn,D16 h' hn]
   exact F61 f (f' - 1) _ _ (by omega) (by omega)
theorem B20 (nd s:Str):(i8 nd s).length≤s.length+2:=by
 have key:∀(f p:Nat) (out:List Int),(A65 nd s f p out).length≤out.length+f:=by
  intro f
  induction f with
  | zero=>intro p out;exact Nat.le_refl _
  | succ f ih =>
   intro p out
   rw [A65]
   split
   ·omega
   ·rename_i i _
    have:=ih (i+nd.length) (out++[(i:Int)])
    rw [L06,List.length_singleton] at this
    omega
 have:=key (s.length+2) 0 []
 unfold i8
 simpa using this
def R4 (g:Graph) (c:Nat):List File:=(g[c]?.map (·.Files)).getD []
def S3 (g:Graph) (c:Nat):List (List File):=if F3 g c=[] then [[]] else (F3 g c).map fun p=>R4 g p.toNat
def B00 (l:List File) (p:Str):Str:=(L7 l p).getD []
def J12 (t u:List File) (d:Delta):Str × Str:=(B00 t d.Path,B00 u d.Path)
def B74 (t u:List File):List (Str × Str):=(Z6 t u).map (J12 t u)
def O4 (g:Graph) (c:Nat):List (List (Str × Str)):=(S3 g c).map fun t=>B74 t (R4 g c)
def differs (nd:Str) (x:Str × Str):Bool:=decide (c7 nd x.1≠c7 nd x.2)
def n8 (f:Str × Str→Bool) (g:Graph) (c:Nat):Bool:=(O4 g c).any fun l=>l.any f
def v6 (g:Graph) (c:Int):Prop:=0≤c∧c < g.length
instance (g:Graph) (c:Int):Decidable (v6 g c):=inferInstanceAs (Decidable (_∧_))
def X1 (g:Graph) (s:Int):List Int × Int:=if H3 g≠0 then ([],H3 g) else if v6 g s then (D65 g [s],0) else ([],5)
def Q5 (f:Str × Str→Bool) (g:Graph) (s:Int):List Int × Int:=if (X1 g s).2≠0 then ([],(X1 g s).2) else ((X1 g s).1.filter fun c=>n8 f g c.toNat,0)
def X9 (g:Graph) (s:Int) (nd:Str):List Int × Int:=if nd=[] then ([],2) else if nd.length > 256 then ([],1) else Q5 (differs nd) g s
def j1 (nd:Str) (l:List (Str × Str)):Int:=(l.map fun x=>c7 nd x.2 - c7 nd x.1).sum
def a8 (g:Graph) (c:Int):Int:=if H3 g≠0 then H3 g else if v6 g c then 0 else 5
def y8 (g:Graph) (c:Int) (nd:Str):List Int × Int:=if a8 g c≠0 then ([],a8 g c) else ((O4 g c.toNat).map (j1 nd),0)
def A66:Str × Str→Nat→Cell:=fun x j=>match j with
 | 0=>.v (.string ⟨x.1.toArray⟩)
 | _=>.v (.string ⟨x.2.toArray⟩)
abbrev B21:List (Str × Str)→Nat→Cell:=fun l _=>.list (Str × Str) 2 A66 l
abbrev pPairs (l:List (Str × Str)):PV:=.one (.list (Str × Str) 2 A66 l)
abbrev H27 (l:List (List (Str × Str))):PV:=.one (.list (List (Str × Str)) 1 B21 l)
end Go.AL
namespace Go.AL
open Go
structure Set4 where
 a:Int
 b:Int
 c:Int
 d:Int
 deriving DecidableEq
def orI (x y:Int):Int:=((x.toNat ||| y.toNat:Nat):Int)
def set0:Set4:=⟨0,0,0,0⟩
def Set4.with_ (s:Set4) (c:Nat):Set4:=match c / 64 with
 | 0=>{ s with a:=orI s.a (2 ^ (c % 64)) }
 | 1=>{ s with b:=orI s.b (2 ^ (c % 64)) }
 | 2=>{ s with c:=orI s.c (2 ^ (c % 64)) }
 | _=>{ s with d:=orI s.d (2 ^ (c % 64)) }
def V0:Nat→Nat→Set4→Set4
 | 0,_,s=>s
 | n+1,c,s=>V0 n (c+1) (s.with_ c)
def Set4.through (s:Set4) (a b:Nat):Set4:=V0 (b+1 - a) a s
def Set4.compl (s:Set4):Set4:=⟨18446744073709551615 - s.a,18446744073709551615 - s.b,18446744073709551615 - s.c,18446744073709551615 - s.d⟩
def B75 (s:Set4) (name:Str):Option Set4 :=
 if name=[97,108,112,104,97] then some ((s.through 97 122).through 65 90)
 else if name=[100,105,103,105,116] then some (s.through 48 57)
 else if name=[97,108,110,117,109] then some (((s.through 97 122).through 65 90).through 48 57)
 else if name=[117,112,112,101,114] then some (s.through 65 90)
 else if name=[108,111,119,101,114] then some (s.through 97 122)
 else if name=[115,112,97,99,101] then some ((s.through 9 13).with_ 32)
 else if name=[112,117,110,99,116] then some ((((s.through 33 47).through 58 64).through 91 96).through 123 126)
 else none
def T5 (s:Set4):Prop:=(0≤s.a∧s.a < 18446744073709551616)∧(0≤s.b∧s.b < 18446744073709551616)∧(0≤s.c∧s.c < 18446744073709551616)∧(0≤s.d∧s.d < 18446744073709551616)
theorem D66 {x:Int} (hx:0≤x∧x < 18446744073709551616) (k:Nat) (hk:k < 64):0≤orI x (2 ^ k)∧orI x (2 ^ k) < 18446744073709551616:=by
 unfold orI
 have h1:x.toNat < 2 ^ 64:=by omega
 have h2:((2:Int) ^ k).toNat < 2 ^ 64:=by
  have:((2:Int) ^ k).toNat=2 ^ k:=by
   rw [show ((2:Int) ^ k)=((2 ^ k:Nat):Int) by simp];exact L03 _
  rw [this];exact Nat.pow_lt_pow_right (by decide) hk
 have:=Nat.or_lt_two_pow h1 h2
 omega
theorem E05 {s:Set4} (h:T5 s) (c:Nat):T5 (s.with_ c):=by
 obtain ⟨h1,h2,h3,h4⟩:=h
 have hk:c % 64 < 64:=Nat.mod_lt _ (by decide)
 unfold Set4.with_
 split
 ·exact ⟨D66 h1 _ hk,h2,h3,h4⟩
 ·exact ⟨h1,D66 h2 _ hk,h3,h4⟩
 ·exact ⟨h1,h2,D66 h3 _ hk,h4⟩
 ·exact ⟨h1,h2,h3,D66 h4 _ hk⟩
theorem A67:∀(n c:Nat) {s:Set4},T5 s→T5 (V0 n c s)
 | 0,_,_,h=>h
 | n+1,c,_,h=>A67 n (c+1) (E05 h c)
theorem N5 {s:Set4} (h:T5 s) (a b:Nat):T5 (s.through a b):=A67 _ _ h
theorem C28:∀(n c:Nat) (s:Set4),V0 (n+1) c s=(V0 n c s).with_ (c+n)
 | 0,_,_=>rfl
 | n+1,c,s=>by
  rw [V0,C28 n (c+1),V0,show c+1+n=c+(n+1) by omega]
theorem J13 {s t:Set4} (h:T5 s) {n:Str} (he:B75 s n=some t):T5 t:=by
 unfold B75 at he
 repeat' split at he
 all_goals first
  | (rw [←Option.some.inj he];(repeat (with_reducible first | apply N5 | apply E05));exact h)
  | exact absurd he (by simp)
structure Node where
 Kind:Int
 Set:Set4
 Min:Int
 Max:Int
 Kids:List Int
 deriving DecidableEq
def A68:Node→Nat→Cell:=fun n j=>match j with
 | 0=>.v (.int .i64 n.Kind)
 | 1=>.v (.int .u64 n.Set.a)
 | 2=>.v (.int .u64 n.Set.b)
 | 3=>.v (.int .u64 n.Set.c)
 | 4=>.v (.int .u64 n.Set.d)
 | 5=>.v (.int .i64 n.Min)
 | 6=>.v (.int .i64 n.Max)
 | _=>.list Int 1 F2 n.Kids
abbrev W5 (s:Set4):PV:=.agg [.v (.int .u64 s.a),.v (.int .u64 s.b),.v (.int .u64 s.c),.v (.int .u64 s.d)]
abbrev D67 (n:Node):PV:=.agg [.v (.int .i64 n.Kind),.v (.int .u64 n.Set.a),.v (.int .u64 n.Set.b),.v (.int .u64 n.Set.c),.v (.int .u64 n.Set.d),.v (.int .i64 n.Min),.v (.int .i64 n.Max),.list Int 1 F2 n.Kids]
abbrev j2 (l:List Node):PV:=.one (.list Node 8 A68 l)
def A36:Node:=⟨0,set0,0,0,[]⟩
structure PSt where
 at_:Nat
 depth:Nat
 nodes:List Node
abbrev Ps (α:Type):=Except Int (PSt × α)
section
variable (s:Str)
def U4 (c:UInt8) (st:PSt):Bool:=decide (s[st.at_]?=some c)
def PSt.skip (st:PSt) (n:Nat):PSt:={ st with at_:=st.at_+n }
def E47 (c:UInt8) (st:PSt):PSt:=if U4 s c st=true then st.skip 1 else st
def B86 (st:PSt):Ps UInt8:=match s[st.at_]? with
 | none=>.error 40
 | some c=>.ok (st.skip 1,c)
def D17 (n:Node) (st:PSt):PSt × Int:=({ st with nodes:=st.nodes++[n] },st.nodes.length)
def C29 (kind:Int) (kids:List Int) (st:PSt):PSt × Int:=match kids with
 | []=>D17 A36 st
 | [k]=>(st,k)
 | _=>D17 { A36 with Kind:=kind,Kids:=kids } st
def C63 (t:Set4) (st:PSt):PSt × Int:=D17 { A36 with Kind:=1,Set:=t } st
def B76 (a b:UInt8) (l:Str):Bool:=decide (l[0]?=some a∧l[1]?=some b)
def B01 (t:Set4) (st:PSt):Ps Set4 :=
 let rest:=s.drop st.at_
 if B76 91 58 rest=true then
  let r:=rest.drop 2
  if Lib.index r [58,93] < 0 then .error 40
  else match B75 t (r.take (Lib.index r [58,93]).toNat) with
   | none=>.error 40
   | some t'=>.ok (st.skip (4+(Lib.index r [58,93]).toNat),t')
 else match s[st.at_]? with
  | none=>.error 40
  | some c =>
   let r:=s.drop (st.at_+1)
   if r.length < 2∨r[0]?≠some 45∨r[1]?=some 93 then .ok (st.skip 1,t.with_ c.toNat)
   else if (r.getD 1 0).toNat < c.toNat then .error 40
   else .ok (st.skip 3,t.through c.toNat (r.getD 1 0).toNat)
def B22:Nat→Set4→PSt→Ps Set4
 | 0,_,_=>.error 0
 | f+1,t,st=>if U4 s 93 st=true then .ok (st.skip 1,t) else match B01 s t st with
  | .error e=>.error e
  | .ok (st',t')=>B22 f t' st'
def B23 (f:Nat) (st:PSt):Ps Int :=
 let st1:=st.skip 1
 let st2:=E47 s 94 st1
 match B01 s set0 st2 with
 | .error e=>.error e
 | .ok (st3,t)=>match B22 s f t st3 with
  | .error e=>.error e
  | .ok (st4,t')=>.ok (C63 (if U4 s 94 st1=true then t'.compl else t') st4)
def n9 (kind:Int) (st:PSt):Ps Int :=
 let r:=D17 { A36 with Kind:=kind } (st.skip 1)
 match s[r.1.at_]? with
 | some c=>if c∈([42,43,63,123]:Str) then .error 40 else .ok r
 | none=>.ok r
def D68 (num:Str→Nat→Option (Int × Nat)) (st:PSt):Ps Int:=match num s st.at_ with
 | none=>.error 40
 | some (n,e)=>if n > 100 then .error 40 else .ok ({ st with at_:=e },n)
def j7 (num:Str→Nat→Option (Int × Nat)) (st:PSt):Ps (Int × Int):=match D68 s num st with
 | .error e=>.error e
 | .ok (st1,least) =>
  let fin:=fun (st:PSt) (most:Int)=>(if U4 s 125 st=false∨(0≤most∧most < least) then .error 40 else .ok (st.skip 1,(least,most)):Ps (Int × Int))
  if U4 s 44 st1=true then
   let st2:=st1.skip 1
   match s[st2.at_]? with
   | none=>fin st2 (-1)
   | some c=>if c=125 then fin st2 (-1) else match D68 s num st2 with
    | .error e=>.error e
    | .ok (st3,most)=>fin st3 most
  else fin st1 least
def v7 (num:Str→Nat→Option (Int × Nat)) (st:PSt):Ps (Option (Int × Int)) :=
 if U4 s 42 st=true then .ok (st.skip 1,some (0,-1))
 else if U4 s 43 st=true then .ok (st.skip 1,some (1,-1))
 else if U4 s 63 st=true then .ok (st.skip 1,some (0,1))
 else if U4 s 123 st=true then match j7 s num (st.skip 1) with
  | .error e=>.error e
  | .ok (st',b)=>.ok (st',some b)
 else .ok (st,none)
def c8 (st:PSt):Ps Int:=match B86 s st with
 | .error e=>.error e
 | .ok (st',c)=>.ok (C63 (set0.with_ c.toNat) st')
def C51 (st:PSt):Ps Int:=c8 s (st.skip 1)
def G00 (st:PSt):PSt × Int:=C63 set0.compl (st.skip 1)
def o3 (num:Str→Nat→Option (Int × Nat)) (r:Ps Int):Ps Int:=match r with
 | .error e=>.error e
 | .ok (st,atom)=>match v7 s num st with
  | .error e=>.error e
  | .ok (st',none)=>.ok (st',atom)
  | .ok (st',some (least,most))=>.ok (D17 { A36 with Kind:=6,Min:=least,Max:=most,Kids:=[atom] } st')
mutual
def B24 (num:Str→Nat→Option (Int × Nat)):Nat→PSt→Ps Int
 | 0,_=>.error 0
 | f+1,st=>match A69 num f st [] with
  | .error e=>.error e
  | .ok (st',k)=>A42 num f st' [k]
def A42 (num:Str→Nat→Option (Int × Nat)):Nat→PSt→List Int→Ps Int
 | 0,_,_=>.error 0
 | f+1,st,kids=>if U4 s 124 st=true then match A69 num f (st.skip 1) [] with
   | .error e=>.error e
   | .ok (st',k)=>A42 num f st' (kids++[k])
  else .ok (C29 5 kids st)
def A69 (num:Str→Nat→Option (Int × Nat)):Nat→PSt→List Int→Ps Int
 | 0,_,_=>.error 0
 | f+1,st,kids=>match s[st.at_]? with
  | none=>.ok (C29 4 kids st)
  | some c=>if c=124∨c=41 then .ok (C29 4 kids st) else match y9 num f st c with
   | .error e=>.error e
   | .ok (st',k)=>A69 num f st' (kids++[k])
def y9 (num:Str→Nat→Option (Int × Nat)):Nat→PSt→UInt8→Ps Int
 | 0,_,_=>.error 0
 | f+1,st,c =>
  if c=94 then n9 s 2 st
  else if c=36 then n9 s 3 st
  else if c=40 then o3 s num (U6 num f st)
  else if c=91 then o3 s num (B23 s (s.length+2) st)
  else if c=46 then o3 s num (.ok (G00 st))
  else if c=92 then o3 s num (C51 s st)
  else if c∈([42,43,63,123]:Str) then .error 40
  else o3 s num (c8 s st)
def U6 (num:Str→Nat→Option (Int × Nat)):Nat→PSt→Ps Int
 | 0,_=>.error 0
 | f+1,st=>if st.depth=50 then .error 1 else match B24 num f { st with at_:=st.at_+1,depth:=st.depth+1 } with
  | .error e=>.error e
  | .ok (st',n)=>if U4 s 41 st'=true then .ok ({ st' with at_:=st'.at_+1,depth:=st'.depth - 1 },n) else .error 40
end
def D69 (num:Str→Nat→Option (Int × Nat)) (f:Nat):List Node × Int :=
 if s.length > 256 then ([],1) else match B24 s num f ⟨0,0,[]⟩ with
  | .error e=>([],e)
  | .ok (st,_)=>if st.at_ < s.length then ([],40) else (st.nodes,0)
end
def A70 (n:Node) (i:Int):Bool:=n.Kids.all (fun k=>decide (0≤k∧k < i)) &&
 (if n.Kind=0∨n.Kind=1∨n.Kind=2∨n.Kind=3 then decide (n.Kids.length=0)
 else if n.Kind=4∨n.Kind=5 then decide (2≤n.Kids.length)
 else if n.Kind=6 then decide (n.Kids.length=1∧0≤n.Min∧n.Min≤100∧(n.Max = -1∨n.Min≤n.Max∧n.Max≤100)) else false)
def B25 (l:List Node):Int:=if l.length=0∨l.length > 4000 then 2 else if (List.range l.length).all (fun i=>A70 (l.getD i A36) i)=true then 0 else 2
def B02 (a b:Int):Int:=if b < a then b else a
def H28 (w:List Int):Int→List Int→Int
 | acc,[]=>acc
 | acc,k::r=>H28 w (B02 (acc+atG w k.toNat) 4001) r
def B03 (n:Node) (w:List Int):Int :=
 let sum:=H28 w 0 n.Kids
 if n.Kind=4 then sum
 else if n.Kind=5 then B02 (sum+n.Kids.length - 1) 4001
 else if n.Kind=6 then (if n.Max < 0 then B02 (n.Min*sum+sum+1) 4001 else B02 (n.Min*sum+(n.Max - n.Min)*(sum+1)) 4001)
 else 1
def Y0:List Node→Nat→List Int→List Int
 | [],_,w=>w
 | n::r,i,w=>Y0 r (i+1) (w.set i (B03 n w))
def Y1 (l:List Node):List Int:=Y0 l 0 (List.replicate l.length 0)
structure State where
 Kind:Int
 Set:Set4
 Next:Int
 Other:Int
 deriving DecidableEq
def z6:State→Nat→Cell:=fun n j=>match j with
 | 0=>.v (.int .i64 n.Kind)
 | 1=>.v (.int .u64 n.Set.a)
 | 2=>.v (.int .u64 n.Set.b)
 | 3=>.v (.int .u64 n.Set.c)
 | 4=>.v (.int .u64 n.Set.d)
 | 5=>.v (.int .i64 n.Next)
 | _=>.v (.int .i64 n.Other)
structure Auto where
 States:List State
 Start:Int
 deriving DecidableEq
abbrev J14 (n:State):PV:=.agg [.v (.int .i64 n.Kind),.v (.int .u64 n.Set.a),.v (.int .u64 n.Set.b),.v (.int .u64 n.Set.c),.v (.int .u64 n.Set.d),.v (.int .i64 n.Next),.v (.int .i64 n.Other)]
abbrev J63 (l:List State):PV:=.one (.list State 7 z6 l)
abbrev A24 (a:Auto):PV:=.agg [.list State 7 z6 a.States,.v (.int .i64 a.Start)]
def z7:State:=⟨0,set0,0,0⟩
abbrev Bld:=List State × Int
def addS (q:State) (st:List State):Bld:=(st++[q],st.length)
section
variable (ns:List Node) (w:List Int)
mutual
def U7:Nat→Int→Int→List State→Option Bld
 | 0,_,_,_=>none
 | f + 1,i,next,st =>
  if atG w i.toNat=0 then some (st,next)
  else
   let n:=ns.getD i.toNat A36
   if n.Kind=1 then some (addS { z7 with Kind:=0,Set:=n.Set,Next:=next } st)
   else if n.Kind=2 then some (addS { z7 with Kind:=2,Next:=next } st)
   else if n.Kind=3 then some (addS { z7 with Kind:=3,Next:=next } st)
   else if n.Kind=4 then catB f n.Kids.reverse next st
   else if n.Kind=5 then match n.Kids.reverse with
    | []=>none
    | k::r=>match U7 f k next st with
     | none=>none
     | some (st',start)=>H29 f r next start st'
   else if n.Kind=6 then
    let kid:=n.Kids.getD 0 0
    if n.Max < 0 then
     let loop:Int:=st.length
     match U7 f kid loop (st++[{ z7 with Kind:=1,Other:=next }]) with
     | none=>none
     | some (st',start)=>F63 f kid n.Min.toNat loop (st'.set loop.toNat { (st'.getD loop.toNat z7) with Next:=start })
    else match F62 f kid (n.Max - n.Min).toNat next next st with
     | none=>none
     | some (st',next')=>F63 f kid n.Min.toNat next' st'
   else some (st,next)
def catB:Nat→List Int→Int→List State→Option Bld
 | 0,_,_,_=>none
 | _+1,[],next,st=>some (st,next)
 | f+1,k::r,next,st=>match U7 f k next st with
  | none=>none
  | some (st',next')=>catB f r next' st'
def H29:Nat→List Int→Int→Int→List State→Option Bld
 | 0,_,_,_,_=>none
 | _+1,[],_,start,st=>some (st,start)
 | f+1,k::r,next,start,st=>match U7 f k next st with
  | none=>none
  | some (st',b)=>H29 f r next st'.length (st'++[{ z7 with Kind:=1,Next:=b,Other:=start }])
def F62:Nat→Int→Nat→Int→Int→List State→Option Bld
 | 0,_,_,_,_,_=>none
 | _+1,_,0,_,next,st=>some (st,next)
 | f+1,kid,m+1,last,next,st=>match U7 f kid next st with
  | none=>none
  | some (st',b)=>F62 f kid m last st'.length (st'++[{ z7 with Kind:=1,Next:=b,Other:=last }])
def F63:Nat→Int→Nat→Int→List State→Option Bld
 | 0,_,_,_,_=>none
 | _+1,_,0,next,st=>some (st,next)
 | f+1,kid,m+1,next,st=>match U7 f kid next st with
  | none=>none
  | some (st',next')=>F63 f kid m next' st'
end
end
end Go.AL
namespace Go.AL
open Go
def Z3 (q:State) (start fin:Bool):List Int :=
 if q.Kind=1 then [q.Next,q.Other] else if q.Kind=2 then (if start=true then [q.Next] else []) else if q.Kind=3 then (if fin=true then [q.Next] else []) else []
def B40 (n:Int) (q:State):Bool :=
 if q.Kind=0∨q.Kind=2∨q.Kind=3 then decide (0≤q.Next∧q.Next < n)
 else if q.Kind=1 then decide (0≤q.Next∧q.Next < n∧0≤q.Other∧q.Other < n)
 else decide (q.Kind=4)
def H30 (a:Auto):Int:=if a.States.length < 1∨a.States.length > 8000∨a.Start < 0∨a.Start≥a.States.length then 2 else if a.States.all (B40 a.States.length)=true then 0 else 2
structure Thread where
 state:Int
 from_:Int
 deriving DecidableEq
def j8:Thread→Nat→Cell:=fun t j=>match j with
 | 0=>.v (.int .i64 t.state)
 | _=>.v (.int .i64 t.from_)
abbrev Mach:=List Thread × List Bool
section
variable (a:Auto) (s:Str)
def q9 (i:Int):State:=a.States.getD i.toNat z7
def A71 (at_:Nat) (fr:Int):Nat→List Int→Mach→Mach
 | 0,_,m=>m
 | f+1,opn,m=>match opn.getLast? with
  | none=>m
  | some i=>if K2 m.2 i.toNat=true then A71 at_ fr f opn.dropLast m
   else A71 at_ fr f (opn.dropLast++Z3 (q9 a i) (decide (at_=0)) (decide (at_=s.length))) (m.1++[⟨i,fr⟩],m.2.set i.toNat true)
def addM (at_:Nat) (t:Thread) (m:Mach):Mach:=A71 a s at_ t.from_ (3*a.States.length+2) [t.state] m
def p9:List Thread→Int
 | [] => -1
 | t::r=>if (q9 a t.state).Kind=4 then t.from_ else p9 r
def D18 (q:Set4) (c:Nat):Int:=match c / 64 with
 | 0=>q.a.fdiv (2 ^ (c % 64)) % 2
 | 1=>q.b.fdiv (2 ^ (c % 64)) % 2
 | 2=>q.c.fdiv (2 ^ (c % 64)) % 2
 | _=>q.d.fdiv (2 ^ (c % 64)) % 2
def C30 (at_:Nat) (c:Nat):List Thread→Mach→Mach
 | [],m=>m
 | t::r,m=>C30 at_ c r (if (q9 a t.state).Kind=0∧D18 (q9 a t.state).Set c=1 then addM a s at_ ⟨(q9 a t.state).Next,t.from_⟩ m else m)
def D70 (at_:Nat) (m:Mach):Mach:=C30 a s (at_+1) (s.getD at_ 0).toNat m.1 ([],List.replicate a.States.length false)
def A72 (fr:Int):List Thread→List Thread
 | []=>[]
 | t::r=>if t.from_ > fr then [] else t::A72 fr r
def E06:Nat→Nat→Mach→(Int × Int)→Bool→(Int × Int) × Bool
 | 0,_,_,b,fd=>(b,fd)
 | f+1,at_,m,b,fd =>
  let m1:=if fd=true then m else addM a s at_ ⟨a.Start,at_⟩ m
  let i:=p9 a m1.1
  let b':=if 0≤i then (i,(at_:Int)) else b
  let fd':=if 0≤i then true else fd
  let m2:Mach:=if 0≤i then (A72 i m1.1,m1.2) else m1
  if at_=s.length∨(fd'=true∧m2.1=[]) then (b',fd') else E06 f (at_+1) (D70 a s at_ m2) b' fd'
def E48 (from_:Nat):(Int × Int) × Bool:=E06 a s (s.length+1 - from_) from_ ([],List.replicate a.States.length false) (0,0) false
end
end Go.AL
namespace Go.AL
open Go
structure AG (A:Auto):Prop where
 len:1≤A.States.length∧A.States.length≤8000
 start:0≤A.Start∧A.Start < A.States.length
 good:∀q∈A.States,B40 A.States.length q=true
theorem AG.check {A:Auto} (h:AG A):H30 A=0:=by
 obtain ⟨h1,h2⟩:=h.len
 obtain ⟨h3,h4⟩:=h.start
 unfold H30
 rw [if_neg (by omega),if_pos (List.all_eq_true.2 h.good)]
theorem D71 {A:Auto} {i:Int} (h:0≤i∧i < A.States.length):A.States[i.toNat]?=some (q9 A i):=by
 rw [q9,L07,L01 (show i.toNat < A.States.length by omega)];rfl
theorem E07 {A:Auto} (hA:AG A) {i:Int} (h:0≤i∧i < A.States.length):B40 A.States.length (q9 A i)=true:=hA.good _ (L14 (D71 h))
theorem B77 {n:Int} {q:State} (h:B40 n q=true) :
  ((q.Kind=0∨q.Kind=2∨q.Kind=3)∧0≤q.Next∧q.Next < n)∨(q.Kind=1∧(0≤q.Next∧q.Next < n)∧0≤q.Other∧q.Other < n)∨q.Kind=4:=by
 unfold B40 at h
 split at h
 ·rename_i hk;exact .inl ⟨hk,A1 h⟩
 ·split at h
  ·rename_i hk
   have:=A1 h
   exact .inr (.inl ⟨hk,⟨this.1,this.2.1⟩,this.2.2⟩)
  ·exact .inr (.inr (A1 h))
theorem F64 {A:Auto} (hA:AG A) {i:Int} (h:0≤i∧i < A.States.length) (b e:Bool):(Z3 (q9 A i) b e).length≤2∧∀k∈Z3 (q9 A i) b e,0≤k∧k < A.States.length:=by
 have hg:=B77 (E07 hA h)
 unfold Z3
 repeat' split
 all_goals refine ⟨by simp,fun k hk=>?_⟩
 all_goals simp only [L23,L47,or_false] at hk
 ·rcases hk with rfl | rfl
  ·omega
  ·omega
 ·subst hk;omega
 ·subst hk;omega
structure MG (A:Auto) (m:Mach):Prop where
 sl:m.2.length=A.States.length
 cnt:m.1.length+m.2.count false≤A.States.length
 st:∀t∈m.1,0≤t.state∧t.state < A.States.length
theorem G51 {sn:List Bool}:∀{i:Nat},sn[i]?=some false→(sn.set i true).count false+1=sn.count false:=by
 induction sn with
 | nil=>intro i h;cases h
 | cons b r ih =>
  intro i h
  cases i with
  | zero =>
   rw [List.getElem?_cons_zero] at h
   cases h
   simp
  | succ i =>
   rw [List.getElem?_cons_succ] at h
   have:=ih h
   rw [List.set_cons_succ,List.count_cons,List.count_cons]
   omega
theorem MG.first (A:Auto):MG A ([],List.replicate A.States.length false):=⟨by simp,by simp,fun _ h=>by cases h⟩
theorem J15 {sn:List Bool} {i:Nat} (h:i < sn.length):sn[i]?=some (K2 sn i):=by
 unfold K2;rw [L01 h];rfl
theorem MG.push {A:Auto} {m:Mach} (h:MG A m) {i:Int} (hi:0≤i∧i < A.States.length) (fr:Int) (ho:K2 m.2 i.toNat=false):MG A (m.1++[⟨i,fr⟩],m.2.set i.toNat true):=by
 have h1:=h.sl
 have h2:=G51 (sn:=m.2) (i:=i.toNat) (by rw [←ho];exact J15 (by omega))
 have h3:=h.cnt
 refine ⟨by dsimp only;rw [L26];exact h1,by dsimp only;rw [L06,List.length_singleton];omega,fun t ht=>?_⟩
 rcases List.mem_append.1 ht with ht | ht
 ·exact h.st t ht
 ·rw [List.mem_singleton.1 ht];exact hi
section
variable (A:Auto) (s:Str)
def muA (opn:List Int) (m:Mach):Nat:=3*m.2.count false+opn.length
theorem K21 (a:Nat) (fr:Int) (f:Nat) (m:Mach):A71 A s a fr f [] m=m:=by
 cases f<;>rfl
theorem F65 {a:Nat} {fr:Int} {f:Nat} {opn:List Int} {i:Int} {m:Mach} (h:opn.getLast?=some i) (ho:K2 m.2 i.toNat=true):A71 A s a fr (f+1) opn m=A71 A s a fr f opn.dropLast m:=by
 rw [A71,h]
 simp only [ho,if_true]
theorem G52 {a:Nat} {fr:Int} {f:Nat} {opn:List Int} {i:Int} {m:Mach} (h:opn.getLast?=some i) (ho:K2 m.2 i.toNat=false) :
  A71 A s a fr (f+1) opn m=A71 A s a fr f (opn.dropLast++Z3 (q9 A i) (decide (a=0)) (decide (a=s.length))) (m.1++[⟨i,fr⟩],m.2.set i.toNat true):=by
 rw [A71,h]
 simp only [ho,Bool.false_eq_true,if_false]
theorem F66 {opn:List Int} {i:Int} (h:opn.getLast?=some i):opn≠[]∧opn[opn.length - 1]?=some i∧i∈opn:=by
 have hne:opn≠[]:=fun e=>by rw [e] at h;cases h
 rw [List.getLast?_eq_getElem?] at h
 exact ⟨hne,h,L14 h⟩
variable {A}
theorem D19 (hA:AG A) {a:Nat} {fr:Int}:∀(f:Nat) (opn:List Int) (m:Mach),(∀k∈opn,0≤k∧k < A.States.length)→MG A m→MG A (A71 A s a fr f opn m)
 | 0,_,_,_,h=>h
 | f+1,opn,m,ho,h=>by
  cases hl:opn.getLast? with
  | none=>rw [A71,hl];exact h
  | some i =>
   have hi:=ho i (F66 hl).2.2
   have hd:∀k∈opn.dropLast,0≤k∧k < A.States.length:=fun k hk=>ho k (List.dropLast_subset _ hk)
   cases hs:K2 m.2 i.toNat
   ·rw [G52 A s hl hs]
    refine D19 hA f _ _ (fun k hk=>?_) (h.push hi fr hs)
    rcases List.mem_append.1 hk with hk | hk
    ·exact hd k hk
    ·exact (F64 hA hi _ _).2 k hk
   ·rw [F65 A s hl hs]
    exact D19 hA f _ _ hd h
theorem E08 (hA:AG A) {a:Nat} {t:Thread} (ht:0≤t.state∧t.state < A.States.length) {m:Mach} (h:MG A m):MG A (addM A s a t m) :=
 D19 s hA _ _ _ (fun k hk=>by rw [List.mem_singleton.1 hk];exact ht) h
theorem I24 (hA:AG A) {a:Nat} {fr:Int} {f:Nat} {opn:List Int} {m R:Mach} (hm:MG A m) (ho:∀k∈opn,0≤k∧k < A.States.length) (hf:muA opn m < f) (hR:A71 A s a fr f opn m=R) {i:Int} (hl:opn.getLast?=some i) :
  ∃f' opn' m',f=f'+1∧A71 A s a fr f' opn' m'=R∧muA opn' m' < f'∧muA opn' m' < muA opn m∧MG A m'∧(∀k∈opn',0≤k∧k < A.States.length) ∧
   (K2 m.2 i.toNat=true→opn'=opn.dropLast∧m'=m)∧(K2 m.2 i.toNat=false→opn'=opn.dropLast++Z3 (q9 A i) (decide (a=0)) (decide (a=s.length))∧m'=(m.1++[⟨i,fr⟩],m.2.set i.toNat true)):=by
 obtain ⟨hne,hg,hi0⟩:=F66 hl
 have hi:=ho i hi0
 have hpos:0 < opn.length:=List.length_pos_iff.2 hne
 have hdl:opn.dropLast.length=opn.length - 1:=List.length_dropLast
 have hd:∀k∈opn.dropLast,0≤k∧k < A.States.length:=fun k hk=>ho k (List.dropLast_subset _ hk)
 obtain ⟨f',rfl⟩:∃f',f=f'+1:=⟨f - 1,by omega⟩
 unfold muA at hf
 cases hs:K2 m.2 i.toNat
 ·have hc:=G51 (sn:=m.2) (i:=i.toNat) (by rw [←hs];exact J15 (by rw [hm.sl];omega))
  have h2:=F64 hA hi (decide (a=0)) (decide (a=s.length))
  rw [G52 A s hl hs] at hR
  refine ⟨f',_,_,rfl,hR,?_,?_,hm.push hi fr hs,(fun k hk=>?_),⟨(fun h=>by cases h),fun _=>⟨rfl,rfl⟩⟩⟩
  ·unfold muA;rw [L06,hdl];dsimp only;omega
  ·unfold muA;rw [L06,hdl];dsimp only;omega
  ·rcases List.mem_append.1 hk with hk | hk
   ·exact hd k hk
   ·exact h2.2 k hk
 ·rw [F65 A s hl hs] at hR
  refine ⟨f',_,_,rfl,hR,?_,?_,hm,hd,⟨(fun _=>⟨rfl,rfl⟩),fun h=>by cases h⟩⟩
  ·unfold muA;rw [hdl];omega
  ·unfold muA;rw [hdl];omega
theorem E49 (hA:AG A) {a c:Nat}:∀(th:List Thread) (m:Mach),(∀t∈th,0≤t.state∧t.state < A.States.length)→MG A m→MG A (C30 A s a c th m)
 | [],_,_,h=>h
 | t::r,m,ht,h=>by
  rw [C30]
  refine E49 hA r _ (fun x hx=>ht x (List.mem_cons_of_mem _ hx)) ?_
  split
  ·rename_i hk
   refine E08 s hA ?_ h
   have:=B77 (E07 hA (ht t (List.mem_cons_self ..)))
   dsimp only
   omega
  ·exact h
theorem F67 (hA:AG A) {a:Nat} {m:Mach} (h:MG A m):MG A (D70 A s a m):=E49 s hA _ _ h.st (MG.first A)
theorem D20 {fr:Int}:∀{th:List Thread} {i:Nat},(∀t∈th.take i,t.from_≤fr)→(∀t,th[i]?=some t→t.from_ > fr)→A72 fr th=th.take i
 | [],i,_,_=>by simp [A72]
 | t::r,0,_,h2=>by
  have:=h2 t rfl
  unfold A72;rw [if_pos this];rfl
 | t::r,i+1,h1,h2=>by
  have h3:=h1 t (by simp)
  have ih:=D20 (fr:=fr) (th:=r) (i:=i) (fun x hx=>h1 x (by rw [List.take_succ_cons];exact List.mem_cons_of_mem _ hx)) (fun x hx=>h2 x hx)
  rw [A72,if_neg (by omega),List.take_succ_cons,ih]
theorem I25 (fr:Int):∀th:List Thread,(A72 fr th).length≤th.length∧∀t∈A72 fr th,t∈th
 | []=>⟨Nat.le_refl _,fun _ h=>h⟩
 | t::r=>by
  have ih:=I25 fr r
  unfold A72
  split
  ·exact ⟨Nat.zero_le _,fun _ h=>by cases h⟩
  ·refine ⟨by rw [L04,L04];omega,fun x hx=>?_⟩
   rcases List.mem_cons.1 hx with rfl | hx
   ·simp
   ·exact List.mem_cons_of_mem _ (ih.2 x hx)
theorem MG.keep {m:Mach} (h:MG A m) (fr:Int):MG A (A72 fr m.1,m.2):=by
 have h1:=I25 fr m.1
 have h2:=h.cnt
 exact ⟨h.sl,by dsimp only;omega,fun t ht=>h.st t (h1.2 t ht)⟩
end
end Go.AL
namespace Go.AL
open Go
end Go.AL
attribute [local semireducible] Go.AL.Neu Go.AL.Eff Go.AL.EffV Go.AL.WpL Go.AL.WpC Go.AL.FnOk Go.AL.LexD Go.AL.Sees Go.AL.RetOk Go.AL.FnIo Go.AL.Met Go.AL.RetS
namespace Go.AL
open Go Go.RowKit
set_option linter.unusedVariables false
section
variable {P:Program} {dst:Option Tmp} {ty:TypeId} {pos:String} {af:Array Edge} {gd:Option (Nat × Bool)} {fr:Fr} {ob:Obs} {nt:Nat}
theorem v8 {x y:Operand} {t e:TypeId} {n es k off m:Nat} {ki:IntKind} {i:Int} [ht:TyArr P t e n es] (hx:opv fr x=some (.s (.one (.ref k off)))) (hy:opv fr y=some (I7 (.int ki i))) (hi:i=(m:Int)) (h1:m < n) :
  Neu P ⟨dst,.indexAddr t x y,ty,pos,af,gd⟩ fr ob (fun s'=>s'=.s (.one (.ref k (off+m*es)))):=by
 subst hi
 exact I5 hx hy (by omega) (by omega)
theorem C52 {ops:Array Oper} {rest:List Oper} {Q:Post} {d:Nat} {op:Op} {ty:TypeId} {pos:String} {af:Array Edge} {j t:Nat} {b:Bool} (ht:(ops[j]?).bind (·.dst)=some t) (htn:Nat.blt t nt=true) (hx:E5 fr t=some .un) (hd:Nat.blt d nt=true)
  (k:WpL P nt ops rest ((d,.un)::fr) ob Q):WpL P nt ops (⟨some d,op,ty,pos,af,some (j,b)⟩::rest) fr ob Q:=by
 intro S G a w hn hs
 have hlt:d < S.nt:=by rw [hn];simpa using hd
 have hk:=k S G _ w hn (hs.put (s:=.un) (v:=undef) hlt rfl)
 have hts:t < a.tmps.size:=by rw [hs.nt,hn];simpa using htn
 have hy:=(Wants.un (b:=b)).yields (hs.fact (by rw [←hs.nt];exact hts) hx) ht hts rfl
 unfold wpList
 rw [if_neg (by unfold Region.wanted;simp only;rw [hy];simp)]
 exact hk
end
theorem quo64 {c m:Nat} (hc:c < 256) (h:c / 64=m):IntKind.u8.wrap ((c:Int).tdiv 64)=(m:Int):=by
 rw [Int.tdiv_eq_ediv_of_nonneg (by omega)]
 simp [IntKind.wrap,IntKind.signed,IntKind.bits]
 omega
theorem rem64 (c:Nat):min ((c:Int).tmod 64).toNat IntKind.u64.bits=c % 64:=by
 rw [Int.tmod_eq_emod_of_nonneg (by omega)]
 simp only [IntKind.bits]
 omega
theorem I26 (x:Int):IntKind.u64.wrap ((BitVec.ofInt IntKind.u64.bits x &&& BitVec.ofInt IntKind.u64.bits 1).toNat:Int)=x % 2:=by
 have h1:(BitVec.ofInt IntKind.u64.bits 1).toNat=1:=by decide
 rw [BitVec.toNat_and,h1,Nat.and_one_is_mod,BitVec.toNat_ofInt,show ((2 ^ IntKind.u64.bits:Nat):Int)=18446744073709551616 by rfl]
 simp [IntKind.wrap,IntKind.signed,IntKind.bits]
 omega
end Go.AL
namespace Go.AL
open Go
def K5 (s:Str) (i:Nat):Option (Int × Nat):=(C88 (s.drop i)).map fun p=>((p.1:Int),i+p.2)
theorem digs_le (s:Str):(Q9 s).length≤s.length:=(List.takeWhile_sublist _).length_le
theorem numF_le {s:Str} {i e:Nat} {n:Int} (hi:i≤s.length) (h:K5 s i=some (n,e)):i < e∧e≤s.length∧0≤n:=by
 unfold K5 at h
 cases hn:C88 (s.drop i) with
 | none=>rw [hn] at h;cases h
 | some p =>
  obtain ⟨m,k⟩:=p
  rw [hn] at h
  cases h
  unfold C88 at hn
  split at hn
  ·cases hn
  ·rename_i h1
   cases hn
   have h2:=digs_le (s.drop i)
   rw [L12] at h2
   have h3:0 < (Q9 (s.drop i)).length:=List.length_pos_iff.2 fun e=>h1 (.inl e)
   omega
def okN (l:List Node):Prop:=∀(i:Nat) (n:Node),l[i]?=some n→A70 n i=true
theorem K70 {l:List Node} {n:Node} (h:okN l) (hn:A70 n l.length=true):okN (l++[n]):=fun i x hx=>by
 rw [List.getElem?_append] at hx
 split at hx
 ·exact h i x hx
 ·rename_i hlt
  obtain ⟨h1,h2⟩:=List.getElem?_eq_some_iff.1 hx
  simp only [List.length_singleton] at h1
  have e:i=l.length:=by omega
  subst e
  simp at h2
  rw [←h2];exact hn
section
variable (s:Str)
abbrev inN (st:PSt) (k:Int):Prop:=0≤k∧k < st.nodes.length
structure Gr (a b:Nat) (st st':PSt):Prop where
 at_:st.at_≤st'.at_
 len:st'.at_≤s.length
 dep:st'.depth=st.depth
 cnt:st'.nodes.length+st.at_+a≤st.nodes.length+st'.at_+b
 more:st.nodes.length≤st'.nodes.length
 ok:okN st.nodes→okN st'.nodes
variable {s}
theorem Gr.trans {a b c d:Nat} {x y z:PSt} (h:Gr s a b x y) (g:Gr s c d y z):Gr s (a+c) (b+d) x z where
 at_:=Nat.le_trans h.at_ g.at_
 len:=g.len
 dep:=g.dep.trans h.dep
 cnt:=by have:=h.cnt;have:=g.cnt;omega
 more:=Nat.le_trans h.more g.more
 ok:=fun k=>g.ok (h.ok k)
theorem Gr.le {a b c d:Nat} {x y:PSt} (h:Gr s a b x y) (hc:c+b≤a+d):Gr s c d x y where
 at_:=h.at_
 len:=h.len
 dep:=h.dep
 cnt:=by have:=h.cnt;omega
 more:=h.more
 ok:=h.ok
theorem Gr.refl {x:PSt} (h:x.at_≤s.length):Gr s 0 0 x x:=⟨Nat.le_refl _,h,rfl,by omega,Nat.le_refl _,fun h=>h⟩
theorem O0 {x:PSt} (k:Nat) (h:x.at_+k≤s.length):Gr s k 0 x (x.skip k):=⟨Nat.le_add_right _ _,h,rfl,by show x.nodes.length+x.at_+k≤x.nodes.length+(x.at_+k)+0;omega,Nat.le_refl _,fun h=>h⟩
theorem gr_at {x:PSt} (e:Nat) (h:x.at_≤e) (h2:e≤s.length):Gr s (e - x.at_) 0 x { x with at_:=e }:=⟨h,h2,rfl,by show x.nodes.length+x.at_+(e - x.at_)≤x.nodes.length+e+0;omega,Nat.le_refl _,fun h=>h⟩
theorem F68 {x:PSt} {n:Node} (h:x.at_≤s.length) (hn:A70 n x.nodes.length=true):Gr s 0 1 x (D17 n x).1∧inN (D17 n x).1 (D17 n x).2:=by
 refine ⟨⟨Nat.le_refl _,h,rfl,?_,?_,fun k=>K70 k hn⟩,?_⟩
 ·show (x.nodes++[n]).length+x.at_+0≤x.nodes.length+x.at_+1
  rw [L06,List.length_singleton];omega
 ·show x.nodes.length≤(x.nodes++[n]).length
  rw [L06];omega
 ·show 0≤(x.nodes.length:Int)∧(x.nodes.length:Int) < ((x.nodes++[n]).length:Int)
  rw [L06,List.length_singleton];omega
theorem E09 {k:Int} {t:Set4} {i:Int} (h:k=0∨k=1∨k=2∨k=3):A70 ⟨k,t,0,0,[]⟩ i=true:=by
 unfold A70
 rw [if_pos h];rfl
theorem J16 {x:PSt} (t:Set4) (h:x.at_≤s.length):Gr s 0 1 x (C63 t x).1∧inN (C63 t x).1 (C63 t x).2:=F68 h (E09 (.inr (.inl rfl)))
theorem J64 {kids:List Int} {n:Nat} (h:∀k∈kids,0≤k∧k < (n:Int)):(kids.all fun k=>decide (0≤k∧k < (n:Int)))=true:=List.all_eq_true.2 fun k hk=>decide_eq_true (h k hk)
theorem I27 {x:PSt} {kind:Int} (hk:kind=4∨kind=5) {kids:List Int} (hi:∀k∈kids,inN x k) (h:x.at_≤s.length):Gr s 0 1 x (C29 kind kids x).1∧inN (C29 kind kids x).1 (C29 kind kids x).2:=by
 match kids,hi with
 | [],_=>exact F68 h (E09 (.inl rfl))
 | [k],hi=>exact ⟨(Gr.refl h).le (by omega),hi k (List.mem_cons_self ..)⟩
 | k::l::r,hi =>
  refine F68 h ?_
  unfold A70
  dsimp only [A36]
  rw [J64 hi,if_neg (by omega),if_pos hk,Bool.true_and]
  exact decide_eq_true (by simp only [L04];omega)
theorem l5 {x:PSt} {c:UInt8} (h:U4 s c x=true):x.at_+1≤s.length:=by
 have h1:=A1 h
 have:=(List.getElem?_eq_some_iff.1 h1).1
 omega
theorem D72 {x:PSt} (c:UInt8) (h:x.at_≤s.length):Gr s 0 0 x (E47 s c x):=by
 unfold E47
 split
 ·rename_i hh
  exact (O0 1 (l5 hh)).le (by omega)
 ·exact Gr.refl h
theorem C53 {x y:PSt} {c:UInt8} (h:B86 s x=.ok (y,c)):Gr s 1 0 x y:=by
 unfold B86 at h
 split at h
 ·cases h
 ·rename_i hc
  cases h
  exact O0 1 (by have:=(List.getElem?_eq_some_iff.1 hc).1;omega)
theorem C54 {x y:PSt} {n:Int} (h:c8 s x=.ok (y,n)):Gr s 0 0 x y∧inN y n:=by
 unfold c8 at h
 cases ht:B86 s x with
 | error e=>rw [ht] at h;cases h
 | ok p =>
  obtain ⟨z,c⟩:=p
  rw [ht] at h
  have g:=C53 ht
  obtain ⟨g1,g2⟩:=J16 (s:=s) (x:=z) (set0.with_ c.toNat) g.len
  cases h
  exact ⟨(g.trans g1).le (by omega),g2⟩
theorem gr_any {x:PSt} (h:x.at_+1≤s.length):Gr s 0 0 x (G00 x).1∧inN (G00 x).1 (G00 x).2:=by
 have g:=O0 (s:=s) (x:=x) 1 h
 obtain ⟨g1,g2⟩:=J16 (s:=s) (x:=x.skip 1) set0.compl h
 exact ⟨(g.trans g1).le (by omega),g2⟩
theorem E10 {x y:PSt} {n:Int} (h0:x.at_+1≤s.length) (h:C51 s x=.ok (y,n)):Gr s 0 0 x y∧inN y n:=by
 have g:=O0 (s:=s) (x:=x) 1 h0
 obtain ⟨g1,g2⟩:=C54 h
 exact ⟨(g.trans g1).le (by omega),g2⟩
theorem G53 {x y:PSt} {kind n:Int} (hk:kind=2∨kind=3) (h0:x.at_+1≤s.length) (h:n9 s kind x=.ok (y,n)):Gr s 0 0 x y∧inN y n:=by
 have g:=O0 (s:=s) (x:=x) 1 h0
 obtain ⟨g1,g2⟩:=F68 (s:=s) (x:=x.skip 1) (n:={ A36 with Kind:=kind }) h0 (E09 (by omega))
 have key:n9 s kind x=.ok (D17 { A36 with Kind:=kind } (x.skip 1))→Gr s 0 0 x y∧inN y n:=fun e=>by
  rw [e] at h
  cases h
  exact ⟨(g.trans g1).le (by omega),g2⟩
 unfold n9 at h key
 dsimp only at h key
 split at h
 ·split at h
  ·cases h
  ·rename_i h1 h2
   cases h
   exact ⟨(g.trans g1).le (by omega),g2⟩
 ·cases h
  exact ⟨(g.trans g1).le (by omega),g2⟩
theorem H31 {x y:PSt} {n:Int} (h0:x.at_≤s.length) (h:D68 s K5 x=.ok (y,n)):Gr s 1 0 x y∧0≤n∧n≤100:=by
 unfold D68 at h
 split at h
 ·cases h
 ·rename_i m e hn
  obtain ⟨h1,h2,h3⟩:=numF_le h0 hn
  split at h
  ·cases h
  ·cases h
   exact ⟨(gr_at e (by omega) h2).le (by omega),h3,by omega⟩
abbrev bndOk (b:Int × Int):Prop:=0≤b.1∧b.1≤100∧(b.2 = -1∨b.1≤b.2∧b.2≤100)
theorem H32 {x y:PSt} {least most:Int} {b:Int × Int} (h:(if U4 s 125 x=false∨(0≤most∧most < least) then .error 40 else .ok (x.skip 1,(least,most)):Ps (Int × Int))=.ok (y,b)):Gr s 1 0 x y∧b=(least,most)∧¬(0≤most∧most < least):=by
 split at h
 ·cases h
 ·rename_i hc
  have h1:U4 s 125 x=true:=by
   cases hh:U4 s 125 x
   ·exact absurd (.inl hh) hc
   ·rfl
  cases h
  exact ⟨O0 1 (l5 h1),rfl,fun e=>hc (.inr e)⟩
theorem K22 {x y:PSt} {b:Int × Int} (h0:x.at_≤s.length) (h:j7 s K5 x=.ok (y,b)):Gr s 1 0 x y∧bndOk b:=by
 unfold j7 at h
 cases hn:D68 s K5 x with
 | error e=>rw [hn] at h;cases h
 | ok p =>
  obtain ⟨x1,least⟩:=p
  rw [hn] at h
  dsimp only at h
  obtain ⟨g1,l1,l2⟩:=H31 h0 hn
  split at h
  ·rename_i hc
   have g2:=O0 (s:=s) (x:=x1) 1 (l5 hc)
   split at h
   ·obtain ⟨g3,rfl,_⟩:=H32 h
    exact ⟨((g1.trans g2).trans g3).le (by omega),l1,l2,.inl rfl⟩
   ·split at h
    ·obtain ⟨g3,rfl,_⟩:=H32 h
     exact ⟨((g1.trans g2).trans g3).le (by omega),l1,l2,.inl rfl⟩
    ·cases hm:D68 s K5 (x1.skip 1) with
     | error e=>rw [hm] at h;cases h
     | ok q =>
      obtain ⟨x3,most⟩:=q
      rw [hm] at h
      dsimp only at h
      obtain ⟨g3,m1,m2⟩:=H31 g2.len hm
      obtain ⟨g4,rfl,hc⟩:=H32 h
      refine ⟨(((g1.trans g2).trans g3).trans g4).le (by omega),l1,l2,.inr ?_⟩
      dsimp only
      omega
  ·obtain ⟨g3,rfl,hc⟩:=H32 h
   exact ⟨(g1.trans g3).le (by omega),l1,l2,.inr ⟨Int.le_refl _,l2⟩⟩
theorem C31 {x y:PSt} {b:Option (Int × Int)} (_h0:x.at_≤s.length) (h:v7 s K5 x=.ok (y,b)):(b=none∧y=x)∨∃q,b=some q∧Gr s 1 0 x y∧bndOk q:=by
 unfold v7 at h
 split at h
 ·rename_i hc;cases h;exact .inr ⟨_,rfl,O0 1 (l5 hc),by decide⟩
 split at h
 ·rename_i hc;cases h;exact .inr ⟨_,rfl,O0 1 (l5 hc),by decide⟩
 split at h
 ·rename_i hc;cases h;exact .inr ⟨_,rfl,O0 1 (l5 hc),by decide⟩
 split at h
 ·rename_i hc
  have g:=O0 (s:=s) (x:=x) 1 (l5 hc)
  split at h
  ·cases h
  ·rename_i z q hb
   obtain ⟨g2,hq⟩:=K22 g.len hb
   cases h
   exact .inr ⟨_,rfl,(g.trans g2).le (by omega),hq⟩
 ·cases h;exact .inl ⟨rfl,rfl⟩
theorem B41 {x y:PSt} {r:Ps Int} {n:Int} (hr:∀z k,r=.ok (z,k)→Gr s 0 0 x z∧inN z k) (h:o3 s K5 r=.ok (y,n)):Gr s 0 0 x y∧inN y n:=by
 unfold o3 at h
 split at h
 ·cases h
 ·rename_i z k
  obtain ⟨g1,i1⟩:=hr z k rfl
  split at h
  ·cases h
  ·rename_i hq
   cases h
   rcases C31 g1.len hq with ⟨_,rfl⟩ | ⟨q,hh,_⟩
   ·exact ⟨g1,i1⟩
   ·cases hh
  ·rename_i z2 least most hq
   rcases C31 g1.len hq with ⟨hh,_⟩ | ⟨q,hh,g2,hb⟩
   ·cases hh
   ·cases hh
    have i2:inN z2 k:=⟨i1.1,by have:=g2.more;have:=i1.2;omega⟩
    obtain ⟨g3,i3⟩:=F68 (s:=s) (x:=z2) (n:={ A36 with Kind:=6,Min:=least,Max:=most,Kids:=[k] }) g2.len (by
     unfold A70
     dsimp only [A36]
     rw [J64 (fun j hj=>by rw [List.mem_singleton.1 hj];exact i2),if_neg (by omega),if_neg (by omega),if_pos rfl,Bool.true_and]
     obtain ⟨b1,b2,b3⟩:=hb
     exact decide_eq_true ⟨rfl,b1,b2,b3⟩)
    cases h
    exact ⟨((g1.trans g2).trans g3).le (by omega),i3⟩
theorem B78 {x y:PSt} {t t':Set4} (_h0:x.at_≤s.length) (h:B01 s t x=.ok (y,t')):Gr s 1 0 x y:=by
 unfold B01 at h
 dsimp only at h
 split at h
 ·rename_i hst
  split at h
  ·cases h
  ·rename_i hx
   split at h
   ·cases h
   ·cases h
    have h1:=Lib.index_room ((s.drop x.at_).drop 2) [58,93] (by omega)
    rw [L12,L12,show (([58,93]:Str).length)=2 from rfl] at h1
    have h2:=A1 hst
    have h3:=(List.getElem?_eq_some_iff.1 h2.2).1
    rw [L12] at h3
    refine (O0 (4+(Lib.index ((s.drop x.at_).drop 2) [58,93]).toNat) ?_).le (by omega)
    omega
 ·split at h
  ·cases h
  ·rename_i c hc
   have hlt:=(List.getElem?_eq_some_iff.1 hc).1
   split at h
   ·cases h
    exact O0 1 (by omega)
   ·rename_i hr
    split at h
    ·cases h
    ·cases h
     refine (O0 3 ?_).le (by omega)
     rw [L12] at hr
     omega
theorem F69:∀(f:Nat) {x y:PSt} {t t':Set4},x.at_≤s.length→B22 s f t x=.ok (y,t')→Gr s 1 0 x y
 | 0,_,_,_,_,_,h=>by cases h
 | f+1,x,y,t,t',h0,h=>by
  unfold B22 at h
  split at h
  ·rename_i hc;cases h;exact O0 1 (l5 hc)
  ·split at h
   ·cases h
   ·rename_i z t2 hi
    have g:=B78 h0 hi
    exact (g.trans (F69 f g.len h)).le (by omega)
theorem F70 {f:Nat} {x y:PSt} {n:Int} (h0:x.at_+1≤s.length) (h:B23 s f x=.ok (y,n)):Gr s 0 0 x y∧inN y n:=by
 unfold B23 at h
 dsimp only at h
 have g1:=O0 (s:=s) (x:=x) 1 h0
 have g2:=D72 (s:=s) (x:=x.skip 1) 94 g1.len
 split at h
 ·cases h
 ·rename_i x3 t hi
  have g3:=B78 g2.len hi
  split at h
  ·cases h
  ·rename_i x4 t2 hj
   have g4:=F69 f g3.len hj
   have hs:=J16 (s:=s) (x:=x4) (if U4 s 94 (x.skip 1)=true then t2.compl else t2) g4.len
   have e:=Except.ok.inj h
   have e1:=congrArg Prod.fst e
   have e2:=congrArg Prod.snd e
   dsimp only at e1 e2
   rw [e1,e2] at hs
   exact ⟨((((g1.trans g2).trans g3).trans g4).trans hs.1).le (by omega),hs.2⟩
theorem G54 {x y:PSt} {t t':Set4} (ht:T5 t) (h:B01 s t x=.ok (y,t')):T5 t':=by
 unfold B01 at h
 dsimp only at h
 split at h
 ·split at h
  ·cases h
  ·split at h
   ·cases h
   ·rename_i hn
    cases h
    exact J13 ht hn
 ·split at h
  ·cases h
  ·split at h
   ·cases h;exact E05 ht _
   ·split at h
    ·cases h
    ·cases h;exact N5 ht _ _
theorem I28 {x y:PSt} {k:Int} (h:x.nodes.length≤y.nodes.length) (hk:inN x k):inN y k:=⟨hk.1,by have:=hk.2;omega⟩
structure GrAll (f:Nat):Prop where
 pat:∀{x y:PSt} {n:Int},x.at_≤s.length→B24 s K5 f x=.ok (y,n)→Gr s 0 2 x y∧inN y n
 loop:∀{x y:PSt} {kids:List Int} {n:Int},x.at_≤s.length→(∀k∈kids,inN x k)→A42 s K5 f x kids=.ok (y,n)→Gr s 0 1 x y∧inN y n
 alt:∀{x y:PSt} {kids:List Int} {n:Int},x.at_≤s.length→(∀k∈kids,inN x k)→A69 s K5 f x kids=.ok (y,n)→Gr s 0 1 x y∧inN y n
 piece:∀{x y:PSt} {c:UInt8} {n:Int},s[x.at_]?=some c→y9 s K5 f x c=.ok (y,n)→Gr s 0 0 x y∧inN y n
 paren:∀{x y:PSt} {n:Int},x.at_+1≤s.length→U6 s K5 f x=.ok (y,n)→Gr s 0 0 x y∧inN y n
theorem A30:∀f:Nat,GrAll (s:=s) f
 | 0=>⟨(fun _ h=>by cases h),(fun _ _ h=>by cases h),(fun _ _ h=>by cases h),(fun _ h=>by cases h),(fun _ h=>by cases h)⟩
 | f + 1=>by
  have ih:=A30 f
  refine ⟨?_,?_,?_,?_,?_⟩
  ·intro x y n h0 h
   rw [B24] at h
   split at h
   ·cases h
   ·rename_i z k ha
    obtain ⟨g1,i1⟩:=ih.alt h0 (fun k hk=>by cases hk) ha
    obtain ⟨g2,i2⟩:=ih.loop g1.len (fun j hj=>by rw [List.mem_singleton.1 hj];exact i1) h
    exact ⟨(g1.trans g2).le (by omega),i2⟩
  ·intro x y kids n h0 hk h
   rw [A42] at h
   split at h
   ·rename_i hc
    have g0:=O0 (s:=s) (x:=x) 1 (l5 hc)
    split at h
    ·cases h
    ·rename_i z k ha
     obtain ⟨g1,i1⟩:=ih.alt g0.len (fun k hk=>by cases hk) ha
     have gm:=g0.trans g1
     obtain ⟨g2,i2⟩:=ih.loop g1.len (fun j hj=>by
      rcases List.mem_append.1 hj with hj | hj
      ·exact I28 gm.more (hk j hj)
      ·rw [List.mem_singleton.1 hj];exact i1) h
     exact ⟨(gm.trans g2).le (by omega),i2⟩
   ·have hg:=I27 (s:=s) (x:=x) (kind:=5) (.inr rfl) hk h0
    have e:=Except.ok.inj h
    rw [e] at hg
    exact hg
  ·intro x y kids n h0 hk h
   have hg:=I27 (s:=s) (x:=x) (kind:=4) (.inl rfl) hk h0
   rw [A69] at h
   split at h
   ·rw [Except.ok.inj h] at hg;exact hg
   ·rename_i c hc
    split at h
    ·rw [Except.ok.inj h] at hg;exact hg
    ·split at h
     ·cases h
     ·rename_i z k hp
      obtain ⟨g1,i1⟩:=ih.piece hc hp
      obtain ⟨g2,i2⟩:=ih.alt g1.len (fun j hj=>by
       rcases List.mem_append.1 hj with hj | hj
       ·exact I28 g1.more (hk j hj)
       ·rw [List.mem_singleton.1 hj];exact i1) h
      exact ⟨(g1.trans g2).le (by omega),i2⟩
  ·intro x y c n hc h
   have hlt:x.at_+1≤s.length:=by have:=(List.getElem?_eq_some_iff.1 hc).1;omega
   rw [y9] at h
   split at h
   ·exact G53 (.inl rfl) hlt h
   split at h
   ·exact G53 (.inr rfl) hlt h
   split at h
   ·exact B41 (fun z k e=>ih.paren hlt e) h
   split at h
   ·exact B41 (fun z k e=>F70 hlt e) h
   split at h
   ·exact B41 (fun z k e=>by
     have hg:=gr_any (s:=s) (x:=x) hlt
     rw [Except.ok.inj e] at hg;exact hg) h
   split at h
   ·exact B41 (fun z k e=>E10 hlt e) h
   split at h
   ·cases h
   ·exact B41 (fun z k e=>C54 e) h
  ·intro x y n h0 h
   rw [U6] at h
   split at h
   ·cases h
   ·split at h
    ·cases h
    ·rename_i z k hp
     split at h
     ·rename_i hc
      obtain ⟨g1,i1⟩:=ih.pat (x:={ x with at_:=x.at_+1,depth:=x.depth+1 }) h0 hp
      cases h
      have h2:=l5 hc
      have h3:=g1.at_
      have h4:=g1.dep
      have h5:=g1.cnt
      dsimp only at h3 h4 h5
      exact ⟨⟨by dsimp only;omega,by dsimp only;omega,by dsimp only;omega,by dsimp only;omega,g1.more,g1.ok⟩,i1⟩
     ·cases h
end
end Go.AL
namespace Go.AL
open Go
section
variable {s:Str}
theorem num_nz {x:PSt}:D68 s K5 x≠.error 0:=fun h=>by
 unfold D68 at h
 split at h
 ·cases h
 ·split at h<;>cases h
theorem K23 {x:PSt}:j7 s K5 x≠.error 0:=fun h=>by
 unfold j7 at h
 dsimp only at h
 split at h
 ·rename_i e he
  cases h
  exact num_nz he
 ·split at h
  ·split at h
   ·split at h<;>cases h
   ·split at h
    ·split at h<;>cases h
    ·split at h
     ·rename_i e he
      cases h
      exact num_nz he
     ·split at h<;>cases h
  ·split at h<;>cases h
theorem K71 {x:PSt}:v7 s K5 x≠.error 0:=fun h=>by
 unfold v7 at h
 split at h
 ·cases h
 split at h
 ·cases h
 split at h
 ·cases h
 split at h
 ·split at h
  ·rename_i e he
   cases h
   exact K23 he
  ·cases h
 ·cases h
theorem G55 {x:PSt}:c8 s x≠.error 0:=fun h=>by
 unfold c8 at h
 split at h
 ·rename_i e he
  cases h
  unfold B86 at he
  split at he<;>cases he
 ·cases h
theorem J65 {x:PSt} {t:Set4}:B01 s t x≠.error 0:=fun h=>by
 unfold B01 at h
 dsimp only at h
 split at h
 ·split at h
  ·cases h
  ·split at h<;>cases h
 ·split at h
  ·cases h
  ·split at h
   ·cases h
   ·split at h<;>cases h
theorem Gr.prog {a:Nat} {x y:PSt} (h:Gr s (a+1) 0 x y):x.at_ < y.at_:=by have:=h.cnt;have:=h.more;omega
theorem I29:∀(f:Nat) {x:PSt} {t:Set4},x.at_≤s.length→s.length - x.at_ < f→B22 s f t x≠.error 0
 | 0,_,_,_,h=>by omega
 | f+1,x,t,h0,h=>fun e=>by
  unfold B22 at e
  split at e
  ·cases e
  ·split at e
   ·rename_i e0 he
    cases e
    exact J65 he
   ·rename_i y t2 hi
    have g:=B78 h0 hi
    have hp:=g.prog
    exact I29 f g.len (by have:=g.len;omega) e
theorem K72 {x:PSt} (h0:x.at_+1≤s.length):B23 s (s.length+2) x≠.error 0:=fun h=>by
 unfold B23 at h
 dsimp only at h
 have g1:=O0 (s:=s) (x:=x) 1 h0
 have g2:=D72 (s:=s) (x:=x.skip 1) 94 g1.len
 split at h
 ·rename_i e he
  cases h
  exact J65 he
 ·rename_i x3 t hi
  have g3:=B78 g2.len hi
  split at h
  ·rename_i e he
   cases h
   exact I29 _ g3.len (by omega) he
  ·cases h
theorem G56 {x:PSt} {kind:Int}:n9 s kind x≠.error 0:=fun h=>by
 unfold n9 at h
 dsimp only at h
 split at h
 ·split at h<;>cases h
 ·cases h
theorem B42 {r:Ps Int} (hr:r≠.error 0):o3 s K5 r≠.error 0:=fun h=>by
 unfold o3 at h
 split at h
 ·cases h;exact hr rfl
 ·split at h
  ·rename_i e he
   cases h
   exact K71 he
  ·cases h
  ·cases h
theorem E50 {x y:PSt} {kind n:Int} (h:n9 s kind x=.ok (y,n)):x.at_ < y.at_:=by
 have key:n9 s kind x=.ok (D17 { A36 with Kind:=kind } (x.skip 1))→x.at_ < y.at_:=fun e=>by
  rw [e] at h
  cases h
  exact Nat.lt_succ_self _
 unfold n9 at h key
 dsimp only at h key
 split at h
 ·split at h
  ·cases h
  ·cases h
   exact Nat.lt_succ_self _
 ·cases h
  exact Nat.lt_succ_self _
theorem A25 {x y:PSt} {r:Ps Int} {n:Int} (hr:∀z k,r=.ok (z,k)→x.at_ < z.at_∧z.at_≤s.length) (h:o3 s K5 r=.ok (y,n)):x.at_ < y.at_:=by
 unfold o3 at h
 split at h
 ·cases h
 ·rename_i z k
  obtain ⟨h1,h2⟩:=hr z k rfl
  split at h
  ·cases h
  ·rename_i hq
   cases h
   rcases C31 h2 hq with ⟨_,rfl⟩ | ⟨q,hh,_⟩
   ·exact h1
   ·cases hh
  ·rename_i z2 least most hq
   rcases C31 h2 hq with ⟨hh,_⟩ | ⟨q,hh,g2,_⟩
   ·cases hh
   ·cases h
    show x.at_ < z2.at_
    have:=g2.at_
    omega
theorem E51 {x y:PSt} {n:Int} (h:c8 s x=.ok (y,n)):x.at_ < y.at_:=by
 unfold c8 at h
 cases ht:B86 s x with
 | error e=>rw [ht] at h;cases h
 | ok p =>
  obtain ⟨z,c⟩:=p
  rw [ht] at h
  have g:=(C53 ht).prog
  cases h
  exact g
theorem J17 {f:Nat} {x y:PSt} {n:Int} (h0:x.at_+1≤s.length) (h:B23 s f x=.ok (y,n)):x.at_ < y.at_:=by
 unfold B23 at h
 dsimp only at h
 have g1:=O0 (s:=s) (x:=x) 1 h0
 have g2:=D72 (s:=s) (x:=x.skip 1) 94 g1.len
 split at h
 ·cases h
 ·rename_i x3 t hi
  have g3:=B78 g2.len hi
  split at h
  ·cases h
  ·rename_i x4 t2 hj
   have g4:=F69 f g3.len hj
   have h1:=(g2.trans (g3.trans g4)).at_
   have e1:x4.at_=y.at_:=congrArg (fun p=>p.1.at_) (Except.ok.inj h)
   have e2:(x.skip 1).at_=x.at_+1:=rfl
   omega
theorem J18 {f:Nat} {x y:PSt} {n:Int} (h0:x.at_+1≤s.length) (h:U6 s K5 f x=.ok (y,n)):x.at_ < y.at_:=by
 cases f with
 | zero=>cases h
 | succ f =>
  rw [U6] at h
  split at h
  ·cases h
  ·split at h
   ·cases h
   ·rename_i z k hp
    split at h
    ·obtain ⟨g1,_⟩:=(A30 f).pat (x:={ x with at_:=x.at_+1,depth:=x.depth+1 }) h0 hp
     have h1:=g1.at_
     have e1:z.at_+1=y.at_:=congrArg (fun p=>p.1.at_) (Except.ok.inj h)
     dsimp only at h1
     omega
    ·cases h
theorem J19 {f:Nat} {x y:PSt} {c:UInt8} {n:Int} (hc:s[x.at_]?=some c) (h:y9 s K5 f x c=.ok (y,n)):x.at_ < y.at_:=by
 have hlt:x.at_+1≤s.length:=by have:=(List.getElem?_eq_some_iff.1 hc).1;omega
 cases f with
 | zero=>cases h
 | succ f =>
  rw [y9] at h
  split at h
  ·exact E50 h
  split at h
  ·exact E50 h
  split at h
  ·exact A25 (fun z k e=>⟨J18 hlt e,((A30 f).paren hlt e).1.len⟩) h
  split at h
  ·exact A25 (fun z k e=>⟨J17 hlt e,(F70 hlt e).1.len⟩) h
  split at h
  ·exact A25 (fun z k e=>by
    have e1:(G00 x).1.at_=z.at_:=congrArg (fun p=>p.1.at_) (Except.ok.inj e)
    have e2:(G00 x).1.at_=x.at_+1:=rfl
    omega) h
  split at h
  ·exact A25 (fun z k e=>⟨by
    have h1:=E51 (x:=x.skip 1) e
    have e2:(x.skip 1).at_=x.at_+1:=rfl
    omega,(E10 hlt e).1.len⟩) h
  split at h
  ·cases h
  ·exact A25 (fun z k e=>⟨E51 e,(C54 e).1.len⟩) h
structure NzAll (s:Str) (f:Nat):Prop where
 pat:∀x,x.at_≤s.length→4*(s.length - x.at_)+4≤f→B24 s K5 f x≠.error 0
 loop:∀x kids,x.at_≤s.length→4*(s.length - x.at_)+3≤f→A42 s K5 f x kids≠.error 0
 alt:∀x kids,x.at_≤s.length→4*(s.length - x.at_)+3≤f→A69 s K5 f x kids≠.error 0
 piece:∀x c,s[x.at_]?=some c→4*(s.length - x.at_)+2≤f→y9 s K5 f x c≠.error 0
 paren:∀x,x.at_+1≤s.length→4*(s.length - x.at_)+1≤f→U6 s K5 f x≠.error 0
theorem nz_all:∀f:Nat,NzAll s f
 | 0=>⟨(fun _ _ h=>by omega),(fun _ _ _ h=>by omega),(fun _ _ _ h=>by omega),(fun _ _ _ h=>by omega),(fun _ _ h=>by omega)⟩
 | f + 1=>by
  have ih:=nz_all f
  refine ⟨?_,?_,?_,?_,?_⟩
  ·intro x h0 hf h
   rw [B24] at h
   split at h
   ·rename_i e he
    cases h
    exact ih.alt x [] h0 (by omega) he
   ·rename_i z k ha
    obtain ⟨g1,_⟩:=(A30 f).alt h0 (fun k hk=>by cases hk) ha
    have:=g1.at_
    exact ih.loop z [k] g1.len (by omega) h
  ·intro x kids h0 hf h
   rw [A42] at h
   split at h
   ·rename_i hc
    have g0:=O0 (s:=s) (x:=x) 1 (l5 hc)
    have e0:(x.skip 1).at_=x.at_+1:=rfl
    have l0:=l5 hc
    split at h
    ·rename_i e he
     cases h
     exact ih.alt (x.skip 1) [] g0.len (by omega) he
    ·rename_i z k ha
     obtain ⟨g1,_⟩:=(A30 f).alt g0.len (fun k hk=>by cases hk) ha
     have:=g1.at_
     exact ih.loop z _ g1.len (by omega) h
   ·cases h
  ·intro x kids h0 hf h
   rw [A69] at h
   split at h
   ·cases h
   ·rename_i c hc
    split at h
    ·cases h
    ·split at h
     ·rename_i e he
      cases h
      exact ih.piece x c hc (by omega) he
     ·rename_i z k hp
      have g1:=J19 hc hp
      have g2:=((A30 f).piece hc hp).1.len
      exact ih.alt z _ g2 (by omega) h
  ·intro x c hc hf h
   have hlt:x.at_+1≤s.length:=by have:=(List.getElem?_eq_some_iff.1 hc).1;omega
   rw [y9] at h
   split at h
   ·exact G56 h
   split at h
   ·exact G56 h
   split at h
   ·exact B42 (ih.paren x hlt (by omega)) h
   split at h
   ·exact B42 (K72 hlt) h
   split at h
   ·exact B42 (fun h=>by cases h) h
   split at h
   ·exact B42 G55 h
   split at h
   ·cases h
   ·exact B42 G55 h
  ·intro x h0 hf h
   rw [U6] at h
   split at h
   ·cases h
   ·split at h
    ·rename_i e he
     cases h
     exact ih.pat _ h0 (by dsimp only;omega) he
    ·split at h<;>cases h
end
end Go.AL
namespace Go.AL
open Go
def q8 (x y:List Str) (c:Change):List Str:=((x.drop c.Old.toNat).take ((c.Old+c.OldLen).toNat - c.Old.toNat))++((y.drop c.New.toNat).take ((c.New+c.NewLen).toNat - c.New.toNat))
def E52 (x y:List Str):List Change:=F47 (S5 (I9 [x,y]) x) (S5 (I9 [x,y]) y)
def B26 (h:Str→Bool) (l:List Str):List Str:=(l.map A62).filter h
def j9 (h:Str→Bool) (x y:List Str) (l:List Change):List Str:=l.flatMap fun c=>B26 h (q8 x y c)
def D73 (h:Str→Bool) (a b:Str):List Str:=j9 h (I6 a) (I6 b) (E52 (I6 a) (I6 b))
theorem A73 (names:List Str) (file:List Str):(S5 names file).length=file.length:=by unfold S5;rw [L33]
theorem K24 (x y:List Str):(E52 x y).length≤x.length+1∧∀c∈E52 x y,0≤c.Old∧0≤c.New∧0≤c.OldLen∧0≤c.NewLen∧c.Old+c.OldLen≤x.length∧c.New+c.NewLen≤y.length:=by
 constructor
 ·have h1:=F97 (N4 0 0 (S5 (I9 [x,y]) x) (S5 (I9 [x,y]) y)) 0 0 (S5 (I9 [x,y]) x).length (S5 (I9 [x,y]) y).length
  have h2:=C86 0 0 (S5 (I9 [x,y]) x) (S5 (I9 [x,y]) y)
  rw [A73] at h2
  exact Nat.le_trans h1 (by omega)
 ·intro c hc
  have:=H16 _ _ c hc
  rw [A73,A73] at this
  exact this
theorem E53 (x y:List Str) (c:Change):(q8 x y c).length≤x.length+y.length:=by
 unfold q8
 rw [L06,L10,L10,L12,L12];omega
theorem I30 {x y:List Str} {c:Change} {s:Str} (h:s∈q8 x y c):s∈x∨s∈y:=by
 rcases List.mem_append.1 h with h | h
 ·exact .inl (List.mem_of_mem_drop (List.mem_of_mem_take h))
 ·exact .inr (List.mem_of_mem_drop (List.mem_of_mem_take h))
theorem I31 (h:Str→Bool) (l:List Str):(B26 h l).length≤l.length:=by
 unfold B26;exact Nat.le_trans (List.length_filter_le ..) (by rw [L33];exact Nat.le_refl _)
theorem E54 (h:Str→Bool) (x y:List Str):∀l:List Change,(j9 h x y l).length≤l.length*(x.length+y.length)
 | []=>by simp [j9]
 | c::r=>by
  have ih:=E54 h x y r
  have h1:=I31 h (q8 x y c)
  have h2:=E53 x y c
  unfold j9 at ih ⊢
  rw [List.flatMap_cons,L06,L04,L22];omega
end Go.AL
namespace Go.AL
open Go
abbrev names4:List Str:=[[97],[98,47,120],[98,47,121],[99,32,100]]
theorem names4_asc:names4.Pairwise (fun x y=>ltS x y=true):=by decide
theorem I32:∀p∈names4,N3 p=0∧p.length≤3:=by decide
theorem H33:∀p∈names4,∀q∈names4,above p q=false:=by decide
def NoDig (b:Str):Prop:=∀c∈b,c.toNat < 48∨57 < c.toNat
theorem NoDig.sub {a b:Str} (h:NoDig b) (hs:∀c∈a,c∈b):NoDig a:=fun c hc=>h c (hs c hc)
structure GN (L:Nat) (l:List File):Prop where
 sub:(l.map (·.Path)).Sublist names4
 cnt:∀f∈l,f.Blob.count 10≤L
 dig:∀f∈l,NoDig f.Blob
theorem GN.name {L:Nat} {l:List File} (h:GN L l):∀f∈l,f.Path∈names4:=fun _ hf=>h.sub.subset (List.mem_map_of_mem hf)
theorem GN.mono {L L':Nat} {l:List File} (h:GN L l) (hL:L≤L'):GN L' l:=⟨h.sub,fun f hf=>Nat.le_trans (h.cnt f hf) hL,h.dig⟩
theorem G57:∀{l:List File},F41 (l.map (·.Path))→ascend l=true
 | [],_=>rfl
 | [_],_=>rfl
 | f::g::r,h=>by
  rw [L16] at h
  have h1:=List.pairwise_cons.1 h
  unfold ascend
  rw [h1.1 g.Path (by simp),G57 h1.2];rfl
theorem GN.asc {L:Nat} {l:List File} (h:GN L l):ascend l=true:=G57 (names4_asc.sublist h.sub)
theorem GN.tree {L:Nat} {l:List File} (h:GN L l) (hL:L+1≤4096) (hB:∀f∈l,f.Blob.length≤1048576):F1 l=0:=by
 have hlen:l.length≤4:=by have:=h.sub.length_le;simpa using this
 unfold F1
 rw [if_neg (by omega),if_neg (fun h1=>by
  obtain ⟨f,hf,h2⟩:=List.any_eq_true.1 h1
  exact A1 h2 (I32 _ (h.name f hf)).1),if_neg (fun h1=>by
  rw [D08 h.asc fun x hx y hy=>H33 _ (h.name x hx) _ (h.name y hy)] at h1;cases h1),if_neg (fun h1=>by
  obtain ⟨f,hf,h2⟩:=List.any_eq_true.1 h1
  refine A1 h2 ?_
  unfold M8
  have h3:=h.cnt f hf
  have h4:=hB f hf
  have h5:=C87 f.Blob
  rw [if_neg]
  rintro (h6 | h6)
  ·omega
  ·split at h5<;>omega)]
theorem I33 {n:Int}:∀{ps seen:List Int},(∀p∈ps,0≤p∧p < n∧p∉seen)→ps.Nodup→A35 n seen ps=true
 | [],_,_,_=>rfl
 | p::r,seen,h,hn=>by
  have h1:=List.nodup_cons.1 hn
  unfold A35
  rw [decide_eq_true (h p (by simp)),Bool.true_and]
  refine I33 (fun q hq=>?_) h1.2
  have h2:=h q (by simp [hq])
  refine ⟨h2.1,h2.2.1,fun h3=>?_⟩
  rcases List.mem_append.1 h3 with h3 | h3
  ·exact h2.2.2 h3
  ·rw [List.mem_singleton.1 h3] at hq;exact h1.1 hq
def OneWay (g:Graph):Prop:=(∀c p:Nat,(p:Int)∈F3 g c→p < c)∨(∀c p:Nat,(p:Int)∈F3 g c→c < p)
theorem OneWay.acyc {g:Graph} (h:OneWay g) (c:Nat):¬Reaches g c c:=by
 rcases h with h | h
 ·have key:∀{a b:Nat},Reaches g a b→b < a:=fun {a b} hr=>by
   induction hr with
   | one h2=>exact h _ _ h2
   | more _ h2 ih=>have:=h _ _ h2;omega
  exact fun hr=>Nat.lt_irrefl _ (key hr)
 ·have key:∀{a b:Nat},Reaches g a b→a < b:=fun {a b} hr=>by
   induction hr with
   | one h2=>exact h _ _ h2
   | more _ h2 ih=>have:=h _ _ h2;omega
  exact fun hr=>Nat.lt_irrefl _ (key hr)
theorem E55:∀{g:List Commit},(∀c∈g,F1 c.Files=0)→X7 g=0
 | [],_=>rfl
 | c::r,h=>by
  unfold X7
  rw [if_neg (fun h1=>h1 (h c (by simp)))]
  exact E55 fun d hd=>h d (by simp [hd])
structure GV (g:Graph):Prop where
 len:g.length≤16
 pars:∀c∈g,c.Parents.length≤3∧(∀p∈c.Parents,0≤p∧p < (g.length:Int))∧c.Parents.Nodup∧0≤c.Date∧c.Date≤5
 way:OneWay g
 files:∀c∈g,GN 2111 c.Files∧∀f∈c.Files,f.Blob.length≤1048576
theorem GV.check {g:Graph} (h:GV g):H3 g=0:=by
 have hr:related g=true:=by
  unfold related
  rw [List.all_eq_true]
  exact fun c hc=>I33 (fun p hp=>⟨((h.pars c hc).2.1 p hp).1,((h.pars c hc).2.1 p hp).2,by simp⟩) (h.pars c hc).2.2.1
 have hcy:¬cyclic g=true:=fun h1=>by
  obtain ⟨c,hc⟩:=(B64 hr).1 h1
  exact h.way.acyc c hc
 have hl:=h.len
 have hlim:X8 g=true:=by
  unfold X8
  rw [decide_eq_true (by omega),Bool.true_and]
  cases ha:g.any fun c=>decide (c.Parents.length > 32)
  ·rfl
  obtain ⟨c,hc,h2⟩:=List.any_eq_true.1 ha
  have:=A1 h2
  have:=(h.pars c hc).1
  omega
 have hbd:¬A95 g=true:=fun h1=>by
  obtain ⟨c,hc,h2⟩:=List.any_eq_true.1 h1
  have:=A1 h2
  have:=(h.pars c hc).2.2.2
  omega
 unfold H3
 rw [hlim,hr,if_neg (by simp),if_neg (by simp),if_neg hcy,if_neg hbd]
 exact E55 fun c hc=>(h.files c hc).1.tree (by omega) (h.files c hc).2
end Go.AL
namespace Go.AL
open Go
section
variable (A:Auto) (s:Str)
abbrev epsOf (p:Nat) (k:Int):List Int:=Z3 (q9 A k) (decide (p=0)) (decide (p=s.length))
def reads (p:Nat) (k:Int):Prop:=(q9 A k).Kind=0∧D18 (q9 A k).Set (s.getD p 0).toNat=1
inductive Run:Int→Nat→Prop
 | start {i:Nat} (hi:i≤s.length):Run A.Start i
 | eps {k j:Int} {p:Nat} (h:Run k p) (hj:j∈epsOf A s p k):Run j p
 | read {k:Int} {p:Nat} (h:Run k p) (hp:p < s.length) (hr:reads A s p k):Run (q9 A k).Next (p+1)
abbrev inA (k:Int):Prop:=0≤k∧k < A.States.length
variable {A s}
variable (A s)
def onM (m:Mach) (k:Int):Prop:=inA A k∧K2 m.2 k.toNat=true
structure Sy (p:Nat) (m:Mach):Prop where
 mg:MG A m
 fr:∀t∈m.1,0≤t.from_
 sync:∀k,onM A m k↔∃t∈m.1,t.state=k
variable {A s}
theorem K25 {sn:List Bool} {i c:Nat} (hi:i < sn.length):K2 (sn.set i true) c=(K2 sn c||decide (i=c)):=by
 unfold K2
 rw [List.getElem?_set]
 by_cases e:i=c
 ·subst e
  rw [if_pos rfl,if_pos hi];simp
 ·rw [if_neg e];simp [e]
theorem K73 {m:Mach} (hm:MG A m) {i:Int} (hi:inA A i) {fr:Int} (k:Int):onM A (m.1++[⟨i,fr⟩],m.2.set i.toNat true) k↔onM A m k∨k=i:=by
 unfold onM
 rw [K25 (by rw [hm.sl];have:=hi.2;have:=hi.1;omega),L20,decide_eq_true_eq]
 constructor
 ·rintro ⟨h1,h2 | h2⟩
  ·exact .inl ⟨h1,h2⟩
  ·right;have:=hi.1;have:=h1.1;omega
 ·rintro (⟨h1,h2⟩ | rfl)
  ·exact ⟨h1,.inl h2⟩
  ·exact ⟨hi,.inr rfl⟩
theorem Sy.push {p:Nat} {m:Mach} (h:Sy A p m) {i:Int} (hi:inA A i) {fr:Int} (hfr:0≤fr) (ho:K2 m.2 i.toNat=false):Sy A p (m.1++[⟨i,fr⟩],m.2.set i.toNat true) where
 mg:=h.mg.push hi fr ho
 fr:=fun t ht=>by
  rcases List.mem_append.1 ht with ht | ht
  ·exact h.fr t ht
  ·rw [List.mem_singleton.1 ht];exact hfr
 sync:=fun k=>by
  rw [K73 h.mg hi,h.sync k]
  constructor
  ·rintro (⟨t,ht,e⟩ | rfl)
   ·exact ⟨t,List.mem_append_left _ ht,e⟩
   ·exact ⟨⟨k,fr⟩,by simp,rfl⟩
  ·rintro ⟨t,ht,e⟩
   rcases List.mem_append.1 ht with ht | ht
   ·exact .inl ⟨t,ht,e⟩
   ·right;rw [←e,List.mem_singleton.1 ht]
def Shut (A:Auto) (s:Str) (p:Nat) (m:Mach):Prop:=∀k,onM A m k→∀j∈epsOf A s p k,onM A m j
theorem Sy.first (A:Auto) (p:Nat):Sy A p ([],List.replicate A.States.length false) where
 mg:=MG.first A
 fr:=fun _ h=>by cases h
 sync:=fun k=>by
  constructor
  ·rintro ⟨h1,h2⟩
   unfold K2 at h2
   rw [List.getElem?_replicate] at h2
   split at h2<;>cases h2
  ·rintro ⟨_,h,_⟩;cases h
structure NI (A:Auto) (s:Str) (a:Nat) (m:Mach):Prop where
 sy:Sy A a m
 shut:Shut A s a m
 sound:∀k,onM A m k→Run A s k a
 all:∀p k,p+1=a→Run A s k p→reads A s p k→onM A m (q9 A k).Next
 no:∀p k,p < a→Run A s k p→(q9 A k).Kind≠4
end
end Go.AL
namespace Go.AL
open Go
structure ChainA (A:Auto) (w:Str):Prop where
 ag:AG A
 start:A.Start=(w.length:Int)+2
 s0:(q9 A ((w.length:Int)+2)).Kind=2∧(q9 A ((w.length:Int)+2)).Next=(w.length:Int)+1
 lt:∀(j:Nat) (c:UInt8),w[j]?=some c→(q9 A ((w.length:Int)+1 - j)).Kind=0∧(q9 A ((w.length:Int)+1 - j)).Next=(w.length:Int) - j∧∀x:UInt8,D18 (q9 A ((w.length:Int)+1 - j)).Set x.toNat=1↔x=c
 en:(q9 A 1).Kind=3∧(q9 A 1).Next=0
 ac:(q9 A 0).Kind=4
theorem ag_of {A:Auto} (h:H30 A=0):AG A:=by
 unfold H30 at h
 split at h
 ·cases h
 ·split at h
  ·rename_i h1 h2
   exact ⟨by omega,by omega,List.all_eq_true.1 h2⟩
  ·cases h
end Go.AL
