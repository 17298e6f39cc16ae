/- Plain facts about data; no project text. -/
import Derived.Test.YtfhbolepaojekaaGreatDoorD
import Derived.Lib.Strings
import Derived.Lib.Bytealg
import Derived.Lib.Join
import Derived.Lib.ItoaNum
import Derived.Test.YtfhbolepaojekaaGreatDoorAn
import Derived.Lib.IndexMore
set_option linter.unusedSimpArgs false
namespace Go.AL
open Go
theorem u8_lf (c:UInt8):((c.toNat:Int)=10)↔c=10:=by
 constructor
 ·intro h
  have:c.toNat=10:=by omega
  exact UInt8.toNat_inj.1 (by simpa using this)
 ·rintro rfl;rfl
def K1 (cur:Str):Str→List Str
 | []=>if cur=[] then [] else [cur]
 | c::r=>if c=10 then (cur++[c])::K1 [] r else K1 (cur++[c]) r
def K7 (b:Str):List Str:=K1 [] b
theorem B15 (cur:Str) (s:Str):(K1 cur s).length≤s.length+1:=by
 induction s generalizing cur with
 | nil=>unfold K1;split<;>simp
 | cons c r ih=>unfold K1;split<;>simp<;>(have:=ih [];have:=ih (cur++[c]);omega)
theorem B80 (s:Str):(K1 [] s).length≤s.length:=by
 have key:∀(s cur:Str),cur≠[]→(K1 cur s).length≤s.length+1:=fun s cur _=>B15 cur s
 induction s with
 | nil=>simp [K1]
 | cons c r ih=>unfold K1;split<;>simp<;>(have:=B15 ([]++[c]) r;simp at this;omega)
theorem B47 (b:Str):(K7 b).length≤b.length:=B80 b
theorem B95 (cur r:Str) (c:UInt8):K1 cur (c::r)=if c=10 then (cur++[c])::K1 [] r else K1 (cur++[c]) r:=rfl
theorem F52 (cur:Str) (h:cur≠[]):K1 cur []=[cur]:=by simp [K1,h]
theorem or_pick {p q:Prop} [Decidable p] [Decidable q]:(if decide p=true then true else decide q)=decide (p∨q):=by by_cases p<;>simp [*]
theorem and_pick {p q:Prop} [Decidable p] [Decidable q]:(if decide p=true then decide q else false)=decide (p∧q):=by by_cases p<;>simp [*]
theorem A35 {α:Type} (l:List (List α)) (i:Nat) (h:i < l.length):(l.take (i+1)).flatten=(l.take i).flatten++l[i]:=by
 rw [List.take_add_one,J14 h,Option.toList_some,J50];simp
theorem B16 {α:Type} (l:List (List α)) (i:Nat):(l.take i).flatten.length≤l.flatten.length:=by
 conv=>rhs;rw [←J57 i l,J50,J19]
 omega
theorem H18 (i:Nat):((i:Int)+1).toNat=i+1:=by omega
theorem E95 {α:Type} (b:List α) (f i:Nat) (hf:f≤i) (hi:i < b.length):(b.drop f).take (i - f)++[b[i]]=(b.drop f).take (i+1 - f):=by
 rw [show i+1 - f=(i - f)+1 by omega,List.take_add_one,J53,show f+(i - f)=i by omega,J14 hi]
 rfl
def ended (s:Str):Bool:=s.getLast? == some 10
def R4:List Str→Str→Int→Int
 | [],_,_ => -1
 | x::r,s,i=>if x=s then i else R4 r s (i+1)
def j5 (s:Str):Bool:=s.dropLast.all (·≠10)&&s != []
def T4 (b:Str):Int:=if b.length > 1048576∨(K7 b).length > 4096 then 1 else 0
def P5 (out:List Str) (s:Str):List Str:=if s∈out then out else out++[s]
def N7 (files:List (List Str)):List Str:=files.flatten.foldl P5 []
def x9 (names:List Str) (file:List Str):List Int:=file.map (fun s=>R4 names s 0)
theorem C94 (out:List Str) (s:Str):(P5 out s).length≤out.length+1:=by unfold P5;split<;>simp
theorem C20 (l out:List Str):(l.foldl P5 out).length≤out.length+l.length:=by
 induction l generalizing out with
 | nil=>simp
 | cons s r ih=>have h1:=ih (P5 out s);have h2:=C94 out s;simp only [J42,J17];omega
theorem E13 (fs:List (List Str)):(N7 fs).length≤fs.flatten.length:=by have:=C20 fs.flatten [];simpa [N7] using this
end Go.AL
namespace Go.AL
open Go
structure File where
 Path:Str
 Blob:Str
 deriving DecidableEq
structure Delta where
 Path:Str
 Kind:Int
 deriving DecidableEq
structure Commit where
 Parents:List Int
 Date:Int
 Files:List File
 deriving DecidableEq
def Q4:File→Nat→Cell:=fun f j=>match j with
 | 0=>.v (.string ⟨f.Path.toArray⟩)
 | _=>.v (.string ⟨f.Blob.toArray⟩)
def j6:Delta→Nat→Cell:=fun d j=>match j with
 | 0=>.v (.string ⟨d.Path.toArray⟩)
 | _=>.v (.int .i64 d.Kind)
def F6:Commit→Nat→Cell:=fun c j=>match j with
 | 0=>.list Int 1 E3 c.Parents
 | 1=>.v (.int .i64 c.Date)
 | _=>.list File 2 Q4 c.Files
abbrev n6:List File→Nat→Cell:=fun l _=>.list File 2 Q4 l
abbrev n7:List Delta→Nat→Cell:=fun l _=>.list Delta 2 j6 l
abbrev H60 (f:File):PV:=.agg [.v (.string ⟨f.Path.toArray⟩),.v (.string ⟨f.Blob.toArray⟩)]
abbrev pDelta (d:Delta):PV:=.agg [.v (.string ⟨d.Path.toArray⟩),.v (.int .i64 d.Kind)]
abbrev C54 (c:Commit):PV:=.agg [.list Int 1 E3 c.Parents,.v (.int .i64 c.Date),.list File 2 Q4 c.Files]
abbrev O3 (l:List File):PV:=.one (.list File 2 Q4 l)
abbrev C55 (l:List Delta):PV:=.one (.list Delta 2 j6 l)
abbrev I1 (l:List Commit):PV:=.one (.list Commit 3 F6 l)
abbrev B70 (l:List (List File)):PV:=.one (.list (List File) 1 n6 l)
theorem n8 (a b:Bool):(if a=true then b else false)=(a&&b):=by cases a<;>rfl
theorem E14 (a b:Bool):(if a=true then true else b)=(a||b):=by cases a<;>rfl
abbrev ltS (a b:Str):Bool:=Op.bytesLess a b
theorem H61 (a:Str):ltS a []=false:=by cases a<;>rfl
theorem A77 (a b:UInt8) (x y:Str):ltS (a::x) (b::y)=(decide (a < b)||(a == b&&ltS x y)):=rfl
theorem Z2:∀a:Str,ltS a a=false
 | []=>rfl
 | c::r=>by
  rw [A77,Z2 r]
  have:¬c < c:=by rw [UInt8.lt_iff_toNat_lt];omega
  simp [this]
theorem r5:∀{a b c:Str},ltS a b=true→ltS b c=true→ltS a c=true
 | _,[],_,h,_=>by rw [H61] at h;cases h
 | _,_::_,[],_,h=>by rw [H61] at h;cases h
 | [],_::_,_::_,_,_=>rfl
 | a::x,b::y,c::z,h1,h2=>by
  rw [A77,J31,J15,decide_eq_true_eq,UInt8.lt_iff_toNat_lt,beq_iff_eq] at h1 h2
  rw [A77,J31,J15,decide_eq_true_eq,UInt8.lt_iff_toNat_lt,beq_iff_eq]
  rcases h1 with h1 | ⟨rfl,h1⟩
  ·rcases h2 with h2 | ⟨rfl,h2⟩
   ·left;omega
   ·left;omega
  ·rcases h2 with h2 | ⟨rfl,h2⟩
   ·left;omega
   ·right;exact ⟨rfl,r5 h1 h2⟩
theorem B71:∀{a b:Str},ltS a b=false→ltS b a=false→a=b
 | [],[],_,_=>rfl
 | [],_::_,h,_=>by cases h
 | _::_,[],_,h=>by cases h
 | a::x,b::y,h1,h2=>by
  rw [A77,J41,decide_eq_false_iff_not,UInt8.lt_iff_toNat_lt] at h1 h2
  have e:a=b:=UInt8.toNat_inj.1 (by omega)
  subst e
  simp only [beq_self_eq_true,Bool.true_and] at h1 h2
  rw [B71 h1.2 h2.2]
theorem E96 {a b:Str} (h:ltS a b=true):ltS b a=false:=by
 cases h2:ltS b a
 ·rfl
 ·have:=r5 h h2;rw [Z2] at this;cases this
theorem H62:∀(a:Str) (c:UInt8) (t:Str),ltS a (a++c::t)=true
 | [],_,_=>rfl
 | x::r,c,t=>by rw [J36,A77,H62 r c t];simp
def P0 (s:Str):Bool:=decide (s≠[]∧s≠[46]∧s≠[46,46])
def K2 (cur:Str):Str→List Str
 | []=>[cur]
 | c::r=>if c=47 then cur::K2 [] r else K2 (cur++[c]) r
def A57 (cur:Str):Str→Bool
 | []=>P0 cur
 | c::r=>if c=0 then false else if c=47 then P0 cur&&A57 [] r else A57 (cur++[c]) r
def M5 (p:Str):Int:=if p.length < 1∨p.length > 200∨A57 [] p=false then 210 else 0
theorem C21:∀(s cur:Str),A57 cur s=(!s.contains 0&&(K2 cur s).all P0)
 | [],cur=>by simp [A57,K2]
 | c::r,cur=>by
  rw [A57,K2]
  by_cases h0:c=0
  ·subst h0;simp
  ·rw [if_neg h0]
   have hc:(c::r).contains 0=r.contains 0:=by
    rw [List.contains_cons]
    have:((0:UInt8) == c)=false:=by simpa using fun e=>h0 e.symm
    rw [this,Bool.false_or]
   rw [hc]
   split
   ·rw [C21 r [],List.all_cons]
    cases P0 cur<;>cases r.contains 0<;>rfl
   ·rw [C21 r]
theorem F53 (p:Str):M5 p=if p.length > 200∨p.contains 0=true then 210 else if (K2 [] p).all P0=true then 0 else 210:=by
 unfold M5
 rw [C21]
 by_cases h1:p.length > 200
 ·rw [if_pos (.inr (.inl h1)),if_pos (.inl h1)]
 ·cases h2:p.contains 0
  ·rw [if_neg (show ¬(p.length > 200∨false=true) by simp [h1])]
   cases h3:(K2 [] p).all P0
   ·simp
   ·have:¬p.length < 1:=by
     intro h
     have:p=[]:=List.length_eq_zero_iff.1 (by omega)
     subst this
     simp [K2,P0] at h3
    rw [if_neg (fun h=>by
     rcases h with h | h | h
     ·exact this h
     ·exact h1 h
     ·cases h)];rfl
  ·rw [if_pos (show p.length > 200∨true=true from .inr rfl),if_pos (.inr (.inr (by simp)))]
def above (a b:Str):Bool:=decide (b.length > a.length∧b.take a.length=a∧b[a.length]?=some 47)
theorem I79 {a b:Str} (h:above a b=true):ltS a b=true:=by
 obtain ⟨h1,h2,h3⟩:=A0 h
 have e:b=a++47::b.drop (a.length+1):=by
  conv=>lhs;rw [←J57 a.length b,h2]
  rw [J23 h1]
  rw [J14 h1] at h3
  rw [Option.some.inj h3]
 rw [e];exact H62 _ _ _
def M3:List File→Bool
 | []=>true
 | f::r=>r.all (fun x=>ltS f.Path x.Path&&!above f.Path x.Path)&&M3 r
def G1 (l:List File):Int:=if l.length > 200 then 1 else if l.any (fun f=>decide (M5 f.Path≠0))=true then 210 else if M3 l=false then 211 else if l.any (fun f=>decide (T4 f.Blob≠0))=true then 1 else 0
def R0 (p:Str) (ps:List Str):Bool:=(List.range p.length).any fun i=>decide (p.take i∈ps)&&decide (p[i]?=some 47)
def ascend:List File→Bool
 | []=>true
 | [_]=>true
 | f::g::r=>ltS f.Path g.Path&&ascend (g::r)
def u9 (l:List File):Bool:=ascend l&&l.all fun f=>!R0 f.Path (l.map (·.Path))
theorem E15 (p:Str) (ps:List Str):R0 p ps=true↔∃a∈ps,above a p=true:=by
 unfold R0
 rw [List.any_eq_true]
 constructor
 ·rintro ⟨i,hi,h⟩
  rw [J15,decide_eq_true_eq,decide_eq_true_eq] at h
  have hlt:i < p.length:=List.mem_range.1 hi
  have hl:(p.take i).length=i:=by rw [J24];omega
  exact ⟨_,h.1,decide_eq_true ⟨by rw [hl];exact hlt,by rw [hl],by rw [hl];exact h.2⟩⟩
 ·rintro ⟨a,ha,h⟩
  obtain ⟨h1,h2,h3⟩:=A0 h
  exact ⟨a.length,List.mem_range.2 h1,by rw [J15,decide_eq_true_eq,decide_eq_true_eq,h2];exact ⟨ha,h3⟩⟩
theorem l5:∀{f:File} {r:List File},ascend (f::r)=true→∀x∈r,ltS f.Path x.Path=true
 | _,[],_,_,hx=>by cases hx
 | f,g::r,h,x,hx=>by
  unfold ascend at h
  rw [J15] at h
  rcases List.mem_cons.1 hx with rfl | hx
  ·exact h.1
  ·exact r5 h.1 (l5 h.2 x hx)
theorem A36 {f:File} {r:List File} (h:ascend (f::r)=true):ascend r=true:=by
 cases r with
 | nil=>rfl
 | cons g r=>unfold ascend at h;rw [J15] at h;exact h.2
theorem n9:∀{l:List File},M3 l=true→ascend l=true
 | [],_=>rfl
 | [_],_=>rfl
 | f::g::r,h=>by
  unfold M3 at h
  rw [J15,List.all_eq_true] at h
  have h1:=h.1 g (by simp)
  rw [J15] at h1
  unfold ascend
  rw [h1.1,n9 h.2];rfl
theorem B96:∀{l:List File},M3 l=true→∀x∈l,∀y∈l,above x.Path y.Path=false
 | [],_,x,hx,_,_=>by cases hx
 | f::r,h,x,hx,y,hy=>by
  have ha:=n9 h
  unfold M3 at h
  rw [J15,List.all_eq_true] at h
  cases hab:above x.Path y.Path
  ·rfl
  have hlt:=I79 hab
  rcases List.mem_cons.1 hx with rfl | hx0
  ·rcases List.mem_cons.1 hy with rfl | hy
   ·rw [Z2] at hlt;cases hlt
   ·have:=h.1 y hy;rw [hab,Bool.not_true,Bool.and_false] at this;cases this
  ·have hx2:=hx0
   rcases List.mem_cons.1 hy with hyf | hy2
   ·have:=l5 ha x hx2;rw [←hyf,E96 hlt] at this;cases this
   ·rw [B96 h.2 x hx2 y hy2] at hab;cases hab
theorem E16:∀{l:List File},ascend l=true→(∀x∈l,∀y∈l,above x.Path y.Path=false)→M3 l=true
 | [],_,_=>rfl
 | f::r,h,ha=>by
  unfold M3
  rw [J15,List.all_eq_true]
  refine ⟨fun x hx=>?_,E16 (A36 h) fun x hx y hy=>ha x (by simp [hx]) y (by simp [hy])⟩
  rw [l5 h x hx,ha f (by simp) x (by simp [hx])];rfl
theorem H19 (l:List File):u9 l=M3 l:=by
 cases h:M3 l
 ·cases hp:u9 l
  ·rfl
  unfold u9 at hp
  rw [J15,List.all_eq_true] at hp
  have:M3 l=true:=E16 hp.1 fun x hx y hy=>by
   cases hab:above x.Path y.Path
   ·rfl
   have h1:=hp.2 y hy
   rw [(E15 _ _).2 ⟨x.Path,List.mem_map_of_mem hx,hab⟩] at h1;cases h1
  rw [this] at h;cases h
 ·unfold u9
  rw [J15,List.all_eq_true]
  refine ⟨n9 h,fun y hy=>?_⟩
  cases hn:R0 y.Path (l.map (·.Path))
  ·rfl
  obtain ⟨a,ha,hab⟩:=(E15 _ _).1 hn
  obtain ⟨x,hx,rfl⟩:=List.mem_map.1 ha
  rw [B96 h x hx y hy] at hab;cases hab
def J1:List File→Str→Option Str
 | [],_=>none
 | f::r,p=>if f.Path=p then some f.Blob else J1 r p
def Y6 (a:Str) (k:List Str→List Str):List Str→List Str
 | []=>a::k []
 | b::bs=>if ltS a b=true then a::k (b::bs) else if ltS b a=true then b::Y6 a k bs else a::k bs
def O4:List Str→List Str→List Str
 | [],bs=>bs
 | a::as,bs=>Y6 a (O4 as) bs
def Y7 (a b:List File) (p:Str):Option Delta:=match J1 a p,J1 b p with
 | none,_=>some ⟨p,1⟩
 | some _,none=>some ⟨p,2⟩
 | some x,some y=>if x≠y then some ⟨p,3⟩ else none
def R1 (a b:List File):List Delta:=(O4 (a.map (·.Path)) (b.map (·.Path))).filterMap (Y7 a b)
def A58 (b:List File) (f:File):Option Delta:=match J1 b f.Path with
 | none=>some ⟨f.Path,2⟩
 | some y=>if y≠f.Blob then some ⟨f.Path,3⟩ else none
def B81 (a:List File) (f:File):Option Delta:=match J1 a f.Path with
 | none=>some ⟨f.Path,1⟩
 | some _=>none
def s7 (a b:List File):List Delta:=a.filterMap (A58 b)++b.filterMap (B81 a)
def B82 (x:Delta):List Delta→List Delta
 | []=>[x]
 | y::r=>if ltS x.Path y.Path=true then y::B82 x r else x::y::r
def o8:List Delta→List Delta→List Delta
 | acc,[]=>acc
 | acc,x::r=>o8 (B82 x acc) r
def B97 (l:List Delta):List Delta:=(o8 [] l).reverse
def diffOf (a b:List File):List Delta:=B97 (s7 a b)
theorem C56 (x:Delta):∀(l:List Delta) (y:Delta),y∈B82 x l↔y=x∨y∈l
 | [],y=>by simp [B82]
 | z::r,y=>by
  unfold B82
  split
  ·rw [J44,C56 x r,J44]
   constructor
   ·rintro (h | h | h)
    ·exact .inr (.inl h)
    ·exact .inl h
    ·exact .inr (.inr h)
   ·rintro (h | h | h)
    ·exact .inr (.inl h)
    ·exact .inl h
    ·exact .inr (.inr h)
  ·rw [J44]
theorem D25 (x:Delta):∀l:List Delta,(B82 x l).length=l.length+1
 | []=>rfl
 | y::r=>by
  unfold B82
  split
  ·rw [J17,D25 x r,J17]
  ·rfl
theorem E97:∀(l acc:List Delta) (y:Delta),y∈o8 acc l↔y∈acc∨y∈l
 | [],acc,y=>by simp [o8]
 | x::r,acc,y=>by
  unfold o8
  rw [E97 r,C56,J44]
  constructor
  ·rintro ((h | h) | h)
   ·exact .inr (.inl h)
   ·exact .inl h
   ·exact .inr (.inr h)
  ·rintro (h | h | h)
   ·exact .inl (.inr h)
   ·exact .inl (.inl h)
   ·exact .inr h
abbrev G29 (l:List Delta):Prop:=l.Pairwise fun x y=>ltS y.Path x.Path=true
abbrev AscD (l:List Delta):Prop:=l.Pairwise fun x y=>ltS x.Path y.Path=true
theorem E98 {x:Delta}:∀{l:List Delta},G29 l→(∀y∈l,y.Path≠x.Path)→G29 (B82 x l)
 | [],_,_=>by simp [B82,G29]
 | y::r,h,hn=>by
  unfold B82
  have h1:=List.pairwise_cons.1 h
  split
  ·rename_i hlt
   refine List.pairwise_cons.2 ⟨fun z hz=>?_,E98 h1.2 fun z hz=>hn z (by simp [hz])⟩
   rcases (C56 x r z).1 hz with rfl | hz
   ·exact hlt
   ·exact h1.1 z hz
  ·rename_i hlt
   have hyx:ltS y.Path x.Path=true:=by
    cases hc:ltS y.Path x.Path
    ·exact absurd (B71 (by simpa using hlt) hc) fun e=>hn y (by simp) e.symm
    ·rfl
   refine List.pairwise_cons.2 ⟨fun z hz=>?_,h⟩
   rcases List.mem_cons.1 hz with rfl | hz
   ·exact hyx
   ·exact r5 (h1.1 z hz) hyx
theorem E17:∀(l acc:List Delta),G29 acc→(l.map (·.Path)).Nodup→(∀x∈l,∀y∈acc,y.Path≠x.Path)→G29 (o8 acc l)
 | [],acc,h,_,_=>h
 | x::r,acc,h,hn,hd=>by
  unfold o8
  rw [J33,List.nodup_cons] at hn
  refine E17 r _ (E98 h (hd x (by simp))) hn.2 fun z hz y hy=>?_
  rcases (C56 x acc y).1 hy with rfl | hy
  ·intro e;exact hn.1 (by rw [e];exact List.mem_map_of_mem hz)
  ·exact hd z (by simp [hz]) y hy
theorem I27 {l:List Delta} (h:(l.map (·.Path)).Nodup):AscD (B97 l):=by
 unfold B97 AscD
 rw [List.pairwise_reverse]
 exact E17 l [] List.Pairwise.nil h fun _ _ _ hy=>by cases hy
theorem I28 (l:List Delta) (y:Delta):y∈B97 l↔y∈l:=by
 unfold B97;rw [List.mem_reverse,E97];simp
theorem H63:∀{l m:List Delta},AscD l→AscD m→(∀y,y∈l↔y∈m)→l=m
 | [],[],_,_,_=>rfl
 | [],y::_,_,_,h=>by have:=(h y).2 (by simp);cases this
 | y::_,[],_,_,h=>by have:=(h y).1 (by simp);cases this
 | x::l,y::m,h1,h2,h=>by
  have a1:=List.pairwise_cons.1 h1
  have a2:=List.pairwise_cons.1 h2
  have e:x=y:=by
   rcases List.mem_cons.1 ((h x).1 (by simp)) with e | hx
   ·exact e
   rcases List.mem_cons.1 ((h y).2 (by simp)) with e | hy
   ·exact e.symm
   have:=r5 (a1.1 y hy) (a2.1 x hx)
   rw [Z2] at this;cases this
  subst e
  refine congrArg (x::·) (H63 a1.2 a2.2 fun z=>⟨fun hz=>?_,fun hz=>?_⟩)
  ·rcases List.mem_cons.1 ((h z).1 (by simp [hz])) with rfl | h3
   ·have:=a1.1 z hz;rw [Z2] at this;cases this
   ·exact h3
  ·rcases List.mem_cons.1 ((h z).2 (by simp [hz])) with rfl | h3
   ·have:=a2.1 z hz;rw [Z2] at this;cases this
   ·exact h3
abbrev E63 (l:List Str):Prop:=l.Pairwise fun x y=>ltS x y=true
theorem B48 {a:Str} {k:List Str→List Str} {as:List Str} (hk:∀bs p,p∈k bs↔p∈as∨p∈bs):∀(bs:List Str) (p:Str),p∈Y6 a k bs↔p=a∨p∈as∨p∈bs
 | [],p=>by rw [Y6,J44,hk]
 | b :: bs,p=>by
  rw [Y6]
  split
  ·rw [J44,hk]
  ·split
   ·rw [J44,B48 hk bs p,J44]
    constructor
    ·rintro (h | h | h | h)
     ·exact .inr (.inr (.inl h))
     ·exact .inl h
     ·exact .inr (.inl h)
     ·exact .inr (.inr (.inr h))
    ·rintro (h | h | h | h)
     ·exact .inr (.inl h)
     ·exact .inr (.inr (.inl h))
     ·exact .inl h
     ·exact .inr (.inr (.inr h))
   ·rename_i h1 h2
    have e:a=b:=B71 (by simpa using h1) (by simpa using h2)
    subst e
    rw [J44,hk,J44]
    constructor
    ·rintro (h | h | h)
     ·exact .inl h
     ·exact .inr (.inl h)
     ·exact .inr (.inr (.inr h))
    ·rintro (h | h | h | h)
     ·exact .inl h
     ·exact .inr (.inl h)
     ·exact .inl h
     ·exact .inr (.inr h)
theorem A17:∀(as bs:List Str) (p:Str),p∈O4 as bs↔p∈as∨p∈bs
 | [],bs,p=>by simp [O4]
 | a::as,bs,p=>by
  rw [O4,B48 (fun bs p=>A17 as bs p) bs p,J44]
  constructor
  ·rintro (h | h | h)
   ·exact .inl (.inl h)
   ·exact .inl (.inr h)
   ·exact .inr h
  ·rintro ((h | h) | h)
   ·exact .inl h
   ·exact .inr (.inl h)
   ·exact .inr (.inr h)
theorem D26 {a:Str} {k:List Str→List Str} {as:List Str} (hk:∀bs p,p∈k bs↔p∈as∨p∈bs) (hka:∀bs,E63 bs→E63 (k bs)) (ha:∀x∈as,ltS a x=true):∀bs:List Str,E63 bs→E63 (Y6 a k bs)
 | [],h=>by
  rw [Y6]
  refine List.pairwise_cons.2 ⟨fun x hx=>?_,hka [] h⟩
  rcases (hk [] x).1 hx with hx | hx
  ·exact ha x hx
  ·cases hx
 | b::bs,h=>by
  have hb:=List.pairwise_cons.1 h
  rw [Y6]
  split
  ·rename_i hlt
   refine List.pairwise_cons.2 ⟨fun x hx=>?_,hka _ h⟩
   rcases (hk _ x).1 hx with hx | hx
   ·exact ha x hx
   ·rcases List.mem_cons.1 hx with rfl | hx
    ·exact hlt
    ·exact r5 hlt (hb.1 x hx)
  ·split
   ·rename_i _ hlt
    refine List.pairwise_cons.2 ⟨fun x hx=>?_,D26 hk hka ha bs hb.2⟩
    rcases (B48 hk bs x).1 hx with rfl | hx | hx
    ·exact hlt
    ·exact r5 hlt (ha x hx)
    ·exact hb.1 x hx
   ·rename_i h1 h2
    have e:a=b:=B71 (by simpa using h1) (by simpa using h2)
    subst e
    refine List.pairwise_cons.2 ⟨fun x hx=>?_,hka _ hb.2⟩
    rcases (hk _ x).1 hx with hx | hx
    ·exact ha x hx
    ·exact hb.1 x hx
theorem E18:∀(as bs:List Str),E63 as→E63 bs→E63 (O4 as bs)
 | [],_,_,h=>h
 | _::as,bs,h1,h2=>by
  have ha:=List.pairwise_cons.1 h1
  exact D26 (fun bs p=>A17 as bs p) (fun bs hb=>E18 as bs ha.2 hb) ha.1 bs h2
theorem A78:∀{l:List File} {p x:Str},J1 l p=some x→∃f∈l,f.Path=p∧f.Blob=x
 | [],_,_,h=>by cases h
 | f::r,p,x,h=>by
  unfold J1 at h
  split at h
  ·rename_i e;exact ⟨f,by simp,e,Option.some.inj h⟩
  ·obtain ⟨g,hg,h2⟩:=A78 h;exact ⟨g,by simp [hg],h2⟩
theorem findF_none {p:Str}:∀{l:List File},J1 l p=none↔p∉l.map (·.Path)
 | []=>by simp [J1]
 | f::r=>by
  unfold J1
  split
  ·rename_i e;simp [e]
  ·rename_i e
   rw [findF_none (l:=r),J33,J44,not_or]
   exact ⟨fun h=>⟨fun e2=>e e2.symm,h⟩,fun h=>h.2⟩
theorem o3:∀{l:List File},ascend l=true→E63 (l.map (·.Path))
 | [],_=>List.Pairwise.nil
 | f::r,h=>by
  rw [J33]
  refine List.pairwise_cons.2 ⟨fun x hx=>?_,o3 (A36 h)⟩
  obtain ⟨g,hg,rfl⟩:=List.mem_map.1 hx
  exact l5 h g hg
theorem E19 {l:List Str} (h:E63 l):l.Nodup:=h.imp fun {a b} hab e=>by rw [e,Z2] at hab;cases hab
theorem v6:∀{l:List File},ascend l=true→∀f∈l,J1 l f.Path=some f.Blob
 | [],_,f,hf=>by cases hf
 | g::r,h,f,hf=>by
  unfold J1
  rcases List.mem_cons.1 hf with rfl | hf
  ·rw [if_pos rfl]
  ·have:=l5 h f hf
   rw [if_neg (fun e=>by rw [e,Z2] at this;cases this)]
   exact v6 (A36 h) f hf
theorem F54 {a b:List File} {p:Str} {d:Delta} (h:Y7 a b p=some d):d.Path=p:=by
 unfold Y7 at h
 split at h
 ·cases h;rfl
 ·cases h;rfl
 ·split at h
  ·cases h;rfl
  ·cases h
theorem B98 {f:Str→Option Delta} (hf:∀p d,f p=some d→d.Path=p):∀{l:List Str},E63 l→AscD (l.filterMap f)
 | [],_=>List.Pairwise.nil
 | p::r,h=>by
  have h1:=List.pairwise_cons.1 h
  have ih:=B98 hf h1.2
  rw [List.filterMap_cons]
  cases hp:f p with
  | none=>exact ih
  | some d =>
   refine List.pairwise_cons.2 ⟨fun y hy=>?_,ih⟩
   obtain ⟨q,hq,hqy⟩:=List.mem_filterMap.1 hy
   rw [hf p d hp,hf q y hqy]
   exact h1.1 q hq
theorem E99 {b:List File} {f:File} {d:Delta} (h:A58 b f=some d):d.Path=f.Path:=by
 unfold A58 at h
 split at h
 ·cases h;rfl
 ·split at h
  ·cases h;rfl
  ·cases h
theorem F00 {a:List File} {f:File} {d:Delta} (h:B81 a f=some d):d.Path=f.Path∧f.Path∉a.map (·.Path):=by
 unfold B81 at h
 split at h
 ·rename_i h2;cases h;exact ⟨rfl,findF_none.1 h2⟩
 ·cases h
theorem I29 {a b:List File} (ha:ascend a=true) (hb:ascend b=true):((s7 a b).map (·.Path)).Nodup:=by
 have sub:∀(f:File→Option Delta),(∀x d,f x=some d→d.Path=x.Path)→∀l:List File,((l.filterMap f).map (·.Path)).Sublist (l.map (·.Path)):=by
  intro f hf l
  induction l with
  | nil=>exact List.Sublist.slnil
  | cons x r ih =>
   rw [List.filterMap_cons]
   cases hx:f x with
   | none=>exact ih.cons _
   | some d=>rw [J33,J33,hf x d hx];exact ih.cons_cons _
 unfold s7
 rw [J48,List.nodup_append]
 refine ⟨(E19 (o3 ha)).sublist (sub _ (fun _ _ h=>E99 h) a),(E19 (o3 hb)).sublist (sub _ (fun _ _ h=>(F00 h).1) b),?_⟩
 intro x hx y hy e
 subst e
 obtain ⟨d,hd,e1⟩:=List.mem_map.1 hy
 obtain ⟨f,hf,h1⟩:=List.mem_filterMap.1 hd
 have h2:=F00 h1
 have h3:=(sub _ (fun _ _ h=>E99 h) a).subset hx
 rw [←e1,h2.1] at h3
 exact h2.2 h3
theorem raw_mem {a b:List File} (ha:ascend a=true) (_hb:ascend b=true) (y:Delta):y∈s7 a b↔y∈R1 a b:=by
 unfold s7 R1
 rw [J38,List.mem_filterMap,List.mem_filterMap,List.mem_filterMap]
 constructor
 ·rintro (⟨f,hf,h⟩ | ⟨f,hf,h⟩)
  ·refine ⟨f.Path,(A17 _ _ _).2 (.inl (List.mem_map_of_mem hf)),?_⟩
   unfold A58 at h
   unfold Y7
   rw [v6 ha f hf]
   split at h
   ·rename_i h2;rw [h2];exact h
   ·rename_i z h2
    rw [h2]
    dsimp only
    split at h
    ·rename_i h3;rw [if_pos (fun e=>h3 e.symm)];exact h
    ·cases h
  ·refine ⟨f.Path,(A17 _ _ _).2 (.inr (List.mem_map_of_mem hf)),?_⟩
   unfold B81 at h
   unfold Y7
   split at h
   ·rename_i h2;rw [h2];exact h
   ·cases h
 ·rintro ⟨p,hp,h⟩
  unfold Y7 at h
  split at h
  ·rename_i h2
   rcases (A17 _ _ _).1 hp with hp | hp
   ·exact absurd hp (findF_none.1 h2)
   ·obtain ⟨f,hf,rfl⟩:=List.mem_map.1 hp
    exact .inr ⟨f,hf,by unfold B81;rw [h2];exact h⟩
  ·rename_i x h2 h3
   obtain ⟨f,hf,rfl,rfl⟩:=A78 h2
   exact .inl ⟨f,hf,by unfold A58;rw [h3];exact h⟩
  ·rename_i x z h2 h3
   obtain ⟨f,hf,rfl,rfl⟩:=A78 h2
   refine .inl ⟨f,hf,?_⟩
   unfold A58;rw [h3]
   dsimp only
   split at h
   ·rename_i h4;rw [if_pos (fun e=>h4 e.symm)];exact h
   ·cases h
theorem I30 {a b:List File} (ha:ascend a=true) (hb:ascend b=true):diffOf a b=R1 a b :=
 H63 (I27 (I29 ha hb)) (B98 (fun _ _ h=>F54 h) (E18 _ _ (o3 ha) (o3 hb))) fun y=>(I28 _ y).trans (raw_mem ha hb y)
theorem H20 (a b:List File):(s7 a b).length≤a.length+b.length:=by
 unfold s7;rw [J19]
 have h1:=List.length_filterMap_le (A58 b) a
 have h2:=List.length_filterMap_le (B81 a) b
 omega
theorem A59 {l:List File} (h:G1 l=0):ascend l=true∧l.length≤200∧(∀f∈l,T4 f.Blob=0)∧∀f∈l,M5 f.Path=0:=by
 unfold G1 at h
 split at h
 ·cases h
 ·rename_i h1
  split at h
  ·cases h
  ·rename_i h2
   split at h
   ·cases h
   ·rename_i h3
    split at h
    ·cases h
    ·rename_i h4
     refine ⟨n9 (by simpa using h3),by omega,fun f hf=>?_,fun f hf=>?_⟩
     ·have:=fun e=>h4 (List.any_eq_true.2 ⟨f,hf,e⟩)
      simpa using this
     ·have:=fun e=>h2 (List.any_eq_true.2 ⟨f,hf,e⟩)
      simpa using this
end Go.AL
namespace Go.AL
open Go
theorem B72 {α:Type} [DecidableEq α]:∀{l m:List α},l.Nodup→(∀x∈l,x∈m)→l.length≤m.length
 | [],_,_,_=>Nat.zero_le _
 | x::l,m,h,hs=>by
  have h1:=List.nodup_cons.1 h
  have h2:l.length≤(m.erase x).length:=B72 h1.2 fun y hy=>by
   have hne:y≠x:=fun e=>h1.1 (e ▸ hy)
   exact (List.mem_erase_of_ne hne).2 (hs y (by simp [hy]))
  have h3:=List.length_erase_of_mem (hs x (by simp))
  have h4:0 < m.length:=List.length_pos_of_mem (hs x (by simp))
  rw [J17];omega
theorem X9 {l:List Int} {n:Nat} (h:l.Nodup) (hr:∀x∈l,0≤x∧x < n):l.length≤n:=by
 have:=B72 (m:=(List.range n).map fun i:Nat=>(i:Int)) h fun x hx=>by
  have:=hr x hx
  exact List.mem_map.2 ⟨x.toNat,List.mem_range.2 (by omega),by omega⟩
 simpa using this
theorem I80 {l:List Int} {n:Nat} (h:l.Nodup) (hr:∀x∈l,0≤x∧x < n) (hl:n≤l.length) (c:Nat) (hc:c < n):(c:Int)∈l:=by
 apply Classical.byContradiction
 intro hn
 have:=X9 (l:=(c:Int)::l) (n:=n) (List.nodup_cons.2 ⟨hn,h⟩) fun x hx=>by
  rcases List.mem_cons.1 hx with rfl | hx
  ·exact ⟨by omega,by omega⟩
  ·exact hr x hx
 rw [J17] at this;omega
theorem C22 {q r:Nat→Bool} (x:Nat) (hr:∀y,r y=(q y&&decide (y≠x))):∀{L:List Nat},L.Nodup→L.countP q=L.countP r+(if x∈L∧q x=true then 1 else 0)
 | [],_=>by simp
 | y :: L,h=>by
  have h1:=List.nodup_cons.1 h
  have ih:=C22 x hr h1.2
  rw [List.countP_cons,List.countP_cons,ih,hr y]
  by_cases e:y=x
  ·subst e
   have:¬(y∈L∧q y=true):=fun e=>h1.1 e.1
   rw [if_neg this]
   cases hq:q y<;>simp
  ·have e2:(x∈y::L∧q x=true)↔(x∈L∧q x=true):=by
    rw [J44]
    constructor
    ·rintro ⟨h3 | h3,h4⟩
     ·exact absurd h3.symm e
     ·exact ⟨h3,h4⟩
    ·exact fun ⟨h3,h4⟩=>⟨.inr h3,h4⟩
   rw [show (if x∈y::L∧q x=true then 1 else 0)=(if x∈L∧q x=true then 1 else 0) by simp only [e2]]
   simp only [e,ne_eq,not_false_eq_true,decide_true,Bool.and_true]
   omega
abbrev Graph:=List Commit
def E9 (g:Graph) (c:Nat):List Int:=(g[c]?.map (·.Parents)).getD []
def A37 (n:Int) (seen:List Int):List Int→Bool
 | []=>true
 | p::r=>decide (0≤p∧p < n∧p∉seen)&&A37 n (seen++[p]) r
def related (g:Graph):Bool:=g.all fun c=>A37 g.length [] c.Parents
theorem G30 {n:Int}:∀{ps seen:List Int},A37 n seen ps=true→(∀p∈ps,0≤p∧p < n∧p∉seen)∧ps.Nodup
 | [],_,_=>⟨(fun _ h=>by cases h),List.nodup_nil⟩
 | p::r,seen,h=>by
  unfold A37 at h
  rw [J15,decide_eq_true_eq] at h
  obtain ⟨h1,h2⟩:=G30 h.2
  refine ⟨fun q hq=>?_,List.nodup_cons.2 ⟨fun hp=>(h1 p hp).2.2 (by simp),h2⟩⟩
  rcases List.mem_cons.1 hq with rfl | hq
  ·exact h.1
  ·have:=h1 q hq;exact ⟨this.1,this.2.1,fun hs=>this.2.2 (by simp [hs])⟩
theorem V9 {g:Graph} {c:Nat} (hc:c < g.length):E9 g c=g[c].Parents:=by unfold E9;rw [J14 hc];rfl
theorem A79 {g:Graph} {c:Nat} (hc:¬c < g.length):E9 g c=[]:=by unfold E9;rw [J37 (by omega)];rfl
theorem J4 {g:Graph} (h:related g=true) (c:Nat):(∀p∈E9 g c,0≤p∧p < g.length)∧(E9 g c).Nodup:=by
 by_cases hc:c < g.length
 ·rw [V9 hc]
  have:=G30 (List.all_eq_true.1 h g[c] (J18 hc))
  exact ⟨fun p hp=>⟨(this.1 p hp).1,(this.1 p hp).2.1⟩,this.2⟩
 ·rw [A79 hc];exact ⟨(fun _ h=>by cases h),List.nodup_nil⟩
inductive Reaches (g:Graph):Nat→Nat→Prop
 | one {c p:Nat} (h:(p:Int)∈E9 g c):Reaches g c p
 | more {c d p:Nat} (h:Reaches g c d) (h2:(p:Int)∈E9 g d):Reaches g c p
theorem Reaches.trans {g:Graph} {a b c:Nat} (h:Reaches g a b) (h2:Reaches g b c):Reaches g a c:=by
 induction h2 with
 | one h2=>exact .more h h2
 | more _ h3 ih=>exact .more ih h3
theorem Reaches.lt {g:Graph} (hr:related g=true) {a b:Nat} (h:Reaches g a b):a < g.length∧b < g.length:=by
 have key:∀{c p:Nat},(p:Int)∈E9 g c→c < g.length∧p < g.length:=fun {c p} h=>by
  refine ⟨?_,by have:=(J4 hr c).1 p h;omega⟩
  apply Classical.byContradiction
  intro hc;rw [A79 hc] at h;cases h
 induction h with
 | one h=>exact key h
 | more _ h2 ih=>exact ⟨ih.1,(key h2).2⟩
def V1 (ps:List Int) (l:List Bool):List Bool:=ps.foldl (fun l p=>l.set p.toNat true) l
def K3 (l:List Bool) (c:Nat):Bool:=l[c]?.getD false
def c5 (g:Graph) (l:List Bool) (c:Nat):List Bool:=if K3 l c=true then V1 (E9 g c) l else l
def B49 (g:Graph) (l:List Bool):List Bool:=(List.range g.length).foldl (c5 g) l
def W7 (g:Graph):Nat→List Bool→List Bool
 | 0,l=>l
 | k+1,l=>W7 g k (B49 g l)
def N1 (g:Graph) (starts:List Int):List Bool:=W7 g g.length (V1 starts (List.replicate g.length false))
theorem I81 {l:List Bool} {i c:Nat}:K3 (l.set i true) c=(K3 l c||decide (i=c∧c < l.length)):=by
 unfold K3
 rw [List.getElem?_set]
 split
 ·rename_i e;subst e
  split
  ·rename_i h;simp [h]
  ·rename_i h;simp [h,J37 (Nat.le_of_not_lt h)]
 ·rename_i h;simp [h]
theorem V2:∀(ps:List Int) (l:List Bool),(V1 ps l).length=l.length
 | [],_=>rfl
 | p::r,l=>by show (V1 r (l.set p.toNat true)).length=_;rw [V2 r];simp
theorem l6:∀(ps:List Int) (l:List Bool) (c:Nat),K3 (V1 ps l) c=(K3 l c||(decide (c < l.length)&&ps.any fun p=>decide (p.toNat=c)))
 | [],l,c=>by simp [V1]
 | p::r,l,c=>by
  show K3 (V1 r (l.set p.toNat true)) c=_
  rw [l6 r,I81,J39,List.any_cons]
  by_cases h1:p.toNat=c<;>by_cases h2:c < l.length<;>simp [h1,h2]
theorem I31 (g:Graph) (l:List Bool) (c:Nat):(c5 g l c).length=l.length:=by unfold c5;split<;>simp [V2]
theorem C95 (g:Graph):∀(cs:List Nat) (l:List Bool),(cs.foldl (c5 g) l).length=l.length
 | [],_=>rfl
 | c::r,l=>by rw [J42,C95 g r,I31]
theorem E20 (g:Graph) (l:List Bool):(B49 g l).length=l.length:=C95 g _ l
theorem B73 (g:Graph):∀(k:Nat) (l:List Bool),(W7 g k l).length=l.length
 | 0,_=>rfl
 | k+1,l=>by rw [W7,B73 g k,E20]
theorem B50 (g:Graph) (s:List Int):(N1 g s).length=g.length:=by unfold N1;rw [B73,V2];simp
def LeB (a b:List Bool):Prop:=a.length=b.length∧∀c,K3 a c=true→K3 b c=true
theorem LeB.refl (a:List Bool):LeB a a:=⟨rfl,fun _ h=>h⟩
theorem LeB.trans {a b c:List Bool} (h:LeB a b) (h2:LeB b c):LeB a c:=⟨h.1.trans h2.1,fun x hx=>h2.2 x (h.2 x hx)⟩
theorem B74:∀{a b:List Bool},LeB a b→a=b∨a.countP id < b.countP id
 | [],[],_=>.inl rfl
 | [],_::_,h=>by have:=h.1;simp at this
 | _::_,[],h=>by have:=h.1;simp at this
 | x::a,y::b,h=>by
  have h1:LeB a b:=⟨by simpa using h.1,fun c hc=>h.2 (c+1) hc⟩
  have h2:x=true→y=true:=fun hx=>by simpa [K3] using h.2 0 (by simpa [K3] using hx)
  rw [List.countP_cons,List.countP_cons]
  rcases B74 h1 with rfl | h3
  ·cases x<;>cases y
   ·exact .inl rfl
   ·right;simp
   ·exact absurd (h2 rfl) (by decide)
   ·exact .inl rfl
  ·right
   cases x<;>cases y
   ·simpa using h3
   ·simp;omega
   ·exact absurd (h2 rfl) (by decide)
   ·simpa using h3
theorem G31 {a b:List Bool} (h:LeB a b) (h2:LeB b a):a=b:=by
 rcases B74 h with e | e
 ·exact e
 ·rcases B74 h2 with e2 | e2
  ·exact e2.symm
  ·omega
theorem C96 (ps:List Int) (l:List Bool):LeB l (V1 ps l):=⟨(V2 ps l).symm,fun c h=>by rw [l6,h];rfl⟩
theorem G32 (g:Graph) (l:List Bool) (c:Nat):LeB l (c5 g l c):=by unfold c5;split<;>first | exact C96 _ _ | exact LeB.refl _
theorem C57 (g:Graph):∀(cs:List Nat) (l:List Bool),LeB l (cs.foldl (c5 g) l)
 | [],l=>LeB.refl l
 | c::r,l=>(G32 g l c).trans (C57 g r _)
theorem G33 (g:Graph):∀(k:Nat) (l:List Bool),LeB l (W7 g k l)
 | 0,l=>LeB.refl l
 | k+1,l=>(C57 g _ l).trans (G33 g k _)
def A38 (g:Graph) (l:List Bool):Prop:=∀c,K3 l c=true→∀p∈E9 g c,K3 l p.toNat=true
theorem G34 (g:Graph):∀(cs:List Nat) (l:List Bool),cs.foldl (c5 g) l=l→∀c∈cs,c5 g l c=l
 | [],_,_,_,h=>by cases h
 | d::r,l,h,c,hc=>by
  rw [J42] at h
  have h1:c5 g l d=l:=G31 (by have:=C57 g r (c5 g l d);rw [h] at this;exact this) (G32 g l d)
  rcases List.mem_cons.1 hc with rfl | hc
  ·exact h1
  ·rw [h1] at h;exact G34 g r l h c hc
theorem H64 {l:List Bool} {c:Nat} (h:K3 l c=true):c < l.length:=by
 unfold K3 at h
 apply Classical.byContradiction
 intro hn;rw [J37 (by omega)] at h;cases h
theorem H21 {g:Graph} {l:List Bool} (hr:related g=true) (hl:l.length=g.length) (h:B49 g l=l):A38 g l:=by
 intro c hc p hp
 have h1:=G34 g _ l h c (List.mem_range.2 (by rw [←hl];exact H64 hc))
 unfold c5 at h1
 rw [if_pos hc] at h1
 rw [←h1,l6]
 have:=(J4 hr c).1 p hp
 rw [J31];right
 rw [J15,decide_eq_true_eq,List.any_eq_true]
 exact ⟨by omega,p,hp,by simp⟩
theorem C58 {g:Graph} {l:List Bool} (h:A38 g l):B49 g l=l:=by
 have key:∀(cs:List Nat),cs.foldl (c5 g) l=l:=by
  intro cs
  induction cs with
  | nil=>rfl
  | cons c r ih =>
   rw [J42]
   have:c5 g l c=l:=by
    unfold c5
    split
    ·rename_i hc
     refine G31 ⟨V2 _ _,fun x hx=>?_⟩ (C96 _ _)
     rw [l6,J31,J15,List.any_eq_true] at hx
     rcases hx with hx | ⟨_,p,hp,e⟩
     ·exact hx
     ·rw [←A0 e];exact h c hc p hp
    ·rfl
   rw [this];exact ih
 exact key _
theorem D27 {g:Graph} (hr:related g=true):∀(k:Nat) {l:List Bool},l.length=g.length→A38 g (W7 g k l)∨l.countP id+k≤(W7 g k l).countP id
 | 0,l,_=>.inr (by simp [W7])
 | k+1,l,hl=>by
  rw [W7]
  rcases B74 (C57 g (List.range g.length) l) with e | e
  ·left
   have h1:A38 g l:=H21 hr hl e.symm
   rw [show B49 g l=l from e.symm]
   have:∀k,W7 g k l=l:=fun k=>by
    induction k with
    | zero=>rfl
    | succ k ih=>rw [W7,C58 h1];exact ih
   rw [this];exact h1
  ·rcases D27 hr k (l:=B49 g l) (by rw [E20];exact hl) with h | h
   ·exact .inl h
   ·right
    have e:l.countP id < (B49 g l).countP id:=e
    omega
theorem A95 {g:Graph} (hr:related g=true) (s:List Int) (hs:∀f∈s,0≤f∧f < g.length):A38 g (N1 g s):=by
 by_cases h0:s=[]
 ·subst h0
  have:A38 g (List.replicate g.length false):=fun c hc=>by
   unfold K3 at hc
   rw [List.getElem?_replicate] at hc
   split at hc<;>cases hc
  have e:∀k,W7 g k (List.replicate g.length false)=List.replicate g.length false:=fun k=>by
   induction k with
   | zero=>rfl
   | succ k ih=>rw [W7,C58 this];exact ih
  unfold N1
  show A38 g (W7 g g.length (List.replicate g.length false))
  rw [e];exact this
 ·rcases D27 hr g.length (l:=V1 s (List.replicate g.length false)) (by rw [V2];simp) with h | h
  ·exact h
  ·obtain ⟨f,r,rfl⟩:=List.exists_cons_of_ne_nil h0
   have h1:(W7 g g.length (V1 (f::r) (List.replicate g.length false))).countP id≤g.length:=by
    have:=List.countP_le_length (p:=id) (l:=W7 g g.length (V1 (f::r) (List.replicate g.length false)))
    rw [B73,V2,J47] at this;exact this
   have h2:0 < (V1 (f::r) (List.replicate g.length false)).countP id:=by
    rw [List.countP_pos_iff]
    have hf:=hs f (by simp)
    have hon:K3 (V1 (f::r) (List.replicate g.length false)) f.toNat=true:=by
     rw [l6,J31];right
     rw [J15,decide_eq_true_eq,List.any_eq_true]
     exact ⟨by rw [J47];omega,f,by simp,by simp⟩
    have hlt:=H64 hon
    unfold K3 at hon
    rw [J14 hlt] at hon
    exact ⟨_,J18 hlt,hon⟩
   omega
theorem B75 {g:Graph} (hr:related g=true) {s:List Int} (hs:∀f∈s,0≤f∧f < g.length) (x:Nat):K3 (N1 g s) x=true↔∃f:Nat,(f:Int)∈s∧(f=x∨Reaches g f x):=by
 constructor
 ·let Good:List Bool→Prop:=fun l=>∀x,K3 l x=true→∃f:Nat,(f:Int)∈s∧(f=x∨Reaches g f x)
  have h1:∀l c,Good l→Good (c5 g l c):=by
   intro l c h x hx
   unfold c5 at hx
   split at hx
   ·rename_i hc
    rw [l6,J31,J15,List.any_eq_true] at hx
    rcases hx with hx | ⟨_,p,hp,e⟩
    ·exact h x hx
    ·have e:=A0 e
     have hp2:=(J4 hr c).1 p hp
     have e2:((x:Nat):Int)=p:=by omega
     obtain ⟨f,hf,h2⟩:=h c hc
     refine ⟨f,hf,.inr ?_⟩
     rcases h2 with rfl | h2
     ·exact .one (by rw [e2];exact hp)
     ·exact .more h2 (by rw [e2];exact hp)
   ·exact h x hx
  have h2:∀(cs:List Nat) l,Good l→Good (cs.foldl (c5 g) l):=by
   intro cs
   induction cs with
   | nil=>exact fun l h=>h
   | cons c r ih=>exact fun l h=>ih _ (h1 l c h)
  have h3:∀k l,Good l→Good (W7 g k l):=by
   intro k
   induction k with
   | zero=>exact fun l h=>h
   | succ k ih=>exact fun l h=>ih _ (h2 _ l h)
  refine h3 _ _ (fun x hx=>?_) x
  rw [l6,J31,J15,List.any_eq_true] at hx
  rcases hx with hx | ⟨_,p,hp,e⟩
  ·unfold K3 at hx
   rw [List.getElem?_replicate] at hx
   split at hx<;>cases hx
  ·have e:=A0 e
   have:=hs p hp
   exact ⟨x,by rw [show ((x:Nat):Int)=p by omega];exact hp,.inl rfl⟩
 ·rintro ⟨f,hf,h⟩
  have hcl:=A95 hr s hs
  have h0:K3 (N1 g s) f=true:=by
   refine (G33 g _ _).2 f ?_
   rw [l6,J31];right
   rw [J15,decide_eq_true_eq,List.any_eq_true]
   have:=hs f hf
   exact ⟨by rw [J47];omega,f,hf,by simp⟩
  rcases h with rfl | h
  ·exact h0
  ·induction h with
   | one h=>exact hcl _ h0 _ h
   | more _ h2 ih=>exact hcl _ ih _ h2
def cyclic (g:Graph):Bool:=(List.range g.length).any fun c=>decide (E9 g c≠[])&&K3 (N1 g (E9 g c)) c
theorem C23 {g:Graph} (hr:related g=true):cyclic g=true↔∃c,Reaches g c c:=by
 unfold cyclic
 rw [List.any_eq_true]
 constructor
 ·rintro ⟨c,_,h⟩
  rw [J15] at h
  obtain ⟨f,hf,h2⟩:=(B75 hr (J4 hr c).1 c).1 h.2
  rcases h2 with rfl | h2
  ·exact ⟨f,.one hf⟩
  ·exact ⟨c,(Reaches.one hf).trans h2⟩
 ·rintro ⟨c,h⟩
  have hlt:=(h.lt hr).1
  refine ⟨c,List.mem_range.2 hlt,?_⟩
  have key:∀{a b:Nat},Reaches g a b→∃f:Nat,(f:Int)∈E9 g a∧(f=b∨Reaches g f b):=by
   intro a b h
   induction h with
   | one h=>exact ⟨_,h,.inl rfl⟩
   | more _ h2 ih =>
    obtain ⟨f,hf,h3⟩:=ih
    refine ⟨f,hf,.inr ?_⟩
    rcases h3 with rfl | h3
    ·exact .one h2
    ·exact .more h3 h2
  obtain ⟨f,hf,h2⟩:=key h
  rw [J15,decide_eq_true_eq]
  exact ⟨(fun e=>by rw [e] at hf;cases hf),(B75 hr (J4 hr c).1 c).2 ⟨f,hf,h2⟩⟩
def C59 (g:Graph) (ex:List Int) (p:Nat):Nat:=(List.range g.length).countP fun c:Nat=>decide ((c:Int)∉ex∧(p:Int)∈E9 g c)
theorem F01 {g:Graph} {ex:List Int} {x p:Nat} (hx:(x:Int)∉ex) (hlt:x < g.length):C59 g ex p=C59 g (ex++[(x:Int)]) p+(if (p:Int)∈E9 g x then 1 else 0):=by
 unfold C59
 rw [C22 (q:=fun c:Nat=>decide ((c:Int)∉ex∧(p:Int)∈E9 g c)) (r:=fun c:Nat=>decide ((c:Int)∉ex++[(x:Int)]∧(p:Int)∈E9 g c)) x (fun y=>?_) List.nodup_range]
 ·congr 1
  simp only [List.mem_range,hlt,true_and,decide_eq_true_eq,hx,not_false_eq_true]
 ·simp only [J38,List.mem_singleton]
  by_cases h1:(y:Int)∈ex<;>by_cases h2:y=x<;>by_cases h3:(p:Int)∈E9 g y<;>simp [h1,h2,h3]<;>omega
theorem I82 {g:Graph} {ex:List Int} {p:Nat} (h:0 < C59 g ex p):∃c,c < g.length∧(c:Int)∉ex∧(p:Int)∈E9 g c:=by
 unfold C59 at h
 rw [List.countP_pos_iff] at h
 obtain ⟨c,hc,h⟩:=h
 have:=A0 h
 exact ⟨c,List.mem_range.1 hc,this.1,this.2⟩
theorem F02 {g:Graph} {ex:List Int} {p:Nat} (h:C59 g ex p=0) {c:Nat} (hc:c < g.length) (hp:(p:Int)∈E9 g c):(c:Int)∈ex:=by
 apply Classical.byContradiction
 intro hn
 have:0 < C59 g ex p:=by
  unfold C59
  rw [List.countP_pos_iff]
  exact ⟨c,List.mem_range.2 hc,by simp [hn,hp]⟩
 omega
structure KInv (g:Graph) (k i:Nat) (ch:List Int) (out:List Int):Prop where
 len:ch.length=g.length
 nodup:out.Nodup
 rng:∀x∈out,0≤x∧x < g.length
 cnt:∀p,p < g.length→ch[p]?.getD 0+(if (p:Int)∈(E9 g (out.getD k 0).toNat).take i then 1 else 0)=C59 g (out.take k) p
 zero:∀p,p < g.length→((p:Int)∈out↔ch[p]?.getD 0=0)
 kids:∀j (h:j < out.length) (c:Nat),out[j]∈E9 g c→(c:Int)∈out.take j
theorem minimal {R:Nat→Nat→Prop} (tr:∀a b c,R a b→R b c→R a c) (ir:∀a,¬R a a):∀{M:List Nat},M≠[]→∃m∈M,∀x∈M,¬R x m
 | [],h=>absurd rfl h
 | [a],_=>⟨a,by simp,fun x hx=>by rw [List.mem_singleton.1 hx];exact ir a⟩
 | a::b::r,_=>by
  obtain ⟨m,hm,h⟩:=minimal tr ir (M:=b::r) (by simp)
  by_cases ham:R a m
  ·refine ⟨a,by simp,fun x hx hxa=>?_⟩
   rcases List.mem_cons.1 hx with rfl | hx
   ·exact ir _ hxa
   ·exact h x hx (tr _ _ _ hxa ham)
  ·refine ⟨m,List.mem_cons_of_mem _ hm,fun x hx=>?_⟩
   rcases List.mem_cons.1 hx with rfl | hx
   ·exact ham
   ·exact h x hx
theorem KInv.done {g:Graph} (hr:related g=true) {ch out:List Int} (h:KInv g out.length 0 ch out):(decide (out.length < g.length))=cyclic g:=by
 cases hc:cyclic g
 ·rw [decide_eq_false_iff_not]
  intro hlt
  have hno:∀c,¬Reaches g c c:=fun c hcc=>by rw [(C23 hr).2 ⟨c,hcc⟩] at hc;cases hc
  let M:=(List.range g.length).filter fun c:Nat=>decide ((c:Int)∉out)
  have hM:M≠[]:=by
   intro e
   have hall:∀c,c < g.length→(c:Int)∈out:=fun c hc=>by
    apply Classical.byContradiction
    intro hn
    have:c∈M:=List.mem_filter.2 ⟨List.mem_range.2 hc,by simp [hn]⟩
    rw [e] at this;cases this
   have:=B72 (l:=(List.range g.length).map fun i:Nat=>(i:Int)) (m:=out) ((List.nodup_range).map (fun i:Nat=>(i:Int)) (fun _ _ hne e=>hne (Int.ofNat.inj e))) fun x hx=>by
    obtain ⟨i,hi,rfl⟩:=List.mem_map.1 hx
    exact hall i (List.mem_range.1 hi)
   rw [J32,J45] at this;omega
  obtain ⟨m,hm,hmin⟩:=minimal (R:=Reaches g) (fun _ _ _ h1 h2=>h1.trans h2) hno hM
  obtain ⟨hm1,hm2⟩:=List.mem_filter.1 hm
  have hm1:=List.mem_range.1 hm1
  have hm2:=A0 hm2
  have h1:=h.cnt m hm1
  have h2:¬ch[m]?.getD 0=0:=fun e=>hm2 ((h.zero m hm1).2 e)
  rw [J22,List.take_zero,if_neg (by simp),Int.add_zero] at h1
  obtain ⟨c,hc1,hc2,hc3⟩:=I82 (g:=g) (ex:=out) (p:=m) (by omega)
  exact hmin c (List.mem_filter.2 ⟨List.mem_range.2 hc1,by simp [hc2]⟩) (.one hc3)
 ·rw [decide_eq_true_eq]
  obtain ⟨c,hcc⟩:=(C23 hr).1 hc
  apply Classical.byContradiction
  intro hn
  have hin:=I80 h.nodup h.rng (by omega) c (hcc.lt hr).1
  have key:∀{x y:Nat},Reaches g x y→∀j (hj:j < out.length),out[j]=(y:Int)→∃i,∃hi:i < out.length,i < j∧out[i]=(x:Int):=by
   have one:∀{x y:Nat},(y:Int)∈E9 g x→∀j (hj:j < out.length),out[j]=(y:Int)→∃i,∃hi:i < out.length,i < j∧out[i]=(x:Int):=by
    intro x y hxy j hj e
    have:=h.kids j hj x (by rw [e];exact hxy)
    obtain ⟨i,hi,he⟩:=List.getElem_of_mem this
    rw [J24] at hi
    rw [List.getElem_take] at he
    exact ⟨i,by omega,by omega,he⟩
   intro x y hxy
   induction hxy with
   | one h=>exact one h
   | more _ h2 ih =>
    intro j hj e
    obtain ⟨i,hi,hlt,e2⟩:=one h2 j hj e
    obtain ⟨i',hi',hlt',e3⟩:=ih i hi e2
    exact ⟨i',hi',by omega,e3⟩
  obtain ⟨j,hj,e⟩:=List.getElem_of_mem hin
  obtain ⟨i,hi,hlt,e2⟩:=key hcc j hj e
  have:=(List.getElem_inj (i:=i) (j:=j) (h₀:=hi) (h₁:=hj) h.nodup).1 (e2.trans e.symm)
  omega
end Go.AL
namespace Go.AL
open Go
def atG (l:List Int) (p:Nat):Int:=l[p]?.getD 0
def bump (l:List Int) (p:Int):List Int:=l.set p.toNat (atG l p.toNat+1)
def W8 (l:List Int) (p:Int):List Int:=l.set p.toNat (atG l p.toNat - 1)
def X4 (ps:List Int) (l:List Int):List Int:=ps.foldl bump l
def O5 (g:Graph) (i:Nat):List Int:=(g.take i).foldl (fun l c=>X4 c.Parents l) (List.replicate g.length 0)
theorem A39 {l:List Int} {i p:Nat} {v:Int} (h:i < l.length):atG (l.set i v) p=if i=p then v else atG l p:=by
 unfold atG
 rw [List.getElem?_set]
 split
 ·rename_i e;subst e;simp [h]
 ·rfl
theorem B51:∀(ps:List Int) (l:List Int),(X4 ps l).length=l.length
 | [],_=>rfl
 | p::r,l=>by show (X4 r (bump l p)).length=_;rw [B51 r];simp [bump]
theorem C24 {n:Int}:∀{ps:List Int} {l:List Int},(∀p∈ps,0≤p∧p < l.length)→ps.Nodup→∀p:Nat,atG (X4 ps l) p=atG l p+(if (p:Int)∈ps then 1 else 0)
 | [],l,_,_,p=>by simp [X4]
 | q::r,l,h,hn,p=>by
  show atG (X4 r (bump l q)) p=_
  have hq:=h q (by simp)
  have hn:=List.nodup_cons.1 hn
  rw [C24 (n:=n) (fun x hx=>by have:=h x (by simp [hx]);simpa [bump] using this) hn.2 p]
  unfold bump
  rw [A39 (by omega)]
  by_cases e:q.toNat=p
  ·have e2:(p:Int)=q:=by omega
   have h2:¬(p:Int)∈r:=by rw [e2];exact hn.1
   rw [if_pos e,if_neg h2,e2,if_pos (by simp),e];omega
  ·have e2:((p:Int)∈q::r)↔(p:Int)∈r:=by
    rw [J44]
    exact ⟨fun h=>h.resolve_left (by omega),.inr⟩
   rw [if_neg e]
   simp only [e2]
theorem y9 (g:Graph):∀i,(O5 g i).length=g.length:=by
 intro i
 unfold O5
 have key:∀(cs:List Commit) (l:List Int),(cs.foldl (fun l c=>X4 c.Parents l) l).length=l.length:=by
  intro cs
  induction cs with
  | nil=>intro l;rfl
  | cons c r ih=>intro l;rw [J42,ih,B51]
 rw [key];simp
theorem B99 {g:Graph} {i:Nat} (hi:i < g.length):O5 g (i+1)=X4 (E9 g i) (O5 g i):=by
 unfold O5
 rw [List.take_add_one,J14 hi,Option.toList_some,J58,V9 hi];rfl
theorem B52 {g:Graph} (hr:related g=true) (p:Nat) (hp:p < g.length):∀i,i≤g.length→atG (O5 g i) p=((List.range i).countP fun c:Nat=>decide ((p:Int)∈E9 g c):Nat)
 | 0,_=>by
  unfold O5 atG
  simp [List.getElem?_replicate,hp]
 | i+1,hi=>by
  have hpr:=J4 hr i
  rw [B99 (by omega),C24 (n:=0) (fun q hq=>by rw [y9];exact hpr.1 q hq) hpr.2,B52 hr p hp i (by omega),J61,List.countP_append]
  by_cases h:(p:Int)∈E9 g i<;>simp [h]
theorem D28 {g:Graph} (hr:related g=true) (p:Nat) (hp:p < g.length):atG (O5 g g.length) p=C59 g [] p:=by
 rw [B52 hr p hp _ (Nat.le_refl _)]
 unfold C59
 simp
def U5 (ch:List Int) (i:Nat):List Int:=((List.range i).filter fun c=>decide (atG ch c=0)).map fun c:Nat=>(c:Int)
theorem F55 (ch:List Int) (i:Nat):U5 ch (i+1)=if atG ch i=0 then U5 ch i++[(i:Int)] else U5 ch i:=by
 unfold U5
 rw [J61,J67,J48]
 by_cases h:atG ch i=0<;>simp [h]
theorem D29 (ch:List Int) (i p:Nat):(p:Int)∈U5 ch i↔p < i∧atG ch p=0:=by
 unfold U5
 rw [List.mem_map]
 constructor
 ·rintro ⟨c,hc,e⟩
  have e:c=p:=Int.ofNat.inj e
  subst e
  rw [List.mem_filter,List.mem_range,decide_eq_true_eq] at hc
  exact hc
 ·rintro ⟨h1,h2⟩
  exact ⟨p,by rw [List.mem_filter,List.mem_range,decide_eq_true_eq];exact ⟨h1,h2⟩,rfl⟩
theorem B53 {ch:List Int} {i:Nat}:∀x∈U5 ch i,0≤x∧x < i:=by
 intro x hx
 unfold U5 at hx
 obtain ⟨c,hc,rfl⟩:=List.mem_map.1 hx
 have:=List.mem_range.1 (List.mem_filter.1 hc).1
 omega
theorem C00 (ch:List Int) (i:Nat):(U5 ch i).Nodup:=by
 unfold U5
 exact (List.nodup_range.filter _).map (fun i:Nat=>(i:Int)) fun _ _ hne e=>hne (Int.ofNat.inj e)
theorem G35 (ch:List Int) (i:Nat):(U5 ch i).length≤i:=X9 (C00 ch i) B53
theorem KInv.start {g:Graph} (hr:related g=true):KInv g 0 0 (O5 g g.length) (U5 (O5 g g.length) g.length) where
 len:=y9 g _
 nodup:=C00 _ _
 rng:=B53
 cnt:=fun p hp=>by
  have:=D28 hr p hp
  unfold atG at this
  rw [this,List.take_zero,List.take_zero];simp
 zero:=fun p hp=>by
  have:=D29 (O5 g g.length) g.length p
  rw [this]
  exact ⟨fun h=>h.2,fun h=>⟨hp,h⟩⟩
 kids:=fun j hj c hc=>by
  have h1:=B53 _ (J18 hj)
  have h2:=(D29 (O5 g g.length) g.length ((U5 (O5 g g.length) g.length)[j]).toNat).1 (by rw [Int.toNat_of_nonneg h1.1];exact J18 hj)
  rw [D28 hr _ h2.1] at h2
  have hlt:c < g.length:=by
   apply Classical.byContradiction
   intro hn;rw [A79 hn] at hc;cases hc
  have:=F02 (g:=g) (ex:=[]) (p:=((U5 (O5 g g.length) g.length)[j]).toNat) (by omega) hlt (by rw [Int.toNat_of_nonneg h1.1];exact hc)
  cases this
theorem KInv.le {g:Graph} {k i:Nat} {ch out:List Int} (h:KInv g k i ch out):out.length≤g.length:=X9 h.nodup h.rng
theorem v7 {α:Type} {l m:List α} {k:Nat} (h:k≤l.length):(l++m).take k=l.take k:=by rw [List.take_append_of_le_length h]
theorem G36 {α:Type} {l m:List α} {k:Nat} {d:α} (h:k < l.length):(l++m).getD k d=l.getD k d:=by
 rw [J20,J20,J28 h]
theorem S0 {α:Type} {l:List α} {i:Nat} {x:α} (h:i < l.length):x∈l.take (i+1)↔x∈l.take i∨x=l[i]:=by
 rw [List.take_add_one,J14 h,Option.toList_some,J38,List.mem_singleton]
theorem X5 {α:Type} {l:List α} (hn:l.Nodup) {i:Nat} (h:i < l.length):l[i]∉l.take i:=by
 intro hm
 obtain ⟨j,hj,e⟩:=List.getElem_of_mem hm
 rw [J24] at hj
 rw [List.getElem_take] at e
 have:=(List.getElem_inj (i:=j) (j:=i) (h₀:=by omega) (h₁:=h) hn).1 e
 omega
theorem KInv.step {g:Graph} (hr:related g=true) {k i:Nat} {ch out:List Int} (h:KInv g k i ch out) (hk:k < out.length) {c p:Nat} (hc:out[k]=(c:Int)) (hi:i < (E9 g c).length) (hp:(E9 g c)[i]=(p:Int)) :
  p < g.length∧1≤atG ch p∧atG ch p≤g.length∧KInv g k (i+1) (W8 ch p) (if atG ch p - 1=0 then out++[(p:Int)] else out):=by
 have hpr:=J4 hr c
 have hpm:(p:Int)∈E9 g c:=by rw [←hp];exact J18 hi
 have hplt:p < g.length:=by have:=hpr.1 p hpm;omega
 have hclt:c < g.length:=by have:=h.rng out[k] (J18 hk);omega
 have hg0:out.getD k 0=(c:Int):=by rw [J20,J14 hk];exact hc
 have hnt:(c:Int)∉out.take k:=by rw [←hc];exact X5 h.nodup hk
 have hnp:(p:Int)∉(E9 g c).take i:=by rw [←hp];exact X5 hpr.2 hi
 have h1:=h.cnt p hplt
 rw [hg0,J16,if_neg hnp] at h1
 have h2:=F01 (g:=g) (ex:=out.take k) (x:=c) (p:=p) hnt hclt
 rw [if_pos hpm] at h2
 have hle:C59 g (out.take k) p≤g.length:=by
  unfold C59
  have:=List.countP_le_length (p:=fun c:Nat=>decide ((c:Int)∉out.take k∧(p:Int)∈E9 g c)) (l:=List.range g.length)
  rwa [J45] at this
 have hat:atG ch p=ch[p]?.getD 0:=rfl
 have hge:1≤atG ch p:=by omega
 have hnout:(p:Int)∉out:=fun hm=>by have:=(h.zero p hplt).1 hm;omega
 have hst:∀q,atG (W8 ch p) q=if p=q then atG ch p - 1 else atG ch q:=fun q=>by
  unfold W8
  rw [J16,A39 (by rw [h.len];exact hplt)]
 refine ⟨hplt,hge,by omega,?_⟩
 have htake:(if atG ch p - 1=0 then out++[(p:Int)] else out).take k=out.take k:=by split<;>first | exact v7 (by omega) | rfl
 have hget:(if atG ch p - 1=0 then out++[(p:Int)] else out).getD k 0=out.getD k 0:=by split<;>first | exact G36 hk | rfl
 refine ⟨by unfold W8;rw [J39];exact h.len,?_,?_,?_,?_,?_⟩
 ·split
  ·exact List.nodup_append.2 ⟨h.nodup,by simp,fun x hx y hy e=>by rw [List.mem_singleton.1 hy] at e;exact hnout (e ▸ hx)⟩
  ·exact h.nodup
 ·intro x hx
  split at hx
  ·rcases List.mem_append.1 hx with hx | hx
   ·exact h.rng x hx
   ·rw [List.mem_singleton.1 hx];omega
  ·exact h.rng x hx
 ·intro q hq
  rw [htake,hget,hg0,J16]
  have e1:=hst q
  have e2:atG (W8 ch p) q=(W8 ch p)[q]?.getD 0:=rfl
  rw [←e2,e1]
  by_cases e:p=q
  ·subst e
   rw [if_pos rfl,if_pos ((S0 hi).2 (.inr hp.symm))];omega
  ·rw [if_neg e]
   have h3:=h.cnt q hq
   rw [hg0,J16] at h3
   have h4:((q:Int)∈(E9 g c).take (i+1))↔(q:Int)∈(E9 g c).take i:=by
    rw [S0 hi,hp]
    exact ⟨fun h=>h.resolve_right (by omega),.inl⟩
   simp only [h4]
   exact h3
 ·intro q hq
  have e1:=hst q
  have e2:atG (W8 ch p) q=(W8 ch p)[q]?.getD 0:=rfl
  rw [←e2,e1]
  by_cases e:p=q
  ·subst e
   rw [if_pos rfl]
   split
   ·rename_i h0;simp [h0]
   ·rename_i h0;exact ⟨fun hm=>absurd hm hnout,fun e=>absurd e h0⟩
  ·rw [if_neg e]
   have h3:=h.zero q hq
   split
   ·rw [J38,List.mem_singleton]
    exact ⟨fun hm=>h3.1 (hm.resolve_right (by omega)),fun e=>.inl (h3.2 e)⟩
   ·exact h3
 ·intro j hj x hx
  split at hj
  ·rename_i h0
   simp only [h0,if_true] at hx ⊢
   by_cases hjl:j < out.length
   ·rw [J63 hjl] at hx
    rw [v7 (by omega)]
    exact h.kids j hjl x hx
   ·have hje:j=out.length:=by rw [J19,List.length_singleton] at hj;omega
    subst hje
    rw [J60 (Nat.le_refl _)] at hx
    simp only [J62,List.getElem_cons_zero] at hx
    have hxl:x < g.length:=by
     apply Classical.byContradiction
     intro hn;rw [A79 hn] at hx;cases hx
    have hz:C59 g (out.take k++[(c:Int)]) p=0:=by omega
    have:=F02 hz hxl hx
    rw [v7 (Nat.le_refl _),J22]
    rcases List.mem_append.1 this with hm | hm
    ·exact List.mem_of_mem_take hm
    ·rw [List.mem_singleton.1 hm,←hc];exact J18 hk
  ·rename_i h0
   simp only [h0,if_false] at hx ⊢
   exact h.kids j hj x hx
theorem KInv.next {g:Graph} {k:Nat} {ch out:List Int} (hk:k < out.length) {c:Nat} (hc:out[k]=(c:Int)) (h:KInv g k (E9 g c).length ch out):KInv g (k+1) 0 ch out where
 len:=h.len
 nodup:=h.nodup
 rng:=h.rng
 cnt:=fun p hp=>by
  have h1:=h.cnt p hp
  have hg0:out.getD k 0=(c:Int):=by rw [J20,J14 hk];exact hc
  have hclt:c < g.length:=by have:=h.rng out[k] (J18 hk);omega
  rw [hg0,J16,J22] at h1
  have h2:=F01 (g:=g) (ex:=out.take k) (x:=c) (p:=p) (by rw [←hc];exact X5 h.nodup hk) hclt
  have e:out.take (k+1)=out.take k++[(c:Int)]:=by rw [List.take_add_one,J14 hk,Option.toList_some,hc]
  rw [e,List.take_zero,if_neg (by simp)]
  split at h1
  ·rename_i hm;rw [if_pos hm] at h2;omega
  ·rename_i hm;rw [if_neg hm] at h2;omega
 zero:=h.zero
 kids:=h.kids
def Z3:List Commit→Int
 | []=>0
 | c::r=>if G1 c.Files≠0 then G1 c.Files else Z3 r
def Z4 (g:Graph):Bool:=decide (g.length≤300)&&!g.any fun c=>decide (c.Parents.length > 32)
def A96 (g:Graph):Bool:=g.any fun c=>decide (c.Date < 0∨c.Date > 2147483647)
def J0 (g:Graph):Int:=if Z4 g=false then 1 else if related g=false then 230 else if cyclic g=true then 231 else if A96 g=true then 3 else Z3 g
theorem C01:∀{g:List Commit},Z3 g=0→∀c∈g,G1 c.Files=0
 | [],_,_,hc=>by cases hc
 | d::r,h,c,hc=>by
  unfold Z3 at h
  split at h
  ·rename_i h1;exact absurd h h1
  ·rename_i h1
   rcases List.mem_cons.1 hc with rfl | hc
   ·simpa using h1
   ·exact C01 h c hc
structure Valid (g:Graph):Prop where
 len:g.length≤300
 pars:∀c∈g,c.Parents.length≤32
 rel:related g=true
 acyc:∀c,¬Reaches g c c
 tree:∀c∈g,G1 c.Files=0
theorem Z5 {g:Graph} (h:J0 g=0):Valid g:=by
 unfold J0 at h
 split at h
 ·cases h
 ·rename_i h1
  split at h
  ·cases h
  ·rename_i h2
   split at h
   ·cases h
   ·rename_i h3
    split at h
    ·cases h
    ·have h1:Z4 g=true:=by simpa using h1
     unfold Z4 at h1
     rw [J15,decide_eq_true_eq] at h1
     have h2:related g=true:=by simpa using h2
     refine ⟨h1.1,fun c hc=>?_,h2,fun c hc=>h3 ((C23 h2).2 ⟨c,hc⟩),fun c hc=>C01 h c hc⟩
     apply Classical.byContradiction
     intro hn
     have:g.any (fun c=>decide (c.Parents.length > 32))=true:=List.any_eq_true.2 ⟨c,hc,by simp;omega⟩
     rw [this] at h1;cases h1.2
end Go.AL
namespace Go.AL
open Go
def B54 (i j:Int):List Span→Int→Int→List Change
 | [],m,n=>if m > i∨n > j then [⟨i,m - i,j,n - j⟩] else []
 | x::r,m,n=>(if x.From > i∨x.To > j then [⟨i,x.From - i,j,x.To - j⟩] else [])++B54 (x.From+1) (x.To+1) r m n
def E21 (p:List Span) (m n:Int):List Change:=B54 0 0 p m n
def U6 (i j:Int) (n:Nat):List Span:=(List.range n).map fun (t:Nat)=>⟨i+(t:Int),j+(t:Int)⟩
theorem E22 (i j:Int) (n:Nat):(U6 i j n).length=n:=by simp [U6]
theorem F56 (i j:Int) (n:Nat):U6 i j (n+1)=⟨i,j⟩::U6 (i+1) (j+1) n:=by
 unfold U6
 rw [List.range_succ_eq_map,J33,J49]
 congr 1
 ·simp
 ·refine List.map_congr_left fun t _=>?_
  simp only [Function.comp,Span.mk.injEq]
  omega
def A80 (i j:Int):List Change→Int→List Span
 | [],m=>U6 i j (m - i).toNat
 | c::r,m=>U6 i j (c.Old - i).toNat++A80 (max i c.Old+c.OldLen) (j+(c.Old - i).toNat+c.NewLen) r m
def I32 (l:List Change) (m:Int):List Span:=A80 0 0 l m
def dist:List Int→List Int→Nat
 | [],b=>b.length
 | x::a,[]=>(x::a).length
 | x::a,y::b=>if x=y then dist a b else 1+min (dist a (y::b)) (dist (x::a) b)
theorem C60 (a:List Int):dist a []=a.length:=by cases a<;>simp [dist]
theorem F57 (a b:List Int):dist a b≤a.length+b.length:=by
 induction a generalizing b with
 | nil=>simp [dist]
 | cons x a iha =>
  induction b with
  | nil=>simp [dist]
  | cons y b ihb =>
   unfold dist
   split
   ·have:=iha b;simp;omega
   ·have:=iha (y::b);have:=ihb;simp only [J17] at *;omega
def M1 (i j:Int):List Int→List Int→List Span
 | [],_=>[]
 | _::_,[]=>[]
 | x::a,y::b=>if x=y then ⟨i,j⟩::M1 (i+1) (j+1) a b else if dist a (y::b)+1=dist (x::a) (y::b) then M1 (i+1) j a (y::b) else M1 i (j+1) (x::a) b
def H22 (a b:List Int):List Change:=E21 (M1 0 0 a b) a.length b.length
theorem I33 (a b:List Int) (i j:Nat) (hi:i < a.length) (hj:j < b.length) :
  dist (a.drop i) (b.drop j)=if a[i]=b[j] then dist (a.drop (i+1)) (b.drop (j+1)) else 1+min (dist (a.drop (i+1)) (b.drop j)) (dist (a.drop i) (b.drop (j+1))):=by
 rw [J23 hi,J23 hj]
 conv=>lhs;rw [dist]
theorem D30 (a b:List Int) (i j:Nat) (hi:i < a.length) (hj:j < b.length) (p q:Int) :
  M1 p q (a.drop i) (b.drop j)=if a[i]=b[j] then ⟨p,q⟩::M1 (p+1) (q+1) (a.drop (i+1)) (b.drop (j+1)) else
   if dist (a.drop (i+1)) (b.drop j)+1=dist (a.drop i) (b.drop j) then M1 (p+1) q (a.drop (i+1)) (b.drop j) else M1 p (q+1) (a.drop i) (b.drop (j+1)):=by
 rw [J23 hi,J23 hj]
 conv=>lhs;rw [M1]
theorem Y0 (p q:Int) (b:List Int):M1 p q [] b=[]:=by simp [M1]
theorem r7 (p q:Int) (a:List Int):M1 p q a []=[]:=by cases a<;>simp [M1]
theorem E64 (p q:Int) (a b:List Int):(M1 p q a b).length≤a.length:=by
 induction a generalizing p q b with
 | nil=>simp [M1]
 | cons x a iha =>
  induction b generalizing p q with
  | nil=>simp [M1]
  | cons y b ihb =>
   unfold M1
   split
   ·have:=iha (p+1) (q+1) b;simp;omega
   ·split
    ·have:=iha (p+1) q (y::b);simp;omega
    ·exact ihb p (q+1)
universe u
theorem F03 {α:Type u} (n k:Nat) (f g:Nat→α) (v:α) (hv:k < n→g k=v) (h:∀q,q < n→q≠k→g q=f q):((List.range n).map f).set k v=(List.range n).map g:=by
 refine List.ext_getElem (by simp) fun q h1 h2=>?_
 have hq:q < n:=by simpa using h2
 rw [List.getElem_set]
 by_cases he:k=q
 ·subst he;simp [hv hq]
 ·rw [if_neg he];simp [h q hq (Ne.symm he)]
theorem I34 {α:Type u} (n k:Nat) (f:Nat→α) (h:k < n):((List.range n).map f)[k]?=some (f k):=by simp [h]
theorem A97 (i j:Int):U6 i j 0=[]:=rfl
theorem F58 (i j:Int) (n:Nat):U6 i j (n+1)=U6 i j n++[⟨i+n,j+n⟩]:=by simp [U6,J61]
def Asc (m n:Int):Int→Int→List Span→Prop
 | i,j,[]=>i≤m∧j≤n
 | i,j,x::r=>i≤x.From∧j≤x.To∧Asc m n (x.From+1) (x.To+1) r
theorem Asc.le {m n:Int}:∀{p:List Span} {i j:Int},Asc m n i j p→i≤m∧j≤n
 | [],i,j,h=>h
 | x::r,i,j,h=>by have:=Asc.le h.2.2;have:=h.1;have:=h.2.1;omega
theorem Asc.weaken {m n:Int} {p:List Span} {i j i' j':Int} (h:Asc m n i j p) (hi:i'≤i) (hj:j'≤j):Asc m n i' j' p:=by
 cases p with
 | nil=>exact ⟨by have:=h.1;omega,by have:=h.2;omega⟩
 | cons x r=>exact ⟨by have:=h.1;omega,by have:=h.2.1;omega,h.2.2⟩
theorem H23 (a b:List Int):∀(p q:Int),Asc (p+a.length) (q+b.length) p q (M1 p q a b):=by
 induction a generalizing b with
 | nil=>intro p q;rw [Y0];simp only [Asc,J21];omega
 | cons x a iha =>
  induction b with
  | nil=>intro p q;rw [r7];simp only [Asc,J21];omega
  | cons y b ihb =>
   intro p q
   rw [M1]
   split
   ·have:=iha b (p+1) (q+1)
    refine ⟨Int.le_refl _,Int.le_refl _,?_⟩
    simp only [J17]
    rwa [show p+((a.length+1:Nat):Int)=p+1+a.length by omega,show q+((b.length+1:Nat):Int)=q+1+b.length by omega]
   ·split
    ·have:=(iha (y::b) (p+1) q).weaken (i':=p) (j':=q) (by omega) (Int.le_refl _)
     rwa [show p+((x::a).length:Int)=p+1+a.length by simp;omega]
    ·have:=(ihb p (q+1)).weaken (i':=p) (j':=q) (Int.le_refl _) (by omega)
     rwa [show q+((y::b).length:Int)=q+1+b.length by simp;omega]
theorem Asc.made {m n:Int}:∀{p:List Span} {i j:Int},Asc m n i j p→∀c∈B54 i j p m n,i≤c.Old∧j≤c.New∧0≤c.OldLen∧0≤c.NewLen∧c.Old+c.OldLen≤m∧c.New+c.NewLen≤n
 | [],i,j,h,c,hc=>by
  unfold B54 at hc
  split at hc
  ·simp only [List.mem_singleton] at hc;subst hc
   have:=h.1;have:=h.2
   simp only;omega
  ·cases hc
 | x::r,i,j,h,c,hc=>by
  unfold B54 at hc
  obtain ⟨h1,h2,h3⟩:=h
  have h4:=h3.le
  rcases List.mem_append.1 hc with hc | hc
  ·split at hc
   ·simp only [List.mem_singleton] at hc;subst hc
    simp only;omega
   ·cases hc
  ·have:=Asc.made h3 c hc;omega
end Go.AL
namespace Go.AL
open Go
def bitAt (m:Int) (c:Nat):Bool:=m / 2 ^ c % 2 == 1
def visB (r:Row) (c:Int):Bool:=if c = -1 then !r.Lost else if c < -1∨32≤c then false else bitAt r.Marks c.toNat == r.Lost
def colOf (rows:List Row) (c:Int):List Str:=(rows.filter (visB · c)).map (·.Text)
def markOk (n:Nat) (r:Row):Bool:=r.Marks / 2 ^ n == 0&&!(r.Lost&&r.Marks == 0)
end Go.AL
namespace Go.AL
open Go
abbrev Loom:=List Int × (Nat→List (List Int))
structure LoomOk (Q:Int→Prop) (B lines n:Nat) (s:Loom):Prop where
 len:s.1.length=lines
 marks:∀m∈s.1,0≤m∧m < 4294967296
 gaps:∀k,(s.2 k).length=n∧∀x∈s.2 k,x.length≤B∧∀v∈x,Q v
end Go.AL
namespace Go.AL
open Go
theorem C61 (s:Str):Lib.hasSuffix s [10]=ended s:=by
 unfold Lib.hasSuffix ended
 rw [Bool.eq_iff_iff,List.isSuffixOf_iff_suffix,beq_iff_eq]
 constructor
 ·rintro ⟨t,rfl⟩;simp
 ·intro h
  obtain ⟨hne,h2⟩:=List.getLast?_eq_some_iff.1 h
  exact ⟨hne,h2.symm⟩
def F59 (s:Str):Str:=if ended s then s.dropLast else s
theorem E65 (s:Str):Lib.trimSuffix s [10]=F59 s:=by
 unfold Lib.trimSuffix F59
 rw [C61,List.dropLast_eq_take];rfl
theorem i8 (c:UInt8):∀l:Str,(c∉l∧Lib.indexByte l c = -1)∨∃a b,l=a++c::b∧c∉a∧Lib.indexByte l c=a.length
 | []=>.inl ⟨by simp,rfl⟩
 | x::l=>by
  unfold Lib.indexByte
  by_cases hx:x=c
  ·exact .inr ⟨[],l,by rw [hx];rfl,by simp,by simp [hx]⟩
  ·rcases i8 c l with ⟨h1,h2⟩ | ⟨a,b,h1,h2,h3⟩
   ·exact .inl ⟨by simp [h1,Ne.symm hx],by simp [hx,h2]⟩
   ·refine .inr ⟨x::a,b,by rw [h1];rfl,by simp [h2,Ne.symm hx],?_⟩
    have h4:¬((a.length:Int) = -1):=by omega
    simp [hx,h3,h4]
theorem E66 (c:UInt8) (l:Str):0≤Lib.indexByte l c↔c∈l:=by
 rcases i8 c l with ⟨h1,h2⟩ | ⟨a,b,h1,h2,h3⟩
 ·rw [h2];simp [h1]
 ·rw [h3,h1];simp
def and32 (a b:Int):Int:=IntKind.u32.wrap ((BitVec.ofInt IntKind.u32.bits a &&& BitVec.ofInt IntKind.u32.bits b).toNat:Int)
def not32 (a:Int):Int:=IntKind.u32.wrap ((BitVec.ofInt IntKind.u32.bits IntKind.u32.max ^^^ BitVec.ofInt IntKind.u32.bits a).toNat:Int)
def inOf (r:Row):Int:=if r.Lost then r.Marks else not32 r.Marks
def addOk (res:Bool) (par:Int) (r:Row):Bool:=decide (and32 par (inOf r)=0)&&(r.Lost||!res)
structure EndsAt (res:Bool) (par:Int) (bad:Int→Bool):Prop where
 res:res=bad (-1)
 par:∃p:Nat,p < 4294967296∧par=p∧∀c:Nat,c < 32→p.testBit c=bad c
end Go.AL
namespace Go.AL
open Go
def plainB (c:UInt8):Bool:=decide (33≤c.toNat∧c.toNat≤126∧c.toNat≠34∧c.toNat≠92)
def digs8:Str:=[48,49,50,51,52,53,54,55]
def octOf (c:UInt8):Str:=(digs8.drop (c.toNat / 64)).take 1++(digs8.drop (c.toNat / 8 % 8)).take 1++(digs8.drop (c.toNat % 8)).take 1
def escOf (c:UInt8):Str:=if c.toNat=34∨c.toNat=92 then [92,c] else if c.toNat=10 then [92,110] else if c.toNat=9 then [92,116] else if c.toNat < 32∨126 < c.toNat then 92::octOf c else [c]
def H65 (s:Str):Str:=if s≠[]∧s.all plainB=true then s else 34::((s.map escOf).flatten++[34])
def H66 (n:Int):Str:=if n < 0∨2147483647 < n then [] else Lib.itoa n
def H67 (a n:Int):Str:=if a < 0∨n < 0∨2147483647 < a∨2147483647 - a < n then [] else if n=0 then H66 a++[44,48] else if n=1 then H66 (a+1) else H66 (a+1)++[44]++H66 n
end Go.AL
namespace Go.AL
open Go
def O6 (cur:Str):Str→List Str
 | []=>[cur]
 | c::r=>if c=10 then (cur++[c])::O6 [] r else O6 (cur++[c]) r
def R5 (b:Str):List Str:=O6 [] b
theorem E67 (a cur:Str) (h:(10:UInt8)∉a):O6 cur a=[cur++a]:=by
 induction a generalizing cur with
 | nil=>simp [O6]
 | cons c r ih =>
  simp only [J44,not_or] at h
  rw [O6,if_neg (fun e=>h.1 e.symm),ih _ h.2];simp
theorem F60 (a b cur:Str) (h:(10:UInt8)∉a):O6 cur (a++10::b)=(cur++a++[10])::O6 [] b:=by
 induction a generalizing cur with
 | nil=>simp [O6]
 | cons c r ih =>
  simp only [J44,not_or] at h
  rw [J36,O6,if_neg (fun e=>h.1 e.symm),ih _ h.2];simp
theorem Z6 (s cur:Str):(O6 cur s).length=s.count 10+1:=by
 induction s generalizing cur with
 | nil=>rfl
 | cons c r ih =>
  by_cases hc:c=10
  ·subst hc;rw [O6,if_pos rfl,J17,ih,List.count_cons_self]
  ·rw [O6,if_neg hc,ih,List.count_cons_of_ne hc]
theorem G37 (s cur:Str):K1 cur s=if (O6 cur s).getLastD []=[] then (O6 cur s).dropLast else O6 cur s:=by
 induction s generalizing cur with
 | nil=>by_cases h:cur=[]<;>simp [K1,O6,h]
 | cons c r ih =>
  rw [K1,O6]
  by_cases hc:c=10
  ·rw [if_pos hc,if_pos hc,ih]
   have hn:O6 [] r≠[]:=fun e=>by have:=Z6 r [];rw [e] at this;simp at this
   obtain ⟨x,y,hxy⟩:=List.exists_cons_of_ne_nil hn
   rw [hxy]
   have e1:((cur++[c])::x::y).getLastD []=(x::y).getLastD []:=by cases y<;>simp [List.getLastD]
   rw [e1]
   split
   ·rfl
   ·rfl
  ·rw [if_neg hc,if_neg hc,ih]
theorem E23 (s cur:Str):(K1 cur s).length=s.count 10+if s=[] then (if cur=[] then 0 else 1) else if ended s=true then 0 else 1:=by
 induction s generalizing cur with
 | nil=>by_cases h:cur=[]<;>simp [K1,h]
 | cons c r ih =>
  have he:ended (c::r)=if r=[] then c == 10 else ended r:=by
   cases r with
   | nil=>simp [ended]
   | cons d t=>simp [ended,List.getLast?_cons_cons]
  rw [K1,if_neg (List.cons_ne_nil _ _),he]
  by_cases hc:c=10
  ·subst hc
   rw [if_pos rfl,J17,ih,List.count_cons_self]
   by_cases hr:r=[]<;>simp [hr]
   omega
  ·rw [if_neg hc,ih,List.count_cons_of_ne hc]
   by_cases hr:r=[]<;>simp [hr,hc]
theorem E68 (s:Str):(K7 s).length=s.count 10+if s≠[]∧ended s=false then 1 else 0:=by
 unfold K7
 rw [E23]
 by_cases hs:s=[]<;>simp [hs]
 cases ended s<;>simp
theorem H24 {P:List Str} {i:Nat} {r a b:Str} (h:P.drop i=R5 r) (hr:r=a++10::b) (ha:(10:UInt8)∉a):P[i]?=some (a++[10])∧P.drop (i+1)=R5 b:=by
 have e:R5 r=(a++[10])::R5 b:=by rw [hr];unfold R5;rw [F60 _ _ _ ha];rfl
 rw [e] at h
 refine ⟨by rw [←List.head?_drop,h];rfl,?_⟩
 rw [←List.tail_drop,h];rfl
theorem F04 {α:Type} (P:List α) (z x:α) (i:Nat) (h:P[i]?=some x):(P.take i++List.replicate (P.length - i) z).set i x=P.take (i+1)++List.replicate (P.length - (i+1)) z:=by
 obtain ⟨hi,hx⟩:=List.getElem?_eq_some_iff.1 h
 have hl:(P.take i).length=i:=by rw [J24];omega
 rw [List.set_append_right _ _ (by omega),hl,J62,show P.length - i=(P.length - (i+1))+1 by omega,List.replicate_succ,List.set_cons_zero,J54 hi,hx,J26]
 rfl
def B76 (b:Str):List Str × Int:=if b.length > 1048576∨(K7 b).length > 4096 then ([],1) else (K7 b,0)
end Go.AL
namespace Go.AL
open Go
def O0 (n:Int):Prop:=0≤n∧n≤4096
instance (n:Int):Decidable (O0 n):=by unfold O0;exact inferInstance
def badC (k:Nat) (i j:Int) (c:Change):Prop:=((((((¬O0 c.Old∨¬O0 c.OldLen)∨¬O0 c.New)∨¬O0 c.NewLen)∨c.OldLen+c.NewLen=0)∨c.Old - i≠c.New - j)∨c.Old < i)∨(0 < (k:Int)∧c.Old=i)
instance (k:Nat) (i j:Int) (c:Change):Decidable (badC k i j c):=by unfold badC;exact inferInstance
def Q5 (k:Nat) (i j:Int):List Change→Int→Int→Bool
 | [],m,n=>decide (¬(m - i≠n - j∨m < i))
 | c::r,m,n=>decide (¬badC k i j c)&&Q5 (k+1) (c.Old+c.OldLen) (c.New+c.NewLen) r m n
def check8 (l:List Change) (m n:Int):Int:=if ¬O0 m∨¬O0 n then 80 else if Q5 0 0 0 l m n=true then 0 else 80
def ScOk (i j:Int):List Change→Int→Int→Prop
 | [],m,n=>i≤m∧j≤n
 | c::r,m,n=>O0 c.Old∧O0 c.OldLen∧O0 c.New∧O0 c.NewLen∧i≤c.Old∧j≤c.New∧ScOk (c.Old+c.OldLen) (c.New+c.NewLen) r m n
theorem B55:∀(l:List Change) (k:Nat) (i j m n:Int),Q5 k i j l m n=true→ScOk i j l m n
 | [],k,i,j,m,n,h=>by simp only [Q5,decide_eq_true_eq] at h;simp only [ScOk];omega
 | c::r,k,i,j,m,n,h=>by
  simp only [Q5,J15,decide_eq_true_eq] at h
  obtain ⟨h1,h2⟩:=h
  unfold badC at h1
  refine ⟨?_,?_,?_,?_,?_,?_,B55 r _ _ _ m n h2⟩
  all_goals (by_cases a1:O0 c.Old<;>by_cases a2:O0 c.OldLen<;>by_cases a3:O0 c.New<;>by_cases a4:O0 c.NewLen<;>simp [a1,a2,a3,a4] at h1 ⊢<;>omega)
def cAt (l:List Change) (k:Nat):Change:=l.getD k ⟨0,0,0,0⟩
theorem ScOk.end_le:∀{l:List Change} {i j m n:Int},ScOk i j l m n→i≤m∧j≤n
 | [],_,_,_,_,h=>h
 | c::r,i,j,m,n,⟨h1,h2,h3,h4,h5,h6,h7⟩=>by have:=h7.end_le;unfold O0 at *;omega
theorem ScOk.get:∀{l:List Change} {i j m n:Int} (k:Nat),ScOk i j l m n→k < l.length→O0 (cAt l k).Old∧O0 (cAt l k).OldLen∧O0 (cAt l k).New∧O0 (cAt l k).NewLen∧(cAt l k).Old+(cAt l k).OldLen≤m∧(cAt l k).New+(cAt l k).NewLen≤n
 | c::r,i,j,m,n,0,⟨h1,h2,h3,h4,h5,h6,h7⟩,_=>by have:=h7.end_le;exact ⟨h1,h2,h3,h4,this.1,this.2⟩
 | c::r,i,j,m,n,k+1,⟨h1,h2,h3,h4,h5,h6,h7⟩,hk=>by
  have:=h7.get k (by simpa using hk)
  simpa [cAt] using this
theorem ScOk.next:∀{l:List Change} {i j m n:Int} (k:Nat),ScOk i j l m n→k+1 < l.length→(cAt l k).Old+(cAt l k).OldLen≤(cAt l (k+1)).Old
 | [c],_,_,_,_,_,_,hk=>by simp at hk
 | c::c2::r,i,j,m,n,0,⟨_,_,_,_,_,_,h7⟩,_=>by simpa [cAt] using h7.2.2.2.2.1
 | c::c2::r,i,j,m,n,k+1,⟨_,_,_,_,_,_,h7⟩,hk=>by
  have:=h7.next k (by simpa using hk)
  simpa [cAt] using this
theorem ScOk.mono {l:List Change} {m n:Int} (h:ScOk 0 0 l m n):∀(a b:Nat),a≤b→b < l.length→(cAt l a).Old≤(cAt l b).Old∧(cAt l a).Old+(cAt l a).OldLen≤(cAt l b).Old+(cAt l b).OldLen
 | a,0,h1,h2=>by rw [show a=0 by omega];omega
 | a,b+1,h1,h2=>by
  by_cases hab:a=b+1
  ·subst hab;omega
  ·have h3:=h.mono a b (by omega) (by omega)
   have h4:=h.next b h2
   have h5:=h.get b (by omega)
   have h6:=h.get (b+1) h2
   unfold O0 at *;omega
def F61 (a b:Int):Int:=if b < a then b else a
def opens (l:List Change) (ctx:Int) (k:Nat):Prop:=k=0∨2*ctx < (cAt l k).Old - (cAt l (k - 1)).Old - (cAt l (k - 1)).OldLen
instance (l:List Change) (ctx:Int) (k:Nat):Decidable (opens l ctx k):=by unfold opens;exact inferInstance
def H68:Hunk:=⟨0,0,⟨0,0⟩,⟨0,0⟩⟩
def A81 (l:List Change) (ctx:Int) (k:Nat):Hunk:=⟨k,0,⟨(cAt l k).Old - F61 ctx (cAt l k).Old,0⟩,⟨(cAt l k).New - F61 ctx (cAt l k).Old,0⟩⟩
def C62 (l:List Change) (m ctx:Int) (k:Nat) (h:Hunk):Hunk :=
 let c:=cAt l k
 let a:=F61 ctx (m - (c.Old+c.OldLen))
 ⟨h.First,k+1,⟨h.Old.From,c.Old+c.OldLen+a⟩,⟨h.New.From,c.New+c.NewLen+a⟩⟩
def C97 (l:List Change) (ctx:Int) (k:Nat) (out:List Hunk):List Hunk:=if opens l ctx k then out++[A81 l ctx k] else out
def Y8 (l:List Change) (m ctx:Int):Nat→List Hunk
 | 0=>[]
 | k+1=>let out:=C97 l ctx k (Y8 l m ctx k);out.set (out.length - 1) (C62 l m ctx k (out.getD (out.length - 1) H68))
theorem D31 (l:List Change) (m ctx:Int):∀k,(Y8 l m ctx k).length≤k∧(0 < k→0 < (Y8 l m ctx k).length)
 | 0=>by simp [Y8]
 | k+1=>by
  have h:=D31 l m ctx k
  simp only [Y8,J39,C97]
  split
  ·simp only [J19,J17,J21];omega
  ·rename_i ho
   have:k≠0:=fun e=>ho (.inl e)
   omega
end Go.AL
namespace Go.AL
open Go
def nameOk (s:Str):Bool:=decide (1≤s.length∧s.length≤200)
def H4 (ls:List PatchLine) (k:UInt8):List Str:=(ls.filter (fun x=>decide (x.Kind≠k))).map (·.Text)
def badLn (x:PatchLine):Prop:=((x.Kind≠32∧x.Kind≠45)∧x.Kind≠43)∨j5 x.Text=false
instance (x:PatchLine):Decidable (badLn x):=by unfold badLn;exact inferInstance
def C25 (x:PatchLine):Bool:=decide (¬badLn x)
def A60 (ls:List PatchLine):Bool:=ls.any (fun x=>decide (x.Kind≠32))
def C63 (some:Bool) (i j:Int) (h:PatchHunk):Prop:=((((some=false∨h.Old < i)∨h.New < j)∨4096 < h.Old)∨4096 < h.New)∨h.Old - i≠h.New - j
instance (s:Bool) (i j:Int) (h:PatchHunk):Decidable (C63 s i j h):=by unfold C63;exact inferInstance
def B83 (h:PatchHunk):Int:=(H4 h.Lines 43).length
def B84 (h:PatchHunk):Int:=(H4 h.Lines 45).length
def C98 (i j:Int):List PatchHunk→Bool
 | []=>true
 | h::r=>h.Lines.all C25&&(decide (¬C63 (A60 h.Lines) i j h)&&(decide (¬(4096 < h.Old+B83 h∨4096 < h.New+B84 h))&&C98 (h.Old+B83 h) (h.New+B84 h) r))
def N5 (hs:List PatchHunk) (k:UInt8):List Str:=(hs.map (fun h=>H4 h.Lines k)).flatten
def v8:List Str→Bool
 | []=>true
 | x::r=>(r.isEmpty||ended x)&&v8 r
def H25 (hs:List PatchHunk) (k:UInt8):Bool:=v8 (N5 hs k)
def C99 (hs:List PatchHunk):Bool:=C98 0 0 hs&&(H25 hs 43&&H25 hs 45)
def markS:Str:=[10,92,32,78,111,32,110,101,119,108,105,110,101,32,97,116,32,101,110,100,32,111,102,32,102,105,108,101,10]
def linePs (x:PatchLine):List Str:=if ended x.Text then [[x.Kind]++x.Text] else [[x.Kind]++x.Text,markS]
def headW (h:PatchHunk):Str:=[64,64,32,45]++H67 h.Old (B83 h)++[32,43]++H67 h.New (B84 h)++[32,64,64,10]
def hunkPs (h:PatchHunk):List Str:=headW h::(h.Lines.map linePs).flatten
def namePs (p:Patch):List Str:=[[45,45,45,32]++H65 p.OldName++[10],[43,43,43,32]++H65 p.NewName++[10]]
def writePs (p:Patch):List Str:=namePs p++(p.Hunks.map hunkPs).flatten
def H69 (p:Patch):Str:=(writePs p).flatten
def C64 (p:Patch):Int:=if nameOk p.OldName=false∨nameOk p.NewName=false then 120 else if C99 p.Hunks=false then 121 else if 16777216 < (H69 p).length then 1 else 0
def szL (x:PatchLine):Nat:=x.Text.length+64
def szH (h:PatchHunk):Nat:=64+(h.Lines.map szL).sum
def szP (hs:List PatchHunk):Nat:=(hs.map szH).sum
structure PFit (p:Patch):Prop where
 old:p.OldName.length≤4194304
 new:p.NewName.length≤4194304
 hunks:szP p.Hunks≤268435456
theorem szL_len (ls:List PatchLine):64*ls.length≤(ls.map szL).sum:=by
 induction ls with
 | nil=>simp
 | cons x r ih=>simp only [J33,List.sum_cons,J17,szL];omega
end Go.AL
namespace Go.AL
open Go
def A40 (k:UInt8) (ts:List Str):List PatchLine:=ts.map fun t=>⟨k,t⟩
def sub (x:List Str) (a b:Int):List Str:=(x.drop a.toNat).take (b.toNat - a.toNat)
def B20 (c:Change):Int:=c.Old+c.OldLen
def A41 (l:List Change) (i0:Int) (a t:Nat):Int:=if t=0 then i0 else B20 (cAt l (a+t - 1))
theorem H26 (l:List Change) (i0:Int) (a t:Nat):A41 l i0 a (t+1)=B20 (cAt l (a+t)):=by
 unfold A41;rw [if_neg (by omega)];congr 2
def x5 (l:List Change) (x y:List Str) (i0:Int) (a:Nat):Nat→List PatchLine
 | 0=>[]
 | t+1=>x5 l x y i0 a t++A40 32 (sub x (A41 l i0 a t) (cAt l (a+t)).Old)++A40 45 (sub x (cAt l (a+t)).Old (B20 (cAt l (a+t))))++A40 43 (sub y (cAt l (a+t)).New ((cAt l (a+t)).New+(cAt l (a+t)).NewLen))
def j1 (l:List Change) (x y:List Str) (h:Hunk):PatchHunk :=
 ⟨h.Old.From,h.New.From,x5 l x y h.Old.From h.First.toNat (h.Last.toNat - h.First.toNat)++A40 32 (sub x (A41 l h.Old.From h.First.toNat (h.Last.toNat - h.First.toNat)) h.Old.To)⟩
end Go.AL
namespace Go.AL
open Go
end Go.AL
namespace Go.AL
open Go
def G38 (i j:Int) (h:PatchHunk):Prop:=((((h.Old < 0∨h.New < 0)∨4096 < h.Old)∨4096 < h.New)∨h.Old < i)∨h.Old - i≠h.New - j
instance (i j:Int) (h:PatchHunk):Decidable (G38 i j h):=by unfold G38;exact inferInstance
end Go.AL
namespace Go.AL
open Go
end Go.AL
namespace Go.AL
open Go
theorem D53 {x:List Str} {a b:Int} {s:Str} (h:s∈sub x a b):s∈x:=by
 unfold sub at h
 exact List.mem_of_mem_drop (List.mem_of_mem_take h)
end Go.AL
namespace Go.AL
open Go
def F62 (c:Change):Int:=c.New+c.NewLen
def eoI (i:Int) (l:List Change) (k:Nat):Int:=if k=0 then i else B20 (cAt l (k - 1))
def enI (j:Int) (l:List Change) (k:Nat):Int:=if k=0 then j else F62 (cAt l (k - 1))
theorem w7 (i:Int) (c:Change) (r:List Change) (k:Nat):eoI i (c::r) (k+1)=eoI (B20 c) r k:=by
 cases k<;>rfl
theorem w8 (j:Int) (c:Change) (r:List Change) (k:Nat):enI j (c::r) (k+1)=enI (F62 c) r k:=by
 cases k<;>rfl
theorem B56 (i:Int) (l:List Change) (k:Nat):eoI i l (k+1)=B20 (cAt l k):=rfl
theorem B57 (j:Int) (l:List Change) (k:Nat):enI j l (k+1)=F62 (cAt l k):=rfl
theorem C65 (c:Change) (r:List Change) (k:Nat):cAt (c::r) (k+1)=cAt r k:=rfl
def D00 (x y:List Str) (i j:Int):List Change→Prop
 | []=>sub x i x.length=sub y j y.length
 | c::r=>sub x i c.Old=sub y j c.New∧D00 x y (B20 c) (F62 c) r
theorem A18 (m n:Int):∀(l:List Change) (k0:Nat) (i j:Int),Q5 k0 i j l m n=true→∀k,k < l.length →
  O0 (cAt l k).Old∧O0 (cAt l k).OldLen∧O0 (cAt l k).New∧O0 (cAt l k).NewLen∧(cAt l k).OldLen+(cAt l k).NewLen≠0∧(cAt l k).Old - eoI i l k=(cAt l k).New - enI j l k∧eoI i l k≤(cAt l k).Old∧(0 < k0+k→eoI i l k < (cAt l k).Old)
 | [],_,_,_,_,k,hk=>by simp at hk
 | c :: r,k0,i,j,h,k,hk=>by
  simp only [Q5,J15,decide_eq_true_eq] at h
  obtain ⟨h1,h2⟩:=h
  cases k with
  | zero =>
   unfold badC at h1
   show O0 c.Old∧O0 c.OldLen∧O0 c.New∧O0 c.NewLen∧c.OldLen+c.NewLen≠0∧c.Old - i=c.New - j∧i≤c.Old∧(0 < k0+0→i < c.Old)
   have d1:O0 c.Old:=by by_cases q:O0 c.Old;exact q;exact absurd (.inl (.inl (.inl (.inl (.inl (.inl (.inl q))))))) h1
   have d2:O0 c.OldLen:=by by_cases q:O0 c.OldLen;exact q;exact absurd (.inl (.inl (.inl (.inl (.inl (.inl (.inr q))))))) h1
   have d3:O0 c.New:=by by_cases q:O0 c.New;exact q;exact absurd (.inl (.inl (.inl (.inl (.inl (.inr q)))))) h1
   have d4:O0 c.NewLen:=by by_cases q:O0 c.NewLen;exact q;exact absurd (.inl (.inl (.inl (.inl (.inr q))))) h1
   refine ⟨d1,d2,d3,d4,fun q=>h1 (.inl (.inl (.inl (.inr q)))),?_,?_,fun h0=>?_⟩
   ·by_cases q:c.Old - i=c.New - j
    ·exact q
    ·exact absurd (.inl (.inl (.inr q))) h1
   ·by_cases q:c.Old < i
    ·exact absurd (.inl (.inr q)) h1
    ·omega
   ·by_cases q:c.Old < i
    ·exact absurd (.inl (.inr q)) h1
    ·by_cases q2:c.Old=i
     ·exact absurd (.inr ⟨by omega,q2⟩) h1
     ·omega
  | succ k =>
   have:=A18 m n r (k0+1) _ _ h2 k (by simpa using hk)
   rw [C65,w7,w8]
   obtain ⟨e1,e2,e3,e4,e5,e6,e7,e8⟩:=this
   exact ⟨e1,e2,e3,e4,e5,e6,e7,fun h0=>e8 (by omega)⟩
theorem H27 (m n:Int):∀(l:List Change) (k0:Nat) (i j:Int),Q5 k0 i j l m n=true→m - eoI i l l.length=n - enI j l l.length∧eoI i l l.length≤m
 | [],_,i,j,h=>by
  simp only [Q5,decide_eq_true_eq] at h
  show m - i=n - j∧i≤m
  omega
 | c::r,k0,i,j,h=>by
  simp only [Q5,J15,decide_eq_true_eq] at h
  rw [J17,w7,w8]
  exact H27 m n r _ _ _ h.2
theorem F63 (x y:List Str):∀(l:List Change) (i j:Int),D00 x y i j l→∀k,k < l.length→sub x (eoI i l k) (cAt l k).Old=sub y (enI j l k) (cAt l k).New
 | [],_,_,_,k,hk=>by simp at hk
 | c::r,i,j,h,k,hk=>by
  cases k with
  | zero=>exact h.1
  | succ k=>rw [w7,w8,C65];exact F63 x y r _ _ h.2 k (by simpa using hk)
theorem H28 (x y:List Str):∀(l:List Change) (i j:Int),D00 x y i j l→sub x (eoI i l l.length) x.length=sub y (enI j l l.length) y.length
 | [],_,_,h=>h
 | c::r,i,j,h=>by rw [J17,w7,w8];exact H28 x y r _ _ h.2
def mkH (l:List Change) (m ctx:Int) (a b:Nat):Hunk:=C62 l m ctx (b - 1) (A81 l ctx a)
def GrOk (l:List Change) (m ctx:Int):Nat→List Hunk→Nat→Prop
 | a,[],k=>a=k
 | a,h::r,k=>∃b,a < b∧opens l ctx a∧h=mkH l m ctx a b∧GrOk l m ctx b r k
theorem GrOk.le {l:List Change} {m ctx:Int}:∀{hs:List Hunk} {a k:Nat},GrOk l m ctx a hs k→a≤k
 | [],a,k,h=>Nat.le_of_eq h
 | _::_,a,k,⟨b,h1,_,_,h2⟩=>by have:=GrOk.le h2;omega
theorem GrOk.snoc {l:List Change} {m ctx:Int} {k:Nat} (ho:opens l ctx k):∀{hs:List Hunk} {a:Nat},GrOk l m ctx a hs k→GrOk l m ctx a (hs++[mkH l m ctx k (k+1)]) (k+1)
 | [],a,h=>by
  obtain rfl:a=k:=h
  exact ⟨a+1,by omega,ho,rfl,rfl⟩
 | _::_,a,⟨b,h1,h2,h3,h4⟩=>⟨b,h1,h2,h3,GrOk.snoc ho h4⟩
theorem GrOk.last {l:List Change} {m ctx:Int} {k:Nat}:∀{hs:List Hunk} {a:Nat},GrOk l m ctx a hs k→hs≠[]→GrOk l m ctx a (hs.set (hs.length - 1) (C62 l m ctx k (hs.getD (hs.length - 1) H68))) (k+1)
 | [],_,_,h0=>absurd rfl h0
 | [h],a,⟨b,h1,h2,h3,h4⟩,_=>by
  obtain rfl:b=k:=h4
  subst h3
  exact ⟨b+1,by omega,h2,rfl,rfl⟩
 | h::h'::r,a,⟨b,h1,h2,h3,h4⟩,_=>by
  have ih:=GrOk.last h4 (by simp)
  refine ⟨b,h1,h2,h3,?_⟩
  simpa using ih
theorem A98 (l:List Change) (m ctx:Int):∀k,GrOk l m ctx 0 (Y8 l m ctx k) k
 | 0=>rfl
 | k+1=>by
  have ih:=A98 l m ctx k
  have hne:=(D31 l m ctx k).2
  simp only [Y8,C97]
  by_cases ho:opens l ctx k
  ·rw [if_pos ho]
   have e:(Y8 l m ctx k++[A81 l ctx k]).set ((Y8 l m ctx k++[A81 l ctx k]).length - 1) (C62 l m ctx k ((Y8 l m ctx k++[A81 l ctx k]).getD ((Y8 l m ctx k++[A81 l ctx k]).length - 1) H68))=Y8 l m ctx k++[mkH l m ctx k (k+1)]:=by
    simp [mkH]
   rw [e]
   exact ih.snoc ho
  ·rw [if_neg ho]
   refine ih.last ?_
   have:k≠0:=fun e=>ho (.inl e)
   have:=hne (by omega)
   intro e;rw [e] at this;simp at this
theorem A99 (x:List Str) {a b c:Int} (h0:0≤a) (h1:a≤b) (h2:b≤c):sub x a b++sub x b c=sub x a c:=by
 unfold sub
 obtain ⟨u,rfl⟩:∃u:Nat,(u:Int)=a:=⟨a.toNat,by omega⟩
 obtain ⟨v,rfl⟩:∃v:Nat,(v:Int)=b:=⟨b.toNat,by omega⟩
 obtain ⟨w,rfl⟩:∃w:Nat,(w:Int)=c:=⟨c.toNat,by omega⟩
 simp only [J16]
 have h3:x.drop v=(x.drop u).drop (v - u):=by rw [List.drop_drop];congr 1;omega
 rw [h3,show w - u=(v - u)+(w - v) by omega,List.take_add]
theorem H70 (x:List Str) (a:Int):sub x a a=[]:=by simp [sub]
theorem B00 (x:List Str) {a b:Int} (h0:0≤a) (h1:a≤b) (h2:b≤x.length):((sub x a b).length:Int)=b - a:=by
 unfold sub;rw [J24,J27];omega
theorem E24 {x y:List Str} {p q p' q' e:Int} (h:sub x p q=sub y p' q') (h0:0≤p) (h0':0≤p') (he:0≤e) (h1:e≤q - p) (h2:q - p=q' - p'):sub x (q - e) q=sub y (q' - e) q':=by
 have key:∀(z:List Str) (a b:Int),0≤a→e≤b - a→sub z (b - e) b=(sub z a b).drop (b - a - e).toNat:=by
  intro z a b ha hb
  unfold sub
  rw [List.drop_take,List.drop_drop]
  congr 1
  ·omega
  ·congr 1;omega
 rw [key x p q h0 h1,key y p' q' h0' (by omega),h,h2]
theorem G39 {x y:List Str} {p q p' q' e:Int} (h:sub x p q=sub y p' q') (h0:0≤p) (h0':0≤p') (he:0≤e) (h1:e≤q - p) (h2:q - p=q' - p'):sub x p (p+e)=sub y p' (p'+e):=by
 have key:∀(z:List Str) (a b:Int),0≤a→e≤b - a→sub z a (a+e)=(sub z a b).take e.toNat:=by
  intro z a b ha hb
  unfold sub
  rw [List.take_take]
  congr 1
  omega
 rw [key x p q h0 h1,key y p' q' h0' (by omega),h]
theorem B01 (p q:List PatchLine) (k:UInt8):H4 (p++q) k=H4 p k++H4 q k:=by simp [H4]
theorem B02 (k k':UInt8) (ts:List Str):H4 (A40 k ts) k'=if k=k' then [] else ts:=by
 unfold H4 A40
 by_cases h:k=k'
 ·rw [if_pos h];subst h
  simp [List.filter_eq_nil_iff]
 ·rw [if_neg h]
  rw [List.filter_eq_self.2 (by simp [h])]
  simp [Function.comp_def]
structure ScFit (x y:List Str) (l:List Change):Prop where
 lx:(x.length:Int)≤4096
 ly:(y.length:Int)≤4096
 sc:Q5 0 0 0 l x.length y.length=true
 eq:D00 x y 0 0 l
section
variable {x y:List Str} {l:List Change}
theorem ScFit.ok (h:ScFit x y l):ScOk 0 0 l x.length y.length:=B55 _ _ _ _ _ _ h.sc
theorem ScFit.check (h:ScFit x y l):check8 l x.length y.length=0:=by
 have h1:=h.lx
 have h2:=h.ly
 unfold check8
 rw [if_neg (by unfold O0;omega),if_pos h.sc]
theorem ScFit.nn (h:ScFit x y l) (k:Nat) (hk:k≤l.length):0≤eoI 0 l k∧0≤enI 0 l k∧eoI 0 l k≤x.length∧enI 0 l k≤y.length:=by
 cases k with
 | zero=>exact ⟨Int.le_refl _,Int.le_refl _,Int.natCast_nonneg _,Int.natCast_nonneg _⟩
 | succ k =>
  obtain ⟨⟨a1,a2⟩,⟨b1,b2⟩,⟨c1,c2⟩,⟨d1,d2⟩,h5,h6⟩:=h.ok.get k (by omega)
  rw [B56,B57];unfold B20 F62
  omega
def eA (l:List Change) (ctx:Int) (a:Nat):Int:=F61 ctx (cAt l a).Old
def eB (l:List Change) (m ctx:Int) (b:Nat):Int:=F61 ctx (m - eoI 0 l b)
theorem H71 {a b:Int} (h:0≤a) (h':0≤b):0≤F61 a b∧F61 a b≤a∧F61 a b≤b:=by unfold F61;split<;>omega
theorem D01 {ctx:Int} {a:Nat} (ho:opens l ctx a) (ha:a≠0):2*ctx < (cAt l a).Old - eoI 0 l a:=by
 rcases ho with h | h
 ·exact absurd h ha
 ·unfold eoI;rw [if_neg ha];unfold B20;omega
theorem ScFit.before (h:ScFit x y l) {ctx:Int} (hc:0≤ctx) {a:Nat} (ha:a < l.length) (ho:opens l ctx a) :
  0≤eA l ctx a∧eA l ctx a≤ctx∧eA l ctx a≤(cAt l a).Old - eoI 0 l a:=by
 obtain ⟨⟨a1,a2⟩,_⟩:=h.ok.get a ha
 have h3:=H71 hc a1
 unfold eA
 by_cases h0:a=0
 ·subst h0
  show _∧_∧_≤(cAt l 0).Old - 0
  omega
 ·have:=D01 ho h0;omega
theorem ScFit.after (h:ScFit x y l) {ctx:Int} (hc:0≤ctx) {b:Nat} (hb:b≤l.length) (ho:b < l.length→opens l ctx b) (hb0:b≠0) :
  0≤eB l x.length ctx b∧eB l x.length ctx b≤ctx∧eoI 0 l b+eB l x.length ctx b≤x.length∧enI 0 l b+eB l x.length ctx b≤y.length ∧
   sub x (eoI 0 l b) (eoI 0 l b+eB l x.length ctx b)=sub y (enI 0 l b) (enI 0 l b+eB l x.length ctx b):=by
 obtain ⟨h1,h2,h3,h4⟩:=h.nn b hb
 have h5:=H71 hc (show 0≤(x.length:Int) - eoI 0 l b by omega)
 unfold eB
 rcases Nat.lt_or_ge b l.length with hlt | hge
 ·obtain ⟨g1,g2,g3,g4,g5,g6,g7,g8⟩:=A18 _ _ _ _ _ _ h.sc b hlt
  obtain ⟨⟨a1,a2⟩,⟨b1,b2⟩,⟨c1,c2⟩,⟨d1,d2⟩,k5,k6⟩:=h.ok.get b hlt
  have hg:=D01 (ho hlt) hb0
  refine ⟨h5.1,h5.2.1,by omega,by omega,G39 (F63 x y l 0 0 h.eq b hlt) h1 h2 h5.1 (by omega) (by omega)⟩
 ·have e:b=l.length:=by omega
  subst e
  obtain ⟨g1,g2⟩:=H27 _ _ _ _ _ _ h.sc
  refine ⟨h5.1,h5.2.1,by omega,by omega,G39 (H28 x y l 0 0 h.eq) h1 h2 h5.1 (by omega) (by omega)⟩
def F64 (l:List Change) (j0:Int) (a t:Nat):Int:=if t=0 then j0 else F62 (cAt l (a+t - 1))
theorem E25 (i0:Int) (a t:Nat) (ht:t≠0):A41 l i0 a t=eoI 0 l (a+t):=by
 unfold A41 eoI;rw [if_neg ht,if_neg (by omega)]
theorem H72 (j0:Int) (a t:Nat) (ht:t≠0):F64 l j0 a t=enI 0 l (a+t):=by
 unfold F64 enI;rw [if_neg ht,if_neg (by omega)]
theorem ScFit.made (h:ScFit x y l) {ctx:Int} (hc:0≤ctx) {a:Nat} (ho:opens l ctx a):∀t,a+t≤l.length→(t=0→a < l.length) →
  H4 (x5 l x y ((cAt l a).Old - eA l ctx a) a t) 43=sub x ((cAt l a).Old - eA l ctx a) (A41 l ((cAt l a).Old - eA l ctx a) a t) ∧
  H4 (x5 l x y ((cAt l a).Old - eA l ctx a) a t) 45=sub y ((cAt l a).New - eA l ctx a) (F64 l ((cAt l a).New - eA l ctx a) a t)
 | 0,_,_=>by
  unfold A41 F64
  rw [if_pos rfl,if_pos rfl,H70,H70]
  exact ⟨rfl,rfl⟩
 | t + 1,hl,_=>by
  have hlt:a+t < l.length:=by omega
  have hla:a < l.length:=by omega
  obtain ⟨ih1,ih2⟩:=ScFit.made h hc ho t (by omega) (fun _=>hla)
  obtain ⟨q1,q2,q3⟩:=h.before hc hla ho
  obtain ⟨p1,p2,p3,p4⟩:=h.nn (a+t) (by omega)
  obtain ⟨r1,r2,r3,r4⟩:=h.nn a (by omega)
  obtain ⟨g1,g2,g3,g4,g5,g6,g7,g8⟩:=A18 _ _ _ _ _ _ h.sc (a+t) hlt
  obtain ⟨k1,⟨k2,k2'⟩,k3,⟨k4,k4'⟩,k5,k6,k7,k8⟩:=A18 _ _ _ _ _ _ h.sc a hla
  obtain ⟨⟨a1,a2⟩,⟨b1,b2⟩,⟨c1,c2⟩,⟨d1,d2⟩,w5,w6⟩:=h.ok.get (a+t) hlt
  have hrun:sub x (A41 l ((cAt l a).Old - eA l ctx a) a t) (cAt l (a+t)).Old=sub y (F64 l ((cAt l a).New - eA l ctx a) a t) (cAt l (a+t)).New ∧
    (cAt l a).Old - eA l ctx a≤A41 l ((cAt l a).Old - eA l ctx a) a t∧A41 l ((cAt l a).Old - eA l ctx a) a t≤(cAt l (a+t)).Old ∧
    (cAt l a).New - eA l ctx a≤F64 l ((cAt l a).New - eA l ctx a) a t∧F64 l ((cAt l a).New - eA l ctx a) a t≤(cAt l (a+t)).New:=by
   have hrun:=F63 x y l 0 0 h.eq (a+t) hlt
   by_cases ht:t=0
   ·subst ht
    unfold A41 F64
    rw [if_pos rfl,if_pos rfl]
    rw [show a+0=a from rfl] at *
    exact ⟨E24 hrun r1 r2 q1 (by omega) (by omega),by omega,by omega,by omega,by omega⟩
   ·rw [E25 _ _ _ ht,H72 _ _ _ ht]
    have m1:=h.ok.mono a (a+t - 1) (by omega) (by omega)
    have m2:eoI 0 l (a+t)=(cAt l (a+t - 1)).Old+(cAt l (a+t - 1)).OldLen:=by unfold eoI;rw [if_neg (by omega)];rfl
    have m4:∀u,u≤t→(cAt l a).New≤enI 0 l (a+u)∨u=0:=by
     intro u
     induction u with
     | zero=>exact fun _=>.inr rfl
     | succ u ihu =>
      intro hu
      obtain ⟨e1,e2,⟨e3,e3'⟩,⟨e4,e4'⟩,e5,e6,e7,e8⟩:=A18 _ _ _ _ _ _ h.sc (a+u) (by omega)
      have e9:enI 0 l (a+(u+1))=(cAt l (a+u)).New+(cAt l (a+u)).NewLen:=rfl
      rcases ihu (by omega) with h' | h'
      ·left;omega
      ·left;subst h';rw [e9];show (cAt l a).New≤(cAt l a).New+(cAt l a).NewLen;exact Int.le_add_of_nonneg_right e4
    have m5:=(m4 t (Nat.le_refl _)).resolve_right ht
    refine ⟨hrun,by omega,by omega,by omega,by omega⟩
  obtain ⟨hr1,hr2,hr3,hr4,hr5⟩:=hrun
  simp (decide:=true) only [x5,B01,B02,ih1,ih2,if_true,if_false,J43]
  have e1:A41 l ((cAt l a).Old - eA l ctx a) a (t+1)=B20 (cAt l (a+t)):=H26 _ _ _ _
  have e2:F64 l ((cAt l a).New - eA l ctx a) a (t+1)=F62 (cAt l (a+t)):=rfl
  rw [e1,e2]
  have s0:0≤(cAt l a).Old - eA l ctx a:=by omega
  have s1:0≤(cAt l a).New - eA l ctx a:=by omega
  refine ⟨?_,?_⟩
  ·rw [A99 x s0 hr2 hr3,A99 x s0 (by omega) (by unfold B20;omega)]
  ·rw [hr1,A99 y s1 hr4 hr5]
   exact A99 y s1 (by omega) (by omega)
end
end Go.AL
namespace Go.AL
open Go
section
variable {x y:List Str} {l:List Change}
structure HunkIs (x y:List Str) (l:List Change) (ctx:Int) (a b:Nat) (h:PatchHunk):Prop where
 old:h.Old=(cAt l a).Old - eA l ctx a
 new:h.New=(cAt l a).New - eA l ctx a
 o0:0≤h.Old
 n0:0≤h.New
 oe:h.Old+B83 h=eoI 0 l b+eB l x.length ctx b
 ne:h.New+B84 h=enI 0 l b+eB l x.length ctx b
 ox:h.Old+B83 h≤x.length
 ny:h.New+B84 h≤y.length
 ol:H4 h.Lines 43=sub x h.Old (h.Old+B83 h)
 nl:H4 h.Lines 45=sub y h.New (h.New+B84 h)
 ch:A60 h.Lines=true
 gl:(∀s∈x,j5 s=true)→(∀s∈y,j5 s=true)→h.Lines.all C25=true
theorem E26 (p q:List PatchLine):A60 (p++q)=(A60 p||A60 q):=by simp [A60]
theorem E27 {k:UInt8} {ts:List Str} (hk:k≠32) (h:ts≠[]):A60 (A40 k ts)=true:=by
 cases ts with
 | nil=>exact absurd rfl h
 | cons t ts=>simp [A60,A40,hk]
theorem B03 {k:UInt8} {ts:List Str} (hk:k=32∨k=45∨k=43) (h:∀t∈ts,j5 t=true):(A40 k ts).all C25=true:=by
 rw [List.all_eq_true]
 intro q hq
 unfold A40 at hq
 obtain ⟨t,ht,rfl⟩:=List.mem_map.1 hq
 unfold C25
 refine decide_eq_true ?_
 rintro (⟨⟨h1,h2⟩,h3⟩ | h1)
 ·rcases hk with e | e | e
  ·exact h1 e
  ·exact h2 e
  ·exact h3 e
 ·rw [show (PatchLine.mk k t).Text=t from rfl,h t ht] at h1;cases h1
theorem D32 (hx:∀s∈x,j5 s=true) (hy:∀s∈y,j5 s=true) (i0:Int) (a:Nat):∀t,(x5 l x y i0 a t).all C25=true
 | 0=>rfl
 | t+1=>by
  simp only [x5,J55,D32 hx hy i0 a t,Bool.true_and,J15]
  exact ⟨⟨B03 (.inl rfl) (fun s hs=>hx s (D53 hs)),B03 (.inr (.inl rfl)) (fun s hs=>hx s (D53 hs))⟩,B03 (.inr (.inr rfl)) (fun s hs=>hy s (D53 hs))⟩
theorem ScFit.hunk (h:ScFit x y l) {ctx:Int} (hc:0≤ctx) {a b:Nat} (hab:a < b) (hb:b≤l.length) (ho:opens l ctx a) (hob:b < l.length→opens l ctx b) :
  HunkIs x y l ctx a b (j1 l x y (mkH l x.length ctx a b)):=by
 have hla:a < l.length:=by omega
 obtain ⟨q1,q2,q3⟩:=h.before hc hla ho
 obtain ⟨w1,w2,w3,w4,w5⟩:=h.after hc hb hob (by omega)
 obtain ⟨m1,m2⟩:=h.made hc ho (b - a) (by omega) (fun e=>by omega)
 rw [E25 _ _ _ (by omega)] at m1
 rw [H72 _ _ _ (by omega)] at m2
 rw [show a+(b - a)=b by omega] at m1 m2
 obtain ⟨r1,r2,r3,r4⟩:=h.nn a (by omega)
 obtain ⟨s1,s2,s3,s4⟩:=h.nn b hb
 obtain ⟨k1,⟨k2,k2'⟩,k3,⟨k4,k4'⟩,k5,k6,k7,k8⟩:=A18 _ _ _ _ _ _ h.sc a hla
 have hlb:b - 1 < l.length:=by omega
 obtain ⟨g1,⟨g2,g2'⟩,g3,⟨g4,g4'⟩,g5,g6,g7,g8⟩:=A18 _ _ _ _ _ _ h.sc (b - 1) hlb
 have eo:eoI 0 l b=(cAt l (b - 1)).Old+(cAt l (b - 1)).OldLen:=by unfold eoI;rw [if_neg (by omega)];rfl
 have en:enI 0 l b=(cAt l (b - 1)).New+(cAt l (b - 1)).NewLen:=by unfold enI;rw [if_neg (by omega)];rfl
 have mo:=h.ok.mono a (b - 1) (by omega) (by omega)
 have mn:(cAt l a).New≤enI 0 l b:=by
  have m4:∀u,a+u≤l.length→(cAt l a).New≤enI 0 l (a+u)∨u=0:=by
   intro u
   induction u with
   | zero=>exact fun _=>.inr rfl
   | succ u ihu =>
    intro hu
    obtain ⟨e1,e2,⟨e3,e3'⟩,⟨e4,e4'⟩,e5,e6,e7,e8⟩:=A18 _ _ _ _ _ _ h.sc (a+u) (by omega)
    have e9:enI 0 l (a+(u+1))=(cAt l (a+u)).New+(cAt l (a+u)).NewLen:=rfl
    rcases ihu (by omega) with h' | h'
    ·left;omega
    ·left;subst h';rw [e9];show (cAt l a).New≤(cAt l a).New+(cAt l a).NewLen;exact Int.le_add_of_nonneg_right e4
  have:=(m4 (b - a) (by omega)).resolve_right (by omega)
  rwa [show a+(b - a)=b by omega] at this
 have hF:(mkH l x.length ctx a b).First.toNat=a:=by show ((a:Int)).toNat=a;omega
 have hL:(mkH l x.length ctx a b).Last.toNat - (mkH l x.length ctx a b).First.toNat=b - a:=by
  show (((b - 1:Nat):Int)+1).toNat - ((a:Int)).toNat=b - a;omega
 have hOF:(mkH l x.length ctx a b).Old.From=(cAt l a).Old - eA l ctx a:=rfl
 have hNF:(mkH l x.length ctx a b).New.From=(cAt l a).New - eA l ctx a:=rfl
 have hOT:(mkH l x.length ctx a b).Old.To=eoI 0 l b+eB l x.length ctx b:=by
  unfold eB;rw [eo];rfl
 obtain ⟨P,hP⟩:∃P,P=j1 l x y (mkH l x.length ctx a b):=⟨_,rfl⟩
 have hPl:P.Lines=x5 l x y ((cAt l a).Old - eA l ctx a) a (b - a)++A40 32 (sub x (eoI 0 l b) (eoI 0 l b+eB l x.length ctx b)):=by
  rw [hP];unfold j1
  show x5 l x y _ (mkH l x.length ctx a b).First.toNat ((mkH l x.length ctx a b).Last.toNat - (mkH l x.length ctx a b).First.toNat)++A40 32 (sub x (A41 l _ (mkH l x.length ctx a b).First.toNat ((mkH l x.length ctx a b).Last.toNat - (mkH l x.length ctx a b).First.toNat)) _)=_
  rw [hL,hF,hOF,hOT,E25 _ _ _ (by omega),show a+(b - a)=b by omega]
 have hPO:P.Old=(cAt l a).Old - eA l ctx a:=by rw [hP];rfl
 have hPN:P.New=(cAt l a).New - eA l ctx a:=by rw [hP];rfl
 have h43:H4 P.Lines 43=sub x ((cAt l a).Old - eA l ctx a) (eoI 0 l b+eB l x.length ctx b):=by
  rw [hPl,B01,B02,if_neg (by decide),m1]
  exact A99 x (by omega) (by omega) (by omega)
 have h45:H4 P.Lines 45=sub y ((cAt l a).New - eA l ctx a) (enI 0 l b+eB l x.length ctx b):=by
  rw [hPl,B01,B02,if_neg (by decide),m2,w5]
  exact A99 y (by omega) (by omega) (by omega)
 have hon:B83 P=eoI 0 l b+eB l x.length ctx b - ((cAt l a).Old - eA l ctx a):=by
  unfold B83;rw [h43];exact B00 x (by omega) (by omega) (by omega)
 have hnn:B84 P=enI 0 l b+eB l x.length ctx b - ((cAt l a).New - eA l ctx a):=by
  unfold B84;rw [h45];exact B00 y (by omega) (by omega) (by omega)
 rw [←hP]
 refine ⟨hPO,hPN,by omega,by omega,by omega,by omega,by omega,by omega,?_,?_,?_,?_⟩
 ·rw [h43];congr 1
  ·exact hPO.symm
  ·omega
 ·rw [h45];congr 1
  ·exact hPN.symm
  ·omega
 ·rw [hPl,E26]
  have e:x5 l x y ((cAt l a).Old - eA l ctx a) a (b - a)=x5 l x y ((cAt l a).Old - eA l ctx a) a (b - 1 - a+1):=by congr 1;omega
  rw [e]
  simp only [x5,E26]
  rw [show a+(b - 1 - a)=b - 1 by omega]
  have key:A60 (A40 45 (sub x (cAt l (b - 1)).Old (B20 (cAt l (b - 1)))))=true∨A60 (A40 43 (sub y (cAt l (b - 1)).New ((cAt l (b - 1)).New+(cAt l (b - 1)).NewLen)))=true:=by
   obtain ⟨g3a,g3b⟩:=g3
   obtain ⟨g1a,g1b⟩:=g1
   by_cases h0:(cAt l (b - 1)).OldLen=0
   ·right
    refine E27 (by decide) fun e0=>?_
    have:=B00 y (a:=(cAt l (b - 1)).New) (b:=(cAt l (b - 1)).New+(cAt l (b - 1)).NewLen) g3a (by omega) (by omega)
    rw [e0] at this;simp at this;omega
   ·left
    refine E27 (by decide) fun e0=>?_
    have:=B00 x (a:=(cAt l (b - 1)).Old) (b:=B20 (cAt l (b - 1))) g1a (by unfold B20;omega) (by unfold B20;omega)
    rw [e0] at this;unfold B20 at this;simp at this;omega
  rcases key with e1 | e1<;>rw [e1]<;>simp
 ·intro hx hy
  rw [hPl,J55,D32 hx hy,Bool.true_and]
  exact B03 (.inl rfl) (fun s hs=>hx s (D53 hs))
theorem ScFit.hunks (h:ScFit x y l) {ctx:Int} (hc:0≤ctx) (hx:∀s∈x,j5 s=true) (hy:∀s∈y,j5 s=true):∀(hs:List Hunk) (a:Nat),GrOk l x.length ctx a hs l.length →
  ∀(i j e:Int),i=eoI 0 l a+e→j=enI 0 l a+e→0≤e→e≤ctx→(a=0→e=0) →
  C98 i j (hs.map (j1 l x y))=true∧(N5 (hs.map (j1 l x y)) 43).Sublist (x.drop i.toNat)∧(N5 (hs.map (j1 l x y)) 45).Sublist (y.drop j.toNat) ∧
   ∀p∈hs.map (j1 l x y),(p.Old+B83 p≤x.length∧p.New+B84 p≤y.length∧0≤p.Old∧0≤p.New)∧H4 p.Lines 43=sub x p.Old (p.Old+B83 p)∧H4 p.Lines 45=sub y p.New (p.New+B84 p)
 | [],a,_,i,j,e,_,_,_,_,_=>⟨rfl,by simp [N5],by simp [N5],by simp⟩
 | hk::hs,a,⟨b,hab,ho,hE,hr⟩,i,j,e,hi,hj,he,hec,he0=>by
  have hb:=hr.le
  have hob:b < l.length→opens l ctx b:=by
   intro hlt
   cases hs with
   | nil=>exact absurd hr (by show ¬b=l.length;omega)
   | cons h2 hs2=>obtain ⟨_,_,ho2,_⟩:=hr;exact ho2
  obtain ⟨w1,w2,w3,w4,w5⟩:=h.after hc hb hob (by omega)
  obtain ⟨q1,q2,q3⟩:=h.before hc (show a < l.length by omega) ho
  have H:=h.hunk hc hab hb ho hob
  rw [←hE] at H
  obtain ⟨P,hP⟩:∃P,P=j1 l x y hk:=⟨_,rfl⟩
  rw [←hP] at H
  obtain ⟨i1,i2,i3,i4⟩:=ScFit.hunks h hc hx hy hs b hr (P.Old+B83 P) (P.New+B84 P) (eB l x.length ctx b) H.oe H.ne w1 w2 (by omega)
  obtain ⟨k1,⟨k2,k2'⟩,k3,⟨k4,k4'⟩,k5,k6,k7,k8⟩:=A18 _ _ _ _ _ _ h.sc a (show a < l.length by omega)
  have h1:=H.old
  have h2:=H.new
  have h3:=H.o0
  have h4:=H.n0
  have h5:=H.ox
  have h6:=H.ny
  have h7:=h.lx
  have h8:=h.ly
  have n1:0≤B83 P:=by unfold B83;omega
  have n2:0≤B84 P:=by unfold B84;omega
  have hgap:e+eA l ctx a≤(cAt l a).Old - eoI 0 l a:=by
   by_cases h0:a=0
   ·have:=he0 h0;omega
   ·have:=D01 ho h0;omega
  obtain ⟨r1,r2,r3,r4⟩:=h.nn a (by omega)
  have hij:i≤P.Old∧j≤P.New∧P.Old - i=P.New - j∧0≤i∧0≤j:=by omega
  have hsub:∀(z:List Str) (i f t:Int),0≤i→i≤f→f≤t→∀r:List Str,r.Sublist (z.drop t.toNat)→(sub z f t++r).Sublist (z.drop i.toNat):=by
   intro z i f t h0 h1 h2 r hr
   have e1:z.drop f.toNat=sub z f t++z.drop t.toNat:=by
    unfold sub
    rw [show t.toNat=f.toNat+(t.toNat - f.toNat) by omega,←List.drop_drop,show f.toNat+(t.toNat - f.toNat) - f.toNat=t.toNat - f.toNat by omega,J57]
   have e2:z.drop f.toNat=(z.drop i.toNat).drop (f.toNat - i.toNat):=by rw [List.drop_drop];congr 1;omega
   refine List.Sublist.trans ?_ (List.drop_sublist (f.toNat - i.toNat) (z.drop i.toNat))
   rw [←e2,e1]
   exact List.Sublist.append_left hr _
  have key:∀(k:UInt8),N5 ((hk::hs).map (j1 l x y)) k=H4 P.Lines k++N5 (hs.map (j1 l x y)) k:=by
   intro k;rw [hP];simp [N5]
  refine ⟨?_,?_,?_,?_⟩
  ·rw [J33,←hP]
   simp only [C98,H.gl hx hy,i1,Bool.and_true,Bool.true_and,J15,decide_eq_true_eq]
   refine ⟨?_,by omega⟩
   unfold C63
   rw [H.ch]
   rintro (((((e0 | e0) | e0) | e0) | e0) | e0)
   ·cases e0
   all_goals omega
  ·rw [key,H.ol]
   exact hsub x i P.Old (P.Old+B83 P) hij.2.2.2.1 hij.1 (by omega) _ i2
  ·rw [key,H.nl]
   exact hsub y j P.New (P.New+B84 P) hij.2.2.2.2 hij.2.1 (by omega) _ i3
  ·rw [J33,←hP]
   intro p hp
   rcases List.mem_cons.1 hp with rfl | hp
   ·exact ⟨⟨h5,h6,h3,h4⟩,H.ol,H.nl⟩
   ·exact i4 p hp
theorem C66:∀{s z:List Str},s.Sublist z→v8 z=true→v8 s=true:=by
 intro s z hs
 induction hs with
 | slnil=>exact fun h=>h
 | cons a _ ih =>
  intro h
  simp only [v8,J15] at h
  exact ih h.2
 | cons_cons a hs2 ih =>
  intro h
  simp only [v8,J15,J31] at h ⊢
  refine ⟨?_,ih h.2⟩
  rcases h.1 with h1 | h1
  ·left
   rw [List.isEmpty_iff] at h1 ⊢
   rw [h1] at hs2
   exact List.sublist_nil.1 hs2
  ·exact .inr h1
def j2 (l:List Change) (x y:List Str) (ctx:Int):List PatchHunk:=(Y8 l x.length ctx l.length).map (j1 l x y)
theorem ScFit.good (h:ScFit x y l) {ctx:Int} (hc:0≤ctx) (hx:∀s∈x,j5 s=true) (hy:∀s∈y,j5 s=true) (ex:v8 x=true) (ey:v8 y=true):C99 (j2 l x y ctx)=true:=by
 obtain ⟨h1,h2,h3,_⟩:=h.hunks hc hx hy _ 0 (A98 l x.length ctx l.length) 0 0 0 rfl rfl (Int.le_refl _) hc (fun _=>rfl)
 unfold C99 H25 j2
 rw [h1,C66 h2 (by simpa using ex),C66 h3 (by simpa using ey)]
 rfl
theorem ScFit.texts (h:ScFit x y l) {ctx:Int} (hc:0≤ctx) (hx:∀s∈x,j5 s=true) (hy:∀s∈y,j5 s=true):∀p∈j2 l x y ctx,(p.Old+B83 p≤x.length∧p.New+B84 p≤y.length∧0≤p.Old∧0≤p.New)∧H4 p.Lines 43=sub x p.Old (p.Old+B83 p)∧H4 p.Lines 45=sub y p.New (p.New+B84 p) :=
 (h.hunks hc hx hy _ 0 (A98 l x.length ctx l.length) 0 0 0 rfl rfl (Int.le_refl _) hc (fun _=>rfl)).2.2.2
end
end Go.AL
namespace Go.AL
open Go
def EqAt (X Y:List Str) (s:Span):Prop:=0≤s.From∧0≤s.To∧∃v,X[s.From.toNat]?=some v∧Y[s.To.toNat]?=some v
theorem G40 {X:List Str} {a b:Int} {v:Str} (h0:0≤a) (h1:a≤b) (hv:X[b.toNat]?=some v):sub X a (b+1)=sub X a b++[v]:=by
 rw [←A99 X h0 h1 (by omega:b≤b+1)]
 congr 1
 unfold sub
 obtain ⟨hl,e⟩:=List.getElem?_eq_some_iff.1 hv
 rw [J23 hl,e,show (b+1).toNat - b.toNat=1 by omega]
 rfl
theorem F05:∀(ls:List PatchLine),ls.all C25=true→(ls.map szL).sum≤64*((H4 ls 43).length+(H4 ls 45).length)+((H4 ls 43).flatten.length+(H4 ls 45).flatten.length)
 | [],_=>by simp
 | q::ls,h=>by
  rw [List.all_cons,J15] at h
  have ih:=F05 ls h.2
  have hk:q.Kind=32∨q.Kind=45∨q.Kind=43:=by
   have hg:=h.1
   unfold C25 at hg
   have hg:=A0 hg
   by_cases h1:q.Kind=32
   ·exact .inl h1
   by_cases h2:q.Kind=45
   ·exact .inr (.inl h2)
   by_cases h3:q.Kind=43
   ·exact .inr (.inr h3)
   exact absurd (.inl ⟨⟨h1,h2⟩,h3⟩) hg
  have hd:∀k:UInt8,H4 (q::ls) k=if q.Kind≠k then q.Text::H4 ls k else H4 ls k:=by
   intro k
   unfold H4
   by_cases e:q.Kind=k
   ·rw [if_neg (by simpa using e),List.filter_cons_of_neg (by simpa using e)]
   ·rw [if_pos e,List.filter_cons_of_pos (by simpa using e)];rfl
  rw [hd 43,hd 45,J33,List.sum_cons]
  have hz:szL q=q.Text.length+64:=rfl
  rcases hk with e | e | e<;>rw [e]<;>simp (decide:=true) only [if_true,if_false,ne_eq,not_true_eq_false,not_false_eq_true,J17,J59,J19]<;>omega
theorem C67:∀(hs:List PatchHunk) (i j:Int),C98 i j hs=true→szP hs≤128*((N5 hs 43).length+(N5 hs 45).length)+((N5 hs 43).flatten.length+(N5 hs 45).flatten.length)
 | [],_,_,_=>by simp [szP]
 | h :: hs,i,j,hg=>by
  simp only [C98,J15,decide_eq_true_eq] at hg
  obtain ⟨h1,h2,h3,h4⟩:=hg
  have ih:=C67 hs _ _ h4
  have hl:=F05 h.Lines h1
  have hne:1≤h.Lines.length:=by
   cases hq:h.Lines with
   | nil=>exact absurd (.inl (.inl (.inl (.inl (.inl (by rw [hq];rfl)))))) h2
   | cons a b=>simp
  have hcnt:h.Lines.length≤(H4 h.Lines 43).length+(H4 h.Lines 45).length:=by
   have:64*h.Lines.length≤(h.Lines.map szL).sum:=szL_len h.Lines
   have key:∀ls:List PatchLine,ls.length≤(H4 ls 43).length+(H4 ls 45).length:=by
    intro ls
    induction ls with
    | nil=>simp
    | cons q ls ih =>
     have hd:∀k:UInt8,(H4 (q::ls) k).length=if q.Kind≠k then (H4 ls k).length+1 else (H4 ls k).length:=by
      intro k
      unfold H4
      by_cases e:q.Kind=k
      ·rw [if_neg (by simpa using e),List.filter_cons_of_neg (by simpa using e)]
      ·rw [if_pos e,List.filter_cons_of_pos (by simpa using e)];simp
     rw [hd 43,hd 45,J17]
     by_cases e:q.Kind=43
     ·have e2:q.Kind≠45:=by rw [e];decide
      rw [if_pos e2];split<;>omega
     ·rw [if_pos e];split<;>omega
   exact key h.Lines
  have hsz:szP (h::hs)=szH h+szP hs:=by simp [szP]
  have hszh:szH h=64+(h.Lines.map szL).sum:=rfl
  have hs1:∀k,N5 (h::hs) k=H4 h.Lines k++N5 hs k:=by intro k;simp [N5]
  rw [hsz,hszh,hs1 43,hs1 45]
  simp only [J19,J50]
  omega
theorem D33:∀{s z:List Str},s.Sublist z→s.flatten.length≤z.flatten.length:=by
 intro s z hs
 induction hs with
 | slnil=>exact Nat.le_refl _
 | cons a _ ih=>simp only [J59,J19];omega
 | cons_cons a _ ih=>simp only [J59,J19];omega
theorem ScFit.size {x y:List Str} {l:List Change} (h:ScFit x y l) {ctx:Int} (hc:0≤ctx) (hx:∀s∈x,j5 s=true) (hy:∀s∈y,j5 s=true):szP (j2 l x y ctx)≤128*(x.length+y.length)+(x.flatten.length+y.flatten.length):=by
 obtain ⟨h1,h2,h3,_⟩:=h.hunks hc hx hy _ 0 (A98 l x.length ctx l.length) 0 0 0 rfl rfl (Int.le_refl _) hc (fun _=>rfl)
 have h4:=C67 _ _ _ h1
 have e:j2 l x y ctx=(Y8 l x.length ctx l.length).map (j1 l x y):=rfl
 rw [←e] at h2 h3 h4
 have h2':(N5 (j2 l x y ctx) 43).Sublist x:=by simpa using h2
 have h3':(N5 (j2 l x y ctx) 45).Sublist y:=by simpa using h3
 have:=h2'.length_le
 have:=h3'.length_le
 have:=D33 h2'
 have:=D33 h3'
 omega
end Go.AL
namespace Go.AL
open Go
end Go.AL
namespace Go.AL
open Go
abbrev C26:Int→Nat→Cell:=fun x _=>.v (.int .u16 x)
abbrev pU16s (l:List Int):PV:=.one (.list Int 1 C26 l)
theorem H29 (n:Int) (h:0≤n∧n < 65536):IntKind.u16.wrap n=n:=by
 simp [IntKind.wrap,IntKind.signed,IntKind.bits];omega
def flat (a b:List Int) (done:Nat→Nat→Bool):List Int :=
 (List.range ((a.length+1)*(b.length+1))).map fun p=>if done (p / (b.length+1)) (p % (b.length+1))=true then (dist (a.drop (p / (b.length+1))) (b.drop (p % (b.length+1))):Int) else 0
theorem D34 (a b:List Int) (done:Nat→Nat→Bool):(flat a b done).length=(a.length+1)*(b.length+1):=by simp [flat]
theorem D54 {a b:List Int} {i j:Nat} (hi:i≤a.length) (hj:j≤b.length):i*(b.length+1)+j < (a.length+1)*(b.length+1)∧(i*(b.length+1)+j) / (b.length+1)=i∧(i*(b.length+1)+j) % (b.length+1)=j:=by
 refine ⟨?_,?_,?_⟩
 ·have:(i+1)*(b.length+1)≤(a.length+1)*(b.length+1):=J25 _ (by omega)
  rw [J35,Nat.one_mul] at this;omega
 ·rw [Nat.mul_comm,Nat.mul_add_div (by omega),Nat.div_eq_of_lt (by omega),Nat.add_zero]
 ·rw [Nat.mul_comm,Nat.mul_add_mod,Nat.mod_eq_of_lt (by omega)]
theorem E28 {a b:List Int} {done:Nat→Nat→Bool} {i j:Nat} (hi:i≤a.length) (hj:j≤b.length):(flat a b done)[i*(b.length+1)+j]?=some (if done i j=true then (dist (a.drop i) (b.drop j):Int) else 0):=by
 obtain ⟨h1,h2,h3⟩:=D54 hi hj
 unfold flat
 rw [I34 _ _ _ h1,h2,h3]
theorem G41 {a b:List Int} {done done':Nat→Nat→Bool} {i j:Nat} {v:Int} (hi:i≤a.length) (hj:j≤b.length) (hv:v=(dist (a.drop i) (b.drop j):Int)) (hd:done' i j=true)
  (ho:∀r q,r≤a.length→q≤b.length→¬(r=i∧q=j)→done' r q=done r q):(flat a b done).set (i*(b.length+1)+j) v=flat a b done':=by
 obtain ⟨h1,h2,h3⟩:=D54 hi hj
 unfold flat
 refine F03 _ _ _ _ _ (fun _=>?_) (fun q hq hne=>?_)
 ·rw [h2,h3,if_pos hd,hv]
 ·have hW:0 < b.length+1:=by omega
  have e:=Nat.div_add_mod q (b.length+1)
  have hr:q / (b.length+1)≤a.length:=by
   have:=(Nat.div_lt_iff_lt_mul hW).2 hq
   omega
  have hm:=Nat.mod_lt q hW
  rw [ho _ _ hr (by omega) (fun ⟨e1,e2⟩=>hne (by rw [e1,e2,Nat.mul_comm] at e;exact e.symm))]
theorem I35 (a b:List Int):List.replicate ((a.length+1)*(b.length+1)) 0=flat a b (fun _ _=>false):=by
 unfold flat
 simp only [Bool.false_eq_true,if_false]
 rw [List.map_const',J45]
theorem B04 {a b:List Int} {done done':Nat→Nat→Bool} (h:∀r q,r≤a.length→q≤b.length→(done r q=done' r q∨dist (a.drop r) (b.drop q)=0)):flat a b done=flat a b done':=by
 unfold flat
 apply List.map_congr_left
 intro p hp
 have hp:=List.mem_range.1 hp
 have hW:0 < b.length+1:=by omega
 have hr:p / (b.length+1)≤a.length:=by have:=(Nat.div_lt_iff_lt_mul hW).2 hp;omega
 have hm:=Nat.mod_lt p hW
 rcases h (p / (b.length+1)) (p % (b.length+1)) hr (by omega) with e | e
 ·rw [e]
 ·rw [e];simp
def W9:List Int→List Int→Nat
 | x::a,y::b=>if x=y then W9 a b+1 else 0
 | _,_=>0
theorem G42:∀(a b:List Int),W9 a b≤a.length∧W9 a b≤b.length
 | [],_=>by simp [W9]
 | _::_,[]=>by simp [W9]
 | x::a,y::b=>by
  have:=G42 a b
  unfold W9
  simp only [J17]
  split<;>omega
theorem E29 (a b:List Int) (k:Nat) (hk:k < a.length) (hk':k < b.length):W9 (a.drop k) (b.drop k)=if a[k]=b[k] then W9 (a.drop (k+1)) (b.drop (k+1))+1 else 0:=by
 rw [J23 hk,J23 hk'];rfl
theorem I36 (a b:List Int) (k:Nat) (h:¬(k < a.length∧k < b.length)):W9 (a.drop k) (b.drop k)=0:=by
 by_cases h1:k < a.length
 ·rw [J29 (as:=b) (by omega)]
  cases a.drop k<;>rfl
 ·rw [J29 (as:=a) (by omega)];rfl
theorem E30:∀(a b:List Int) (p q:Int),M1 p q a b=U6 p q (W9 a b)++M1 (p+W9 a b) (q+W9 a b) (a.drop (W9 a b)) (b.drop (W9 a b))
 | [],b,p,q=>by simp [W9,A97]
 | x::a,[],p,q=>by simp [W9,A97]
 | x::a,y::b,p,q=>by
  unfold W9
  by_cases h:x=y
  ·rw [if_pos h]
   conv=>lhs;unfold M1
   rw [if_pos h,E30 a b (p+1) (q+1),F56]
   simp only [List.drop_succ_cons,J36]
   rw [show p+1+(W9 a b:Int)=p+((W9 a b+1:Nat):Int) by omega,show q+1+(W9 a b:Int)=q+((W9 a b+1:Nat):Int) by omega]
  ·rw [if_neg h]
   simp [A97]
end Go.AL
namespace Go.AL
open Go
def GrX (l:List Change) (m ctx:Int):Nat→List Hunk→Nat→Prop
 | a,[],k=>a=k
 | a,h::r,k=>∃b,a < b∧opens l ctx a∧(∀c,a < c→c < b→¬opens l ctx c)∧h=mkH l m ctx a b∧GrX l m ctx b r k
theorem GrX.le {l:List Change} {m ctx:Int}:∀{hs:List Hunk} {a k:Nat},GrX l m ctx a hs k→a≤k
 | [],a,k,h=>Nat.le_of_eq h
 | _::_,a,k,⟨b,h1,_,_,_,h2⟩=>by have:=GrX.le h2;omega
theorem GrX.snoc {l:List Change} {m ctx:Int} {k n:Nat} (ho:opens l ctx k) (hk:k < n) (hno:∀c,k < c→c < n→¬opens l ctx c):∀{hs:List Hunk} {a:Nat},GrX l m ctx a hs k→GrX l m ctx a (hs++[mkH l m ctx k n]) n
 | [],a,h=>by
  obtain rfl:a=k:=h
  exact ⟨n,hk,ho,hno,rfl,rfl⟩
 | _::_,a,⟨b,h1,h2,h3,h4,h5⟩=>⟨b,h1,h2,h3,h4,GrX.snoc ho hk hno h5⟩
theorem GrX.last {l:List Change} {m ctx:Int} {k:Nat} (hno:¬opens l ctx k):∀{hs:List Hunk} {a:Nat},GrX l m ctx a hs k→hs≠[]→GrX l m ctx a (hs.set (hs.length - 1) (C62 l m ctx k (hs.getD (hs.length - 1) H68))) (k+1)
 | [],_,_,h0=>absurd rfl h0
 | [h],a,⟨b,h1,h2,h3,h4,h5⟩,_=>by
  obtain rfl:b=k:=h5
  subst h4
  refine ⟨b+1,by omega,h2,fun c hc1 hc2=>?_,rfl,rfl⟩
  by_cases hcb:c=b
  ·rw [hcb];exact hno
  ·exact h3 c hc1 (by omega)
 | h::h'::r,a,⟨b,h1,h2,h3,h4,h5⟩,_=>by
  have ih:=GrX.last hno h5 (by simp)
  refine ⟨b,h1,h2,h3,h4,?_⟩
  simpa using ih
theorem GrX.len {l:List Change} {m ctx:Int}:∀{hs:List Hunk} {a k:Nat},GrX l m ctx a hs k→hs.length≤k - a
 | [],_,_,_=>Nat.zero_le _
 | _::_,a,k,⟨b,h1,_,_,_,h2⟩=>by have:=GrX.len h2;have:=h2.le;simp only [J17];omega
end Go.AL
namespace Go.AL
open Go
def z6:List Str→Int→List (Str × Cell)
 | [],_=>[]
 | s::r,i=>(s,.v (.int .i64 i))::z6 r (i+1)
theorem F06 (s:Str):∀(l:List Str) (i:Int),z6 (l++[s]) i=z6 l i++[(s,.v (.int .i64 (i+l.length)))]
 | [],i=>by simp [z6]
 | x::r,i=>by
  simp only [J36,z6,F06 s r,J17]
  rw [show i+1+(r.length:Int)=i+((r.length+1:Nat):Int) by omega]
theorem F07 (s:Str):∀(l:List Str) (i:Int),s∈l→L9 (z6 l i) s=some (.v (.int .i64 (R4 l s i)))
 | [],_,h=>by simp at h
 | x::r,i,h=>by
  simp only [z6,L9,R4]
  by_cases he:x=s
  ·rw [if_pos he,if_pos he]
  ·rw [if_neg he,if_neg he]
   exact F07 s r (i+1) ((List.mem_cons.1 h).resolve_left (fun q=>he q.symm))
theorem E31 (s:Str):∀(l:List Str) (i:Int),s∉l→L9 (z6 l i) s=none
 | [],_,_=>rfl
 | x::r,i,h=>by
  simp only [z6,L9]
  rw [if_neg (fun q=>h (by simp [q]))]
  exact E31 s r (i+1) (fun q=>h (by simp [q]))
theorem B58 (s:Str) (r:List Str):∀(l:List Str) (i:Int),s∈l→R4 (l++r) s i=R4 l s i
 | [],_,h=>by simp at h
 | x::l,i,h=>by
  simp only [J36,R4]
  by_cases he:x=s
  ·rw [if_pos he,if_pos he]
  ·rw [if_neg he,if_neg he]
   exact B58 s r l (i+1) ((List.mem_cons.1 h).resolve_left (fun q=>he q.symm))
theorem D35 (s:Str):∀(l:List Str) (i:Int),s∉l→R4 (l++[s]) s i=i+l.length
 | [],i,_=>by simp [R4]
 | x::l,i,h=>by
  simp only [J36,R4,J17]
  rw [if_neg (fun q=>h (by simp [q])),D35 s l (i+1) (fun q=>h (by simp [q]))]
  omega
theorem C68:∀(l out:List Str),∃r,l.foldl P5 out=out++r
 | [],out=>⟨[],by simp⟩
 | s::l,out=>by
  obtain ⟨r,hr⟩:=C68 l (P5 out s)
  rw [J42,hr]
  unfold P5
  split
  ·exact ⟨r,rfl⟩
  ·exact ⟨s::r,by simp⟩
def N8 (files:List (List Str)) (k j:Nat):List Str:=((files.take k).flatten++(files.getD k []).take j).foldl P5 []
theorem G43 (files:List (List Str)) (k:Nat):N8 files (k+1) 0=N8 files k (files.getD k []).length:=by
 unfold N8
 rw [List.take_zero,J43,J22]
 by_cases h:k < files.length
 ·rw [A35 files k h]
  congr 2
  simp [h]
 ·rw [J40 (by omega),J40 (by omega)]
  have:files.getD k []=[]:=by simp [show files.length≤k by omega]
  rw [this,J43]
theorem F65 (files:List (List Str)) (k j:Nat) (s:Str) (h:(files.getD k [])[j]?=some s):N8 files k (j+1)=P5 (N8 files k j) s:=by
 unfold N8
 have hj:j < (files.getD k []).length:=(List.getElem?_eq_some_iff.1 h).1
 have he:=(List.getElem?_eq_some_iff.1 h).2
 rw [J54 hj,he,←J26,J58]
 rfl
theorem G44 (files:List (List Str)):N8 files files.length 0=N7 files:=by
 unfold N8 N7
 rw [J22];simp
theorem D36 (files:List (List Str)) (k j:Nat):∃r,N7 files=N8 files k j++r:=by
 have h:∃m,files.flatten=((files.take k).flatten++(files.getD k []).take j)++m:=by
  refine ⟨(files.getD k []).drop j++(files.drop (k+1)).flatten,?_⟩
  by_cases hk:k < files.length
  ·have e:files=files.take k++files.getD k []::files.drop (k+1):=by
    have:files.getD k []=files[k]:=by simp [hk]
    rw [this,List.getElem_cons_drop,J57]
   conv=>lhs;rw [e]
   rw [J50,J59,J26]
   congr 1
   rw [←J26,J57]
  ·have:files.getD k []=[]:=by simp [show files.length≤k by omega]
   rw [this,J40 (by omega:files.length≤k),J29 (by omega:files.length≤k+1)]
   simp
 obtain ⟨m,hm⟩:=h
 unfold N7 N8
 rw [hm,J58]
 obtain ⟨r,hr⟩:=C68 m (((files.take k).flatten++(files.getD k []).take j).foldl P5 [])
 exact ⟨r,hr⟩
theorem E32 (files:List (List Str)) (k j:Nat):(N8 files k j).length≤files.flatten.length:=by
 obtain ⟨r,hr⟩:=D36 files k j
 have:=E13 files
 rw [hr,J19] at this;omega
def O9 (files:List (List Str)) (k:Nat):List TC:=(List.range files.length).map fun r=>if r < k then .p (.list Int 1 E3 (x9 (N7 files) (files.getD r []))) else .p (.v (.slice none 0 0))
theorem I37 {files:List (List Str)} {k:Nat} (h:k < files.length):(O9 files k)[k]?=some (.p (.v (.slice none 0 0))):=by
 simp [O9,h]
theorem F66 (files:List (List Str)) (k m:Nat) (_h:k < files.length):((O9 files k).set k (.buf m Int 1 E3 (x9 (N7 files) (files.getD k [])))).map (TC.forget m)=O9 files (k+1):=by
 have e1:(O9 files k).map (TC.forget m)=O9 files k:=by
  unfold O9
  rw [J49]
  apply List.map_congr_left
  intro r _
  simp only [Function.comp]
  split<;>rfl
 rw [List.map_set,e1]
 have e2:(TC.buf m Int 1 E3 (x9 (N7 files) (files.getD k []))).forget m=.p (.list Int 1 E3 (x9 (N7 files) (files.getD k []))):=by simp [TC.forget]
 rw [e2]
 unfold O9
 refine F03 _ _ _ _ _ (fun _=>by simp) (fun q hq hne=>?_)
 simp only [show (q < k+1)=(q < k) from propext ⟨fun h=>by omega,fun h=>by omega⟩]
theorem H30 (files:List (List Str)):List.replicate files.length (TC.p (.v (.slice none 0 0)))=O9 files 0:=by
 unfold O9
 simp only [Nat.not_lt_zero,if_false,List.map_const',J45]
theorem H31 (files:List (List Str)):O9 files files.length=(files.map (x9 (N7 files))).map fun x=>TC.p (intsC x 0):=by
 unfold O9
 apply List.ext_getElem
 ·simp
 ·intro i h1 h2
  have hi:i < files.length:=by simpa using h1
  simp [hi,intsC]
end Go.AL
namespace Go.AL
open Go
theorem H73 (m n:Int):∀(l:List Change) (k0:Nat) (i j:Int),(∀k,k < l.length→O0 (cAt l k).Old∧O0 (cAt l k).OldLen∧O0 (cAt l k).New∧O0 (cAt l k).NewLen∧(cAt l k).OldLen+(cAt l k).NewLen≠0∧(cAt l k).Old - eoI i l k=(cAt l k).New - enI j l k∧eoI i l k≤(cAt l k).Old∧(0 < k0+k→eoI i l k < (cAt l k).Old)) →
  (m - eoI i l l.length=n - enI j l l.length∧eoI i l l.length≤m)→Q5 k0 i j l m n=true
 | [],k0,i,j,_,h=>by
  have h1:m - i=n - j∧i≤m:=h
  simp only [Q5,decide_eq_true_eq];omega
 | c::r,k0,i,j,h,he=>by
  simp only [Q5,J15,decide_eq_true_eq]
  refine ⟨?_,H73 m n r (k0+1) _ _ (fun k hk=>?_) ?_⟩
  ·obtain ⟨h1,h2,h3,h4,h5,h6,h7,h8⟩:=h 0 (by simp)
   have h1:O0 c.Old:=h1
   have h2:O0 c.OldLen:=h2
   have h3:O0 c.New:=h3
   have h4:O0 c.NewLen:=h4
   have h5:c.OldLen+c.NewLen≠0:=h5
   have h6:c.Old - i=c.New - j:=h6
   have h7:i≤c.Old:=h7
   have h8:0 < k0+0→i < c.Old:=h8
   unfold badC
   rintro (((((((q | q) | q) | q) | q) | q) | q) | ⟨q,q2⟩)
   ·exact q h1
   ·exact q h2
   ·exact q h3
   ·exact q h4
   ·exact h5 q
   ·exact q h6
   ·omega
   ·have:=h8 (by omega);omega
  ·have:=h (k+1) (by simpa using hk)
   rw [C65,w7,w8] at this
   obtain ⟨e1,e2,e3,e4,e5,e6,e7,e8⟩:=this
   exact ⟨e1,e2,e3,e4,e5,e6,e7,fun h0=>e8 (by omega)⟩
  ·rw [J17,w7,w8] at he;exact he
theorem H74 (x y:List Str):∀(l:List Change) (i j:Int),(∀k,k < l.length→sub x (eoI i l k) (cAt l k).Old=sub y (enI j l k) (cAt l k).New)→sub x (eoI i l l.length) x.length=sub y (enI j l l.length) y.length→D00 x y i j l
 | [],_,_,_,h=>h
 | c::r,i,j,h,he=>by
  refine ⟨h 0 (by simp),H74 x y r _ _ (fun k hk=>?_) ?_⟩
  ·have:=h (k+1) (by simpa using hk)
   rw [C65,w7,w8] at this;exact this
  ·rw [J17,w7,w8] at he;exact he
theorem H75 {x:List Str} {p q:Int} {t:Nat} (h0:0≤p) (h:p+t < q):(sub x p q)[t]?=x[(p+t).toNat]?:=by
 unfold sub
 rw [List.getElem?_take,if_pos (by omega),J53]
 congr 1;omega
theorem F67 {x y:List Str} {p q p' q':Int} (h:sub x p q=sub y p' q') (h0:0≤p) (h0':0≤p') (hq:q≤x.length) (he:q - p=q' - p') {t:Nat} (ht:p+t < q):∃v,x[(p+t).toNat]?=some v∧y[(p'+t).toNat]?=some v:=by
 have h1:x[(p+t).toNat]?=some x[(p+t).toNat]:=J14 (by omega)
 refine ⟨_,h1,?_⟩
 rw [←H75 (q:=q') h0' (by omega),←h,H75 h0 ht];exact h1
theorem D37 {i j:Int} {n:Nat} {p:Span} (h:p∈U6 i j n):∃t:Nat,t < n∧p=⟨i+t,j+t⟩:=by
 unfold U6 at h
 obtain ⟨t,h1,h2⟩:=List.mem_map.1 h
 exact ⟨t,List.mem_range.1 h1,h2.symm⟩
theorem E33 {x y:List Str}:∀(l:List Change) (k0:Nat) (i j:Int),Q5 k0 i j l x.length y.length=true→D00 x y i j l→0≤i→0≤j→∀p∈A80 i j l x.length,EqAt x y p
 | [],k0,i,j,hs,he,hi,hj,p,hp=>by
  simp only [Q5,decide_eq_true_eq] at hs
  unfold A80 at hp
  obtain ⟨t,ht,rfl⟩:=D37 hp
  have he:sub x i x.length=sub y j y.length:=he
  exact ⟨by dsimp only;omega,by dsimp only;omega,F67 he hi hj (by omega) (by omega) (by omega)⟩
 | c::r,k0,i,j,hs,he,hi,hj,p,hp=>by
  have hok:=B55 _ _ _ _ _ _ hs
  have g:=A18 x.length y.length (c::r) k0 i j hs 0 (by simp)
  obtain ⟨g1,g2,g3,g4,g5,g6,g7,_⟩:=g
  have g1:O0 c.Old:=g1
  have g2:O0 c.OldLen:=g2
  have g3:O0 c.New:=g3
  have g4:O0 c.NewLen:=g4
  have g6:c.Old - i=c.New - j:=g6
  have g7:i≤c.Old:=g7
  simp only [Q5,J15,decide_eq_true_eq] at hs
  unfold A80 at hp
  unfold O0 at g1 g2 g3 g4
  have hm:=hok.2.2.2.2.2.2.end_le
  rcases List.mem_append.1 hp with hp | hp
  ·obtain ⟨t,ht,rfl⟩:=D37 hp
   exact ⟨by dsimp only;omega,by dsimp only;omega,F67 he.1 hi hj (by omega) (by omega) (by omega)⟩
  ·rw [show max i c.Old+c.OldLen=c.Old+c.OldLen by omega,show j+((c.Old - i).toNat:Int)+c.NewLen=c.New+c.NewLen by omega] at hp
   exact E33 r (k0+1) _ _ hs.2 he.2 (by omega) (by omega) p hp
theorem ScFit.pairs {x y:List Str} {l:List Change} (h:ScFit x y l):∀p∈I32 l x.length,EqAt x y p:=E33 l 0 0 0 h.sc h.eq (Int.le_refl _) (Int.le_refl _)
def D02 (c:Change):Change:=⟨c.Old+1,c.OldLen,c.New+1,c.NewLen⟩
def B05 (l:List Change) (k:Nat):List Change:=l.set k (D02 (cAt l k))
def atI (t:List Int) (i:Int):Int:=t.getD i.toNat 0
def H76 (l:List Change) (k:Nat) (t:List Int) (f n:Int):Prop:=(f+n < t.length∧atI t f=atI t (f+n))∧(k+1=l.length∨(cAt l k).Old+(cAt l k).OldLen+1 < (cAt l (k+1)).Old)
instance (l:List Change) (k:Nat) (t:List Int) (f n:Int):Decidable (H76 l k t f n):=by unfold H76;exact inferInstance
def D55 (l:List Change) (a b:List Int) (k:Nat):Bool :=
 if (cAt l k).NewLen=0 then decide (H76 l k a (cAt l k).Old (cAt l k).OldLen) else if (cAt l k).OldLen=0 then decide (H76 l k b (cAt l k).New (cAt l k).NewLen) else false
theorem o4 (l:List Change) (k:Nat):(B05 l k).length=l.length:=by simp [B05]
theorem B77 (l:List Change) {k:Nat} (hk:k < l.length) (q:Nat):cAt (B05 l k) q=if q=k then D02 (cAt l k) else cAt l q:=by
 unfold B05
 by_cases h:q=k
 ·subst h
  have:∀z,cAt (l.set q z) q=z:=fun z=>by unfold cAt;simp [hk]
  rw [if_pos rfl,this]
 ·rw [if_neg h];unfold cAt
  simp only [J20]
  rw [List.getElem?_set_ne (Ne.symm h)]
theorem C69 (l:List Change) {k:Nat} (hk:k < l.length) (q:Nat):eoI 0 (B05 l k) q=eoI 0 l q+(if q=k+1 then 1 else 0):=by
 cases q with
 | zero=>simp [eoI]
 | succ q =>
  rw [B56,B56,B77 l hk]
  by_cases h:q=k
  ·subst h;rw [if_pos rfl,if_pos rfl];simp only [B20,D02];omega
  ·rw [if_neg h,if_neg (by omega)];omega
theorem C70 (l:List Change) {k:Nat} (hk:k < l.length) (q:Nat):enI 0 (B05 l k) q=enI 0 l q+(if q=k+1 then 1 else 0):=by
 cases q with
 | zero=>simp [enI]
 | succ q =>
  rw [B57,B57,B77 l hk]
  by_cases h:q=k
  ·subst h;rw [if_pos rfl,if_pos rfl];simp only [F62,D02];omega
  ·rw [if_neg h,if_neg (by omega)];omega
structure IdsOf (x:List Str) (a:List Int):Prop where
 len:a.length=x.length
 inj:∀(i j:Nat) (u v:Str) (z:Int),x[i]?=some u→x[j]?=some v→a[i]?=some z→a[j]?=some z→u=v
theorem ScFit.down {x y:List Str} {l:List Change} {a b:List Int} (h:ScFit x y l) (ha:IdsOf x a) (hb:IdsOf y b) {k:Nat} (hk:k < l.length) (hd:D55 l a b k=true):ScFit x y (B05 l k):=by
 have hlx:=h.lx
 have hly:=h.ly
 have hg:=A18 _ _ _ 0 0 0 h.sc
 have hge:=H27 _ _ _ 0 0 0 h.sc
 have hq:=F63 _ _ _ _ _ h.eq
 have hqe:=H28 _ _ _ _ _ h.eq
 have hok:=h.ok
 obtain ⟨c,hc⟩:∃c,c=cAt l k:=⟨_,rfl⟩
 obtain ⟨g1,g2,g3,g4,g5,g6,g7,g8⟩:=hg k hk
 have hb4:=hok.get k hk
 rw [←hc] at g1 g2 g3 g4 g5 g6 g7 g8 hb4
 unfold O0 at g1 g2 g3 g4
 have eo1:eoI 0 l (k+1)=c.Old+c.OldLen:=by rw [B56,←hc];rfl
 have en1:enI 0 l (k+1)=c.New+c.NewLen:=by rw [B57,←hc];rfl
 obtain ⟨E,E',hE1,hE2,hE3,hE4,hE5,hEn⟩:∃E E':Int,sub x (c.Old+c.OldLen) E=sub y (c.New+c.NewLen) E'∧E - (c.Old+c.OldLen)=E' - (c.New+c.NewLen)∧E≤x.length∧E'≤y.length∧(c.Old+c.OldLen < E)∧(k+1 < l.length→E=(cAt l (k+1)).Old∧E'=(cAt l (k+1)).New∧c.Old+c.OldLen+1 < E):=by
  by_cases hl:k+1=l.length
  ·rw [←hl,eo1,en1] at hge hqe
   refine ⟨x.length,y.length,hqe,by omega,by omega,by omega,?_,fun q=>absurd hl (by omega)⟩
   unfold D55 at hd
   rw [←hc] at hd
   split at hd
   ·have:=(A0 hd).1.1;rw [ha.len] at this;omega
   ·split at hd
    ·have:=(A0 hd).1.1;rw [hb.len] at this;omega
    ·cases hd
  ·have hl:k+1 < l.length:=by omega
   obtain ⟨f1,f2,f3,f4,f5,f6,f7,f8⟩:=hg (k+1) hl
   have f9:=hq (k+1) hl
   have f10:=hok.get (k+1) hl
   rw [eo1,en1] at f6 f9
   rw [eo1] at f7
   unfold O0 at f2 f4
   have hroom:c.Old+c.OldLen+1 < (cAt l (k+1)).Old:=by
    unfold D55 at hd
    rw [←hc] at hd
    split at hd
    ·have:=(A0 hd).2;rw [←hc] at this;omega
    ·split at hd
     ·have:=(A0 hd).2;rw [←hc] at this;omega
     ·cases hd
   exact ⟨_,_,f9,by omega,by omega,by omega,by omega,fun _=>⟨rfl,rfl,hroom⟩⟩
 have hv:∃v,x[c.Old.toNat]?=some v∧y[c.New.toNat]?=some v:=by
  obtain ⟨v,v1,v2⟩:=F67 (t:=0) hE1 (by omega) (by omega) (by omega) hE2 (by omega)
  simp only [Int.natCast_zero,Int.add_zero] at v1 v2
  unfold D55 at hd
  rw [←hc] at hd
  split at hd
  ·rename_i hn
   have:=(A0 hd).1.2
   rw [hn,Int.add_zero] at v2
   refine ⟨v,?_,v2⟩
   have l1:c.Old.toNat < a.length:=by rw [ha.len];omega
   have l2:(c.Old+c.OldLen).toNat < a.length:=by rw [ha.len];omega
   have hx:x[c.Old.toNat]?=some x[c.Old.toNat]:=J14 (by omega)
   have ea:a[c.Old.toNat]?=some (atI a c.Old):=by unfold atI;rw [J20,J14 l1];rfl
   have eb:a[(c.Old+c.OldLen).toNat]?=some (atI a (c.Old+c.OldLen)):=by unfold atI;rw [J20,J14 l2];rfl
   rw [←this] at eb
   have:=ha.inj _ _ _ _ _ hx v1 ea eb
   rw [hx,this]
  ·split at hd
   ·rename_i _ hn
    have:=(A0 hd).1.2
    rw [hn,Int.add_zero] at v1
    refine ⟨v,v1,?_⟩
    have l1:c.New.toNat < b.length:=by rw [hb.len];omega
    have l2:(c.New+c.NewLen).toNat < b.length:=by rw [hb.len];omega
    have hx:y[c.New.toNat]?=some y[c.New.toNat]:=J14 (by omega)
    have ea:b[c.New.toNat]?=some (atI b c.New):=by unfold atI;rw [J20,J14 l1];rfl
    have eb:b[(c.New+c.NewLen).toNat]?=some (atI b (c.New+c.NewLen)):=by unfold atI;rw [J20,J14 l2];rfl
    rw [←this] at eb
    have:=hb.inj _ _ _ _ _ hx v2 ea eb
    rw [hx,this]
   ·cases hd
 obtain ⟨v,v1,v2⟩:=hv
 have hen0:0≤eoI 0 l k∧0≤enI 0 l k:=by
  cases k with
  | zero=>simp [eoI,enI]
  | succ k =>
   obtain ⟨f1,f2,f3,f4,_⟩:=hg k (by omega)
   unfold O0 at f1 f2 f3 f4
   rw [B56,B57];unfold B20 F62;omega
 have htail:sub x (c.Old+c.OldLen+1) E=sub y (c.New+c.NewLen+1) E':=by
  have:=E24 (e:=E - (c.Old+c.OldLen) - 1) hE1 (by omega) (by omega) (by omega) (by omega) hE2
  rw [show E - (E - (c.Old+c.OldLen) - 1)=c.Old+c.OldLen+1 by omega,show E' - (E - (c.Old+c.OldLen) - 1)=c.New+c.NewLen+1 by omega] at this
  exact this
 refine ⟨hlx,hly,H73 _ _ _ 0 0 0 (fun q hql=>?_) ?_,H74 _ _ _ 0 0 (fun q hql=>?_) ?_⟩
 ·rw [o4] at hql
  rw [B77 l hk,C69 l hk,C70 l hk]
  by_cases e:q=k
  ·rw [if_pos e,if_neg (show ¬q=k+1 by omega),e,←hc]
   unfold O0
   simp only [D02]
   refine ⟨by omega,g2,by omega,g4,g5,by omega,by omega,fun _=>by omega⟩
  ·rw [if_neg e]
   obtain ⟨f1,f2,f3,f4,f5,f6,f7,f8⟩:=hg q hql
   refine ⟨f1,f2,f3,f4,f5,?_,?_,?_⟩
   ·by_cases e2:q=k+1
    ·rw [if_pos e2];omega
    ·rw [if_neg e2];omega
   ·by_cases e2:q=k+1
    ·rw [if_pos e2];have:=f8 (by omega);omega
    ·rw [if_neg e2];omega
   ·intro h0
    by_cases e2:q=k+1
    ·rw [if_pos e2,e2,eo1]
     have:=(hEn (by omega))
     omega
    ·rw [if_neg e2];have:=f8 h0;omega
 ·rw [o4,C69 l hk,C70 l hk]
  by_cases e2:l.length=k+1
  ·rw [if_pos e2,e2,eo1,en1]
   rw [e2,eo1,en1] at hge
   have h1:E≤x.length:=hE3
   omega
  ·rw [if_neg e2];omega
 ·rw [o4] at hql
  rw [B77 l hk,C69 l hk,C70 l hk]
  by_cases e:q=k
  ·rw [if_pos e,if_neg (show ¬q=k+1 by omega),e,←hc]
   simp only [D02,Int.add_zero]
   have:=hq k hk
   rw [←hc] at this
   rw [G40 hen0.1 g7 v1,G40 hen0.2 (by omega) v2,this]
  ·rw [if_neg e]
   by_cases e2:q=k+1
   ·rw [if_pos e2]
    subst e2
    obtain ⟨q1,q2,_⟩:=hEn hql
    rw [eo1,en1,←q1,←q2];exact htail
   ·rw [if_neg e2,Int.add_zero,Int.add_zero]
    exact hq q hql
 ·rw [o4,C69 l hk,C70 l hk]
  by_cases e2:l.length=k+1
  ·rw [if_pos e2]
   rw [e2,eo1,en1] at hqe hge ⊢
   have:=E24 (e:=x.length - (c.Old+c.OldLen) - 1) hqe (by omega) (by omega) (by omega) (by omega) (by omega)
   rw [show (x.length:Int) - (x.length - (c.Old+c.OldLen) - 1)=c.Old+c.OldLen+1 by omega,show (y.length:Int) - (x.length - (c.Old+c.OldLen) - 1)=c.New+c.NewLen+1 by omega] at this
   exact this
  ·rw [if_neg e2,Int.add_zero,Int.add_zero];exact hqe
section
variable {x y:List Str} {a b:List Int} (ha:IdsOf x a) (hb:IdsOf y b)
include ha hb
end
end Go.AL
namespace Go.AL
open Go
structure Made12 (on nn a b:Str) (l:List Change) (ctx:Int):Prop where
 chk:C64 ⟨on,nn,j2 l (K7 a) (K7 b) ctx⟩=0
 wr:(H69 ⟨on,nn,j2 l (K7 a) (K7 b) ctx⟩).length≤16777216
 fit:PFit ⟨on,nn,j2 l (K7 a) (K7 b) ctx⟩
 rg:∀h∈j2 l (K7 a) (K7 b) ctx,(-4611686018427387904≤h.Old∧h.Old≤4611686018427387904)∧(-4611686018427387904≤h.New∧h.New≤4611686018427387904)
 sz:szP (j2 l (K7 a) (K7 b) ctx)≤268435456
end Go.AL
namespace Go.AL
open Go
section
variable {x y:List Str} {l:List Change}
end
end Go.AL
namespace Go.AL
open Go
end Go.AL
namespace Go.AL
open Go
end Go.AL
namespace Go.AL
open Go
theorem check12_good {p:Patch} (h:C64 p=0):C99 p.Hunks=true:=by
 unfold C64 at h
 split at h
 ·cases h
 ·split at h
  ·cases h
  ·rename_i h1;simpa using h1
end Go.AL
namespace Go.AL
open Go
structure CHunk where
 At:List Int
 Rows:List Row
 deriving DecidableEq
structure Comb where
 Path:Str
 Dense:Bool
 Parents:Int
 Hunks:List CHunk
 deriving DecidableEq
def colNum (n k:Nat):Int:=if k=n then -1 else k
def cntC (rows:List Row) (n k:Nat):Int:=(colOf rows (colNum n k)).length
structure CRead (n:Nat) (h:CHunk):Prop where
 len:h.At.length=n+1
 ne:h.Rows≠[]
 at0:∀k,k < n+1→0≤h.At.getD k 0∧h.At.getD k 0+cntC h.Rows n k≤4096
 rows:∀r∈h.Rows,markOk n r=true∧j5 r.Text=true
end Go.AL
namespace Go.AL
open Go
end Go.AL
namespace Go.AL
open Go
theorem getI {l:List Int} {i:Nat} (h:i < l.length):l[i]?=some (l.getD i 0):=by simp [h]
end Go.AL
namespace Go.AL
open Go
end Go.AL
namespace Go.AL
open Go
abbrev w9:Bool→Nat→Cell:=fun b _=>.v (.bool b)
abbrev F68 (l:List Bool):PV:=.one (.list Bool 1 w9 l)
end Go.AL
namespace Go.AL
open Go
def Z7 (l:List Int) (i j:Nat):List Int:=(l.set i (atG l j)).set j (atG l i)
def upH (bf:Int→Int→Bool):Nat→List Int→Nat→List Int
 | 0,l,_=>l
 | f+1,l,j=>if (j - 1) / 2=j∨bf (atG l j) (atG l ((j - 1) / 2))=false then l else upH bf f (Z7 l ((j - 1) / 2) j) ((j - 1) / 2)
def D43 (bf:Int→Int→Bool) (n:Nat) (l:List Int) (i:Nat):Nat:=if 2*i+2 < n∧bf (atG l (2*i+2)) (atG l (2*i+1))=true then 2*i+2 else 2*i+1
def A19 (bf:Int→Int→Bool) (n:Nat):Nat→List Int→Nat→List Int
 | 0,l,_=>l
 | f+1,l,i=>if n≤2*i+1 then l else if bf (atG l (D43 bf n l i)) (atG l i)=false then l else A19 bf n f (Z7 l i (D43 bf n l i)) (D43 bf n l i)
def C71 (bf:Int→Int→Bool) (l:List Int) (x:Int):List Int:=upH bf (l.length+1) (l++[x]) l.length
def C27 (bf:Int→Int→Bool) (l:List Int):List Int:=A19 bf (l.length - 1) l.length (Z7 l 0 (l.length - 1)) 0
theorem N6 (l:List Int) (i j:Nat):(Z7 l i j).length=l.length:=by simp [Z7]
theorem d9 {l:List Int} {i j:Nat} (hi:i < l.length) (hj:j < l.length) (k:Nat):atG (Z7 l i j) k=if k=j then atG l i else if k=i then atG l j else atG l k:=by
 unfold Z7
 rw [A39 (by rw [J39];exact hj),A39 hi]
 simp only [@eq_comm Nat j k,@eq_comm Nat i k]
theorem P2 {l:List Int} {k:Nat} (h:k < l.length):atG l k=l[k]:=by unfold atG;rw [J14 h];rfl
theorem F08 {l:List Int} {i j:Nat} (hi:i < l.length) (hj:j < l.length) (x:Int):x∈Z7 l i j↔x∈l:=by
 have sub:∀{l:List Int} {i j:Nat},i < l.length→j < l.length→∀x,x∈Z7 l i j→x∈l:=by
  intro l i j hi hj x hx
  obtain ⟨k,hk,e⟩:=List.getElem_of_mem hx
  rw [←P2 hk,d9 hi hj] at e
  rw [N6] at hk
  split at e
  ·rw [←e,P2 hi];exact J18 hi
  ·split at e
   ·rw [←e,P2 hj];exact J18 hj
   ·rw [←e,P2 hk];exact J18 hk
 refine ⟨sub hi hj x,fun hx=>?_⟩
 have e:Z7 (Z7 l i j) i j=l:=by
  refine List.ext_getElem (by rw [N6,N6]) fun k h1 h2=>?_
  rw [←P2 h1,←P2 h2,d9 (by rw [N6];exact hi) (by rw [N6];exact hj),d9 hi hj,d9 hi hj,d9 hi hj]
  by_cases h3:k=j
  ·subst h3
   rw [if_pos rfl]
   by_cases h4:i=k
   ·rw [if_pos h4,h4]
   ·rw [if_neg h4,if_pos rfl]
  ·rw [if_neg h3]
   by_cases h4:k=i
   ·rw [if_pos h4,if_pos rfl,h4]
   ·rw [if_neg h4,if_neg h3,if_neg h4]
 exact sub (by rw [N6];exact hi) (by rw [N6];exact hj) x (by rw [e];exact hx)
theorem I83 {l:List Int}:l.Nodup↔∀i j,i < l.length→j < l.length→atG l i=atG l j→i=j:=by
 constructor
 ·intro h i j hi hj e
  rw [P2 hi,P2 hj] at e
  exact (List.getElem_inj h).1 e
 ·intro h
  rw [List.Nodup,List.pairwise_iff_getElem]
  intro i j hi hj hlt e
  have:=h i j hi hj (by rw [P2 hi,P2 hj];exact e)
  omega
theorem G45 {l:List Int} {i j:Nat} (hi:i < l.length) (hj:j < l.length) (h:l.Nodup):(Z7 l i j).Nodup:=by
 rw [I83] at h ⊢
 intro a b ha hb e
 rw [N6] at ha hb
 rw [d9 hi hj,d9 hi hj] at e
 by_cases a1:a=j<;>by_cases b1:b=j
 ·omega
 ·rw [if_pos a1,if_neg b1] at e
  by_cases b2:b=i
  ·rw [if_pos b2] at e;have:=h _ _ hi hj e;omega
  ·rw [if_neg b2] at e;have:=h _ _ hi hb e;omega
 ·rw [if_neg a1,if_pos b1] at e
  by_cases a2:a=i
  ·rw [if_pos a2] at e;have:=h _ _ hj hi e;omega
  ·rw [if_neg a2] at e;have:=h _ _ ha hi e;omega
 ·rw [if_neg a1,if_neg b1] at e
  by_cases a2:a=i<;>by_cases b2:b=i
  ·omega
  ·rw [if_pos a2,if_neg b2] at e;have:=h _ _ hj hb e;omega
  ·rw [if_neg a2,if_pos b2] at e;have:=h _ _ ha hj e;omega
  ·rw [if_neg a2,if_neg b2] at e;exact h _ _ ha hb e
structure SameL (l m:List Int):Prop where
 len:m.length=l.length
 mem:∀x,x∈m↔x∈l
 nodup:l.Nodup→m.Nodup
theorem SameL.refl (l:List Int):SameL l l:=⟨rfl,fun _=>Iff.rfl,id⟩
theorem SameL.trans {a b c:List Int} (h:SameL a b) (h2:SameL b c):SameL a c:=⟨h2.len.trans h.len,fun x=>(h2.mem x).trans (h.mem x),fun hn=>h2.nodup (h.nodup hn)⟩
theorem SameL.swap {l:List Int} {i j:Nat} (hi:i < l.length) (hj:j < l.length):SameL l (Z7 l i j):=⟨N6 l i j,F08 hi hj,G45 hi hj⟩
structure Weak (bf:Int→Int→Bool):Prop where
 irr:∀a,bf a a=false
 asy:∀{a b},bf a b=true→bf b a=false
 ntr:∀{a b c},bf a b=false→bf b c=false→bf a c=false
def C72 (bf:Int→Int→Bool) (n:Nat) (l:List Int):Prop:=∀k,k < n→0 < k→bf (atG l k) (atG l ((k - 1) / 2))=false
theorem I38 {bf:Int→Int→Bool} (w:Weak bf) {n:Nat} {l:List Int} (h:C72 bf n l):∀k,k < n→bf (atG l k) (atG l 0)=false:=by
 intro k
 induction k using Nat.strongRecOn with
 | _ k ih =>
  intro hk
  by_cases h0:k=0
  ·subst h0;exact w.irr _
  ·exact w.ntr (h k hk (by omega)) (ih ((k - 1) / 2) (by omega) (by omega))
theorem G46 {bf:Int→Int→Bool} (w:Weak bf) {n:Nat}:∀(f j:Nat) (l:List Int),j < f→j < n→n≤l.length →
  (∀k,k < n→0 < k→k≠j→bf (atG l k) (atG l ((k - 1) / 2))=false)→(∀k,k < n→0 < k→(k - 1) / 2=j→0 < j→bf (atG l k) (atG l ((j - 1) / 2))=false) →
  C72 bf n (upH bf f l j)∧SameL l (upH bf f l j)
 | 0,j,l,hf,_,_,_,_=>by omega
 | f + 1,j,l,hf,hj,hl,h1,h2=>by
  unfold upH
  split
  ·rename_i h
   refine ⟨fun k hk h0=>?_,SameL.refl l⟩
   by_cases e:k=j
   ·subst e
    rcases h with h | h
    ·omega
    ·exact h
   ·exact h1 k hk h0 e
  ·rename_i h
   have hne:(j - 1) / 2≠j:=fun e=>h (.inl e)
   have hlt:bf (atG l j) (atG l ((j - 1) / 2))=true:=by
    cases hb:bf (atG l j) (atG l ((j - 1) / 2))
    ·exact absurd (.inr hb) h
    ·rfl
   have hi:(j - 1) / 2 < l.length:=by omega
   have hjl:j < l.length:=by omega
   have hsw:=d9 hi hjl
   obtain ⟨a,b⟩:=G46 (n:=n) w f ((j - 1) / 2) (Z7 l ((j - 1) / 2) j) (by omega) (by omega) (by rw [N6];exact hl) (fun k hk h0 hne2=>by
    rw [hsw,hsw]
    by_cases e1:k=j
    ·rw [if_pos e1,e1,if_neg (by omega),if_pos rfl];exact w.asy hlt
    ·rw [if_neg e1,if_neg hne2]
     by_cases e2:(k - 1) / 2=j
     ·rw [if_pos e2];exact h2 k hk h0 e2 (by omega)
     ·rw [if_neg e2]
      by_cases e3:(k - 1) / 2=(j - 1) / 2
      ·rw [if_pos e3]
       have h3:=h1 k hk h0 e1
       rw [e3] at h3
       exact w.ntr h3 (w.asy hlt)
      ·rw [if_neg e3];exact h1 k hk h0 e1) (fun k hk h0 e h3=>by
    rw [hsw,hsw,if_neg (show ¬((j - 1) / 2 - 1) / 2=j by omega),if_neg (show ¬((j - 1) / 2 - 1) / 2=(j - 1) / 2 by omega)]
    have h4:=h1 ((j - 1) / 2) (by omega) h3 (by omega)
    by_cases e1:k=j
    ·rw [if_pos e1];exact h4
    ·rw [if_neg e1,if_neg (by omega)]
     have h5:=h1 k hk h0 e1
     rw [e] at h5
     exact w.ntr h5 h4)
   exact ⟨a,(SameL.swap hi hjl).trans b⟩
theorem G47 {bf:Int→Int→Bool} (w:Weak bf) {l:List Int} (x:Int) (h:C72 bf l.length l):C72 bf (l.length+1) (C71 bf l x)∧SameL (l++[x]) (C71 bf l x):=by
 unfold C71
 have hat:∀k,k < l.length→atG (l++[x]) k=atG l k:=fun k hk=>by unfold atG;rw [J28 hk]
 refine G46 w (n:=l.length+1) (l.length+1) l.length (l++[x]) (by omega) (by omega) (by simp) (fun k hk h0 hne=>?_) (fun k hk h0 e h1=>by omega)
 rw [hat k (by omega),hat _ (by omega)]
 exact h k (by omega) h0
theorem H77 {bf:Int→Int→Bool} {n:Nat} {l:List Int} {i:Nat} (h:2*i+1 < n):D43 bf n l i < n∧(D43 bf n l i - 1) / 2=i∧i < D43 bf n l i:=by
 unfold D43;split<;>omega
theorem I84 {bf:Int→Int→Bool} (w:Weak bf) {n:Nat} {l:List Int} {i k:Nat} (hk:k < n) (h0:0 < k) (e:(k - 1) / 2=i):bf (atG l k) (atG l (D43 bf n l i))=false:=by
 unfold D43
 split
 ·rename_i h
  by_cases e1:k=2*i+2
  ·rw [e1];exact w.irr _
  ·rw [show k=2*i+1 by omega];exact w.asy h.2
 ·rename_i h
  by_cases e1:k=2*i+1
  ·rw [e1];exact w.irr _
  ·have e2:k=2*i+2:=by omega
   rw [e2]
   cases hb:bf (atG l (2*i+2)) (atG l (2*i+1))
   ·rfl
   ·exact absurd ⟨by omega,hb⟩ h
theorem E34 {bf:Int→Int→Bool} (w:Weak bf) {n:Nat}:∀(f i:Nat) (l:List Int),n≤i+f→n≤l.length →
  (∀k,k < n→0 < k→(k - 1) / 2≠i→bf (atG l k) (atG l ((k - 1) / 2))=false)→(∀k,k < n→0 < k→(k - 1) / 2=i→0 < i→bf (atG l k) (atG l ((i - 1) / 2))=false) →
  C72 bf n (A19 bf n f l i)∧SameL l (A19 bf n f l i)∧∀k,n≤k→atG (A19 bf n f l i) k=atG l k
 | 0,i,l,hf,_,h1,h2=>by
  unfold A19
  exact ⟨fun k hk h0=>h1 k hk h0 (by omega),SameL.refl l,fun _ _=>rfl⟩
 | f + 1,i,l,hf,hl,h1,h2=>by
  unfold A19
  split
  ·exact ⟨fun k hk h0=>h1 k hk h0 (by omega),SameL.refl l,fun _ _=>rfl⟩
  ·rename_i hn
   obtain ⟨c1,c2,c3⟩:=H77 (bf:=bf) (l:=l) (show 2*i+1 < n by omega)
   have c4:=fun k hk h0 e=>I84 (bf:=bf) w (n:=n) (l:=l) (i:=i) (k:=k) hk h0 e
   generalize D43 bf n l i=j at c1 c2 c3 c4
   split
   ·rename_i h
    refine ⟨fun k hk h0=>?_,SameL.refl l,fun _ _=>rfl⟩
    by_cases e:(k - 1) / 2=i
    ·rw [e];exact w.ntr (c4 k hk h0 e) h
    ·exact h1 k hk h0 e
   ·rename_i h
    have hlt:bf (atG l j) (atG l i)=true:=by simpa using h
    have hi:i < l.length:=by omega
    have hj:j < l.length:=by omega
    have hsw:=d9 hi hj
    obtain ⟨a,b,c⟩:=E34 (n:=n) w f j (Z7 l i j) (by omega) (by rw [N6];exact hl) (fun k hk h0 hne=>by
     rw [hsw,hsw]
     rw [if_neg (show ¬(k - 1) / 2=j from hne)]
     by_cases e1:k=j
     ·rw [if_pos e1]
      rw [e1,if_pos c2];exact w.asy hlt
     ·rw [if_neg e1]
      by_cases e2:(k - 1) / 2=i
      ·rw [if_pos e2,if_neg (by omega)];exact c4 k hk h0 e2
      ·rw [if_neg e2]
       by_cases e3:k=i
       ·rw [if_pos e3,e3]
        exact h2 j c1 (by omega) c2 (by omega)
       ·rw [if_neg e3];exact h1 k hk h0 e2) (fun k hk h0 e h3=>by
     rw [hsw,hsw,if_neg (by omega),if_neg (by omega),c2,if_neg (by omega),if_pos rfl]
     have:=h1 k hk h0 (by omega)
     rw [e] at this;exact this)
    refine ⟨a,(SameL.swap hi hj).trans b,fun k hk=>?_⟩
    rw [c k hk,hsw,if_neg (by omega),if_neg (by omega)]
theorem popH_ok {bf:Int→Int→Bool} (w:Weak bf) {l:List Int} (h:C72 bf l.length l) (hl:0 < l.length) :
  C72 bf (l.length - 1) (C27 bf l)∧SameL l (C27 bf l)∧atG (C27 bf l) (l.length - 1)=atG l 0:=by
 unfold C27
 have h0:0 < l.length:=hl
 have h1:l.length - 1 < l.length:=by omega
 have hsw:=d9 h0 h1
 obtain ⟨a,b,c⟩:=E34 w (n:=l.length - 1) l.length 0 (Z7 l 0 (l.length - 1)) (by omega) (by rw [N6];omega) (fun k hk hk0 hne=>by
  rw [hsw,hsw,if_neg (by omega),if_neg (by omega),if_neg (by omega),if_neg hne]
  exact h k (by omega) hk0) (fun k hk hk0 e h3=>by omega)
 refine ⟨a,(SameL.swap h0 h1).trans b,?_⟩
 rw [c _ (Nat.le_refl _),hsw,if_pos rfl]
end Go.AL
namespace Go.AL
open Go
def W4 (g:Graph) (c:Nat):Int:=(g[c]?.map (·.Date)).getD 0
def S7 (g:Graph) (a b:Int):Bool:=decide (W4 g a.toNat > W4 g b.toNat∨(W4 g a.toNat=W4 g b.toNat∧a < b))
theorem B78 (g:Graph):Weak (S7 g) where
 irr:=fun a=>by unfold S7;rw [decide_eq_false_iff_not];omega
 asy:=fun {a b} h=>by unfold S7 at h ⊢;rw [decide_eq_true_eq] at h;rw [decide_eq_false_iff_not];omega
 ntr:=fun {a b c} h h2=>by unfold S7 at h h2 ⊢;rw [decide_eq_false_iff_not] at h h2 ⊢;omega
def X6 (g:Graph) (inn:List Bool) (L:List Int) (c:Nat):Bool:=K3 inn c&&decide ((c:Int)∉L)&&(List.range g.length).all fun k=>!(decide ((c:Int)∈E9 g k)&&K3 inn k&&decide ((k:Int)∉L))
def o5 (g:Graph) (inn:List Bool) (L:List Int):Nat→Int
 | 0 => -1
 | m+1=>if X6 g inn L m=true∧(o5 g inn L m < 0∨W4 g m > W4 g (o5 g inn L m).toNat) then m else o5 g inn L m
def A20 (g:Graph) (inn:List Bool) (L:List Int):Int:=o5 g inn L g.length
def B85 (g:Graph) (inn:List Bool):Nat→List Int→List Int
 | 0,L=>L
 | f+1,L=>if A20 g inn L < 0 then L else B85 g inn f (L++[A20 g inn L])
def B06 (g:Graph) (s:List Int):List Int:=B85 g (N1 g s) (g.length+1) []
theorem A82 (g:Graph) (inn:List Bool) (L:List Int):∀m,(o5 g inn L m = -1∧∀c,c < m→X6 g inn L c=false)∨∃b:Nat,b < m∧o5 g inn L m=b∧X6 g inn L b=true∧∀c,c < m→X6 g inn L c=true→c≠b→S7 g b c=true
 | 0=>.inl ⟨rfl,fun _ h=>by omega⟩
 | m + 1=>by
  rw [o5]
  rcases A82 g inn L m with ⟨h1,h2⟩ | ⟨b,h1,h2,h3,h4⟩
  ·rw [h1]
   cases hr:X6 g inn L m
   ·rw [if_neg (by simp)]
    exact .inl ⟨rfl,fun c hc=>by
     by_cases e:c=m
     ·rw [e];exact hr
     ·exact h2 c (by omega)⟩
   ·rw [if_pos ⟨rfl,.inl (by omega)⟩]
    exact .inr ⟨m,by omega,rfl,hr,fun c hc hcr hne=>by rw [h2 c (by omega)] at hcr;cases hcr⟩
  ·rw [h2]
   split
   ·rename_i h
    have hd:W4 g m > W4 g b:=by
     rcases h.2 with h | h
     ·omega
     ·simpa using h
    refine .inr ⟨m,by omega,rfl,h.1,fun c hc hcr hne=>?_⟩
    unfold S7
    rw [decide_eq_true_eq,J16,J16]
    by_cases e:c=b
    ·subst e;exact .inl hd
    ·have:=A0 (h4 c (by omega) hcr e)
     rw [J16,J16] at this
     omega
   ·rename_i h
    refine .inr ⟨b,by omega,rfl,h3,fun c hc hcr hne=>?_⟩
    by_cases e:c=m
    ·subst e
     unfold S7
     rw [decide_eq_true_eq,J16,J16]
     have:¬W4 g c > W4 g b:=fun hd=>h ⟨hcr,.inr (by simpa using hd)⟩
     omega
    ·exact h4 c (by omega) hcr hne
theorem H32 {g:Graph} {inn:List Bool} {L:List Int} (h:∀c,c < g.length→X6 g inn L c=false):A20 g inn L = -1:=by
 rcases A82 g inn L g.length with h1 | ⟨b,h1,_,h3,_⟩
 ·exact h1.1
 ·rw [h b h1] at h3;cases h3
theorem I85 {g:Graph} {inn:List Bool} {L:List Int} {b:Nat} (hb:b < g.length) (hr:X6 g inn L b=true) (h:∀c,c < g.length→X6 g inn L c=true→S7 g c b=false):A20 g inn L=b:=by
 rcases A82 g inn L g.length with h1 | ⟨b',h1,h2,h3,h4⟩
 ·rw [h1.2 b hb] at hr;cases hr
 ·unfold A20
  rw [h2]
  by_cases e:b=b'
  ·rw [e]
  ·have:=h4 b hb hr e
   rw [h b' h1 h3] at this;cases this
theorem F09 {g:Graph} {inn:List Bool} {L:List Int} (h:0≤A20 g inn L):∃b:Nat,b < g.length∧A20 g inn L=b∧K3 inn b=true∧(b:Int)∉L:=by
 rcases A82 g inn L g.length with h1 | ⟨b,h1,h2,h3,_⟩
 ·have:A20 g inn L = -1:=h1.1
  omega
 ·unfold X6 at h3
  rw [J15,J15,decide_eq_true_eq] at h3
  exact ⟨b,h1,h2,h3.1.1,h3.1.2⟩
theorem F10 {g:Graph} {inn:List Bool} {f:Nat} {L:List Int} (hf:0 < f) (h:0≤A20 g inn L):B85 g inn f L=B85 g inn (f - 1) (L++[A20 g inn L]):=by
 obtain ⟨f,rfl⟩:∃k,f=k+1:=⟨f - 1,by omega⟩
 rw [B85,if_neg (by omega)];rfl
theorem G48 {g:Graph} {inn:List Bool} {f:Nat} {L:List Int} (h:A20 g inn L < 0):B85 g inn f L=L:=by
 cases f with
 | zero=>rfl
 | succ f=>rw [B85,if_pos h]
theorem G49 {g:Graph} {inn:List Bool}:∀(f:Nat) (L:List Int),L.Nodup→(∀x∈L,0≤x∧x < g.length)→(B85 g inn f L).Nodup∧∀x∈B85 g inn f L,0≤x∧x < g.length
 | 0,L,h,h2=>⟨h,h2⟩
 | f+1,L,h,h2=>by
  rw [B85]
  split
  ·exact ⟨h,h2⟩
  ·rename_i hb
   obtain ⟨b,b1,b2,_,b4⟩:=F09 (g:=g) (inn:=inn) (L:=L) (by omega)
   rw [b2]
   refine G49 f _ (List.nodup_append.2 ⟨h,by simp,fun x hx y hy e=>by rw [List.mem_singleton.1 hy] at e;exact b4 (e ▸ hx)⟩) fun x hx=>?_
   rcases List.mem_append.1 hx with hx | hx
   ·exact h2 x hx
   ·rw [List.mem_singleton.1 hx];omega
theorem l7 (g:Graph) (s:List Int):(B06 g s).Nodup∧∀x∈B06 g s,0≤x∧x < g.length:=G49 _ [] List.nodup_nil fun _ h=>by cases h
def D03 (g:Graph) (inn:List Bool) (ex:List Int) (p:Nat):Nat:=(List.range g.length).countP fun c:Nat=>K3 inn c&&decide ((c:Int)∉ex∧(p:Int)∈E9 g c)
theorem F11 {g:Graph} {inn:List Bool} {ex:List Int} {x p:Nat} (hx:(x:Int)∉ex) (hlt:x < g.length) (hon:K3 inn x=true):D03 g inn ex p=D03 g inn (ex++[(x:Int)]) p+(if (p:Int)∈E9 g x then 1 else 0):=by
 unfold D03
 rw [C22 (q:=fun c=>K3 inn c&&decide ((c:Int)∉ex∧(p:Int)∈E9 g c)) (r:=fun c=>K3 inn c&&decide ((c:Int)∉ex++[(x:Int)]∧(p:Int)∈E9 g c)) x (fun y=>?_) List.nodup_range]
 ·congr 1
  simp only [List.mem_range,hlt,true_and,decide_eq_true_eq,hx,not_false_eq_true,hon,Bool.true_and]
 ·simp only [J38,List.mem_singleton]
  by_cases h1:(y:Int)∈ex<;>by_cases h2:y=x<;>by_cases h3:(p:Int)∈E9 g y<;>cases K3 inn y<;>simp [h1,h2,h3]<;>omega
theorem I39 {g:Graph} {inn:List Bool} {ex:List Int} {p:Nat}:D03 g inn ex p=0↔∀c,c < g.length→K3 inn c=true→(p:Int)∈E9 g c→(c:Int)∈ex:=by
 unfold D03
 rw [List.countP_eq_zero]
 constructor
 ·intro h c hc ho hp
  have:=h c (List.mem_range.2 hc)
  rw [ho,Bool.true_and,decide_eq_true_eq] at this
  apply Classical.byContradiction
  exact fun hn=>this ⟨hn,hp⟩
 ·intro h c hc hh
  rw [J15,decide_eq_true_eq] at hh
  exact hh.2.1 (h c (List.mem_range.1 hc) hh.1 hh.2.2)
theorem F69 (g:Graph) (inn:List Bool) (ex:List Int) (p:Nat):D03 g inn ex p≤g.length:=by
 unfold D03
 have:=List.countP_le_length (p:=fun c=>K3 inn c&&decide ((c:Int)∉ex∧(p:Int)∈E9 g c)) (l:=List.range g.length)
 rwa [J45] at this
structure OInv (g:Graph) (inn:List Bool) (k i:Nat) (ch hp out:List Int):Prop where
 len:ch.length=g.length
 cnt:∀p,p < g.length→K3 inn p=true→atG ch p+(if (p:Int)∈(E9 g (out.getD k 0).toNat).take i then 1 else 0)=D03 g inn (out.take k) p
 off:∀p,p < g.length→K3 inn p=false→atG ch p = -1
 hpm:∀p:Nat,(p:Int)∈hp↔p < g.length∧K3 inn p=true∧(p:Int)∉out∧atG ch p=0
 hpr:∀x∈hp,0≤x∧x < g.length
 hpn:hp.Nodup
 heap:C72 (S7 g) hp.length hp
 outn:out.Nodup
 outr:∀x∈out,0≤x∧x < g.length∧K3 inn x.toNat=true∧atG ch x.toNat=0
theorem OInv.ready {g:Graph} {inn:List Bool} {ch hp out:List Int} (h:OInv g inn out.length 0 ch hp out) {c:Nat} (hc:c < g.length):X6 g inn out c=true↔(c:Int)∈hp:=by
 rw [h.hpm]
 unfold X6
 rw [J15,J15,decide_eq_true_eq,List.all_eq_true]
 have key:K3 inn c=true→((∀x∈List.range g.length,(!(decide ((c:Int)∈E9 g x)&&K3 inn x&&decide ((x:Int)∉out)))=true)↔atG ch c=0):=by
  intro ho
  have h1:=h.cnt c hc ho
  rw [J22,List.take_zero,if_neg (by simp)] at h1
  have h2:=I39 (g:=g) (inn:=inn) (ex:=out) (p:=c)
  constructor
  ·intro hall
   have:D03 g inn out c=0:=h2.2 fun k hk hok hp=>by
    have:=hall k (List.mem_range.2 hk)
    simpa [hp,hok] using this
   omega
  ·intro h0 k hk
   cases hok:K3 inn k
   ·simp
   ·by_cases hp:(c:Int)∈E9 g k
    ·have:=h2.1 (by omega) k (List.mem_range.1 hk) hok hp
     simp [hp,this]
    ·simp [hp]
 constructor
 ·rintro ⟨⟨h1,h2⟩,h3⟩;exact ⟨hc,h1,h2,(key h1).1 h3⟩
 ·rintro ⟨_,h1,h2,h3⟩;exact ⟨⟨h1,h2⟩,(key h1).2 h3⟩
theorem OInv.fin {g:Graph} {inn:List Bool} {ch out:List Int} (h:OInv g inn out.length 0 ch [] out):A20 g inn out = -1 :=
 H32 fun c hc=>by
  cases hr:X6 g inn out c
  ·rfl
  ·have:=(h.ready hc).1 hr;cases this
theorem OInv.le {g:Graph} {inn:List Bool} {k i:Nat} {ch hp out:List Int} (h:OInv g inn k i ch hp out):out.length≤g.length∧hp.length≤g.length :=
 ⟨X9 h.outn fun x hx=>⟨(h.outr x hx).1,(h.outr x hx).2.1⟩,X9 h.hpn h.hpr⟩
theorem I40 {l m:List Int} {n:Nat} (hn:n+1=l.length) (hs:SameL l m) (hnd:l.Nodup) {x:Int} (hx:atG m n=x):(∀y,y∈m.take n↔y∈l∧y≠x)∧(m.take n).Nodup∧(m.take n).length=n:=by
 have hml:m.length=n+1:=by rw [hs.len,hn]
 have hmn:=hs.nodup hnd
 have hlt:n < m.length:=by omega
 have e:m=m.take n++[x]:=by
  have h1:m.take (n+1)=m:=J40 (by omega)
  rw [List.take_add_one,J14 hlt,Option.toList_some] at h1
  rw [P2 hlt] at hx
  rw [hx] at h1
  exact h1.symm
 have hnd2:=hmn
 rw [e,List.nodup_append] at hnd2
 refine ⟨fun y=>?_,hnd2.1,by rw [J24];omega⟩
 rw [←hs.mem y]
 constructor
 ·intro hy
  exact ⟨List.mem_of_mem_take hy,hnd2.2.2 y hy x (by simp)⟩
 ·rintro ⟨hy,hne⟩
  rw [e] at hy
  rcases List.mem_append.1 hy with hy | hy
  ·exact hy
  ·exact absurd (List.mem_singleton.1 hy) hne
theorem OInv.pop {g:Graph} {inn:List Bool} {ch hp out:List Int} (h:OInv g inn out.length 0 ch hp out) (h0:0 < hp.length) :
  A20 g inn out=atG hp 0∧OInv g inn out.length 0 ch ((C27 (S7 g) hp).take (hp.length - 1)) (out++[atG hp 0])∧atG (C27 (S7 g) hp) (hp.length - 1)=atG hp 0:=by
 have hm:atG hp 0∈hp:=by rw [P2 h0];exact J18 h0
 have hr:=h.hpr _ hm
 obtain ⟨c,hc⟩:∃c:Nat,atG hp 0=c:=⟨(atG hp 0).toNat,by omega⟩
 have hm2:=(h.hpm c).1 (by rw [←hc];exact hm)
 obtain ⟨p1,p2,p3⟩:=popH_ok (B78 g) h.heap h0
 obtain ⟨t1,t2,t3⟩:=I40 (n:=hp.length - 1) (by omega) p2 h.hpn p3
 have hb:A20 g inn out=c:=I85 hm2.1 ((h.ready hm2.1).2 (by rw [←hc];exact hm)) fun d hd hdr=>by
  obtain ⟨j,hj,e⟩:=List.getElem_of_mem ((h.ready hd).1 hdr)
  have:=I38 (B78 g) h.heap j hj
  rw [P2 hj,e,hc] at this
  exact this
 refine ⟨by rw [hb,hc],?_,p3⟩
 rw [hc] at t1 ⊢
 refine ⟨h.len,fun p hp ho=>?_,h.off,fun p=>?_,fun x hx=>h.hpr x ((t1 x).1 hx).1,t2,?_,?_,?_⟩
 ·have h1:=h.cnt p hp ho
  rw [List.take_zero,if_neg (by simp)] at h1 ⊢
  rw [v7 (Nat.le_refl _)]
  exact h1
 ·rw [t1,h.hpm,J38,List.mem_singleton,not_or]
  constructor
  ·rintro ⟨⟨a1,a2,a3,a4⟩,a5⟩;exact ⟨a1,a2,⟨a3,a5⟩,a4⟩
  ·rintro ⟨a1,a2,⟨a3,a5⟩,a4⟩;exact ⟨⟨a1,a2,a3,a4⟩,a5⟩
 ·rw [t3]
  intro k hk hk0
  have e:∀j,j < hp.length - 1→atG ((C27 (S7 g) hp).take (hp.length - 1)) j=atG (C27 (S7 g) hp) j:=fun j hj=>by
   unfold atG;rw [List.getElem?_take,if_pos hj]
  rw [e k hk,e _ (by omega)]
  exact p1 k hk hk0
 ·exact List.nodup_append.2 ⟨h.outn,by simp,fun x hx y hy e=>by rw [List.mem_singleton.1 hy] at e;exact hm2.2.2.1 (e ▸ hx)⟩
 ·intro x hx
  rcases List.mem_append.1 hx with hx | hx
  ·exact h.outr x hx
  ·rw [List.mem_singleton.1 hx,J16];exact ⟨by omega,by omega,hm2.2.1,hm2.2.2.2⟩
theorem OInv.step {g:Graph} {inn:List Bool} (hr:related g=true) (hcl:A38 g inn) {k i:Nat} {ch hp out:List Int} (h:OInv g inn k i ch hp out) (hk:k+1=out.length) {c p:Nat} (hc:out[k]?=some (c:Int)) (hi:i < (E9 g c).length) (hpp:(E9 g c)[i]=(p:Int)) :
  p < g.length∧1≤atG ch p∧atG ch p≤g.length∧hp.length < g.length∧OInv g inn k (i+1) (W8 ch p) (if atG ch p - 1=0 then C71 (S7 g) hp p else hp) out:=by
 have hkl:k < out.length:=by omega
 have hc:out[k]=(c:Int):=by rw [J14 hkl] at hc;exact Option.some.inj hc
 have hpr:=J4 hr c
 have hpm:(p:Int)∈E9 g c:=by rw [←hpp];exact J18 hi
 have hplt:p < g.length:=by have:=hpr.1 p hpm;omega
 have hco:=h.outr out[k] (J18 hkl)
 rw [hc,J16] at hco
 have hclt:c < g.length:=by omega
 have hon:K3 inn p=true:=by have:=hcl c hco.2.2.1 p hpm;rwa [J16] at this
 have hg0:out.getD k 0=(c:Int):=by rw [J20,J14 hkl];exact hc
 have hnt:(c:Int)∉out.take k:=by rw [←hc];exact X5 h.outn hkl
 have hnp:(p:Int)∉(E9 g c).take i:=by rw [←hpp];exact X5 hpr.2 hi
 have h1:=h.cnt p hplt hon
 rw [hg0,J16,if_neg hnp] at h1
 have h2:=F11 (g:=g) (inn:=inn) (ex:=out.take k) (x:=c) (p:=p) hnt hclt hco.2.2.1
 rw [if_pos hpm] at h2
 have hle:=F69 g inn (out.take k) p
 have hge:1≤atG ch p:=by omega
 have hnout:(p:Int)∉out:=fun hm=>by have:=(h.outr _ hm).2.2.2;rw [J16] at this;omega
 have hnhp:(p:Int)∉hp:=fun hm=>by have:=((h.hpm p).1 hm).2.2.2;omega
 have hst:∀q,atG (W8 ch p) q=if p=q then atG ch p - 1 else atG ch q:=fun q=>by
  unfold W8
  rw [J16,A39 (by rw [h.len];exact hplt)]
 have hlen:hp.length < g.length:=by
  have:=X9 (l:=(c:Int)::hp) (n:=g.length) (List.nodup_cons.2 ⟨fun hm=>((h.hpm c).1 hm).2.2.1 (by rw [←hc];exact J18 hkl),h.hpn⟩) fun x hx=>by
   rcases List.mem_cons.1 hx with rfl | hx
   ·omega
   ·exact h.hpr x hx
  rw [J17] at this;omega
 obtain ⟨u1,u2⟩:=G47 (B78 g) (p:Int) h.heap
 refine ⟨hplt,hge,by omega,hlen,⟨by unfold W8;rw [J39];exact h.len,?_,?_,?_,?_,?_,?_,h.outn,?_⟩⟩
 ·intro q hq ho
  rw [hg0,J16,hst q]
  by_cases e:p=q
  ·subst e
   rw [if_pos rfl,if_pos ((S0 hi).2 (.inr hpp.symm))];omega
  ·rw [if_neg e]
   have h3:=h.cnt q hq ho
   rw [hg0,J16] at h3
   have h4:((q:Int)∈(E9 g c).take (i+1))↔(q:Int)∈(E9 g c).take i:=by
    rw [S0 hi,hpp]
    exact ⟨fun h=>h.resolve_right (by omega),.inl⟩
   simp only [h4]
   exact h3
 ·intro q hq ho
  rw [hst q,if_neg (fun e=>by rw [e,ho] at hon;cases hon)]
  exact h.off q hq ho
 ·intro q
  rw [hst q]
  by_cases e:p=q
  ·subst e
   rw [if_pos rfl]
   split
   ·rename_i h0
    rw [u2.mem]
    exact ⟨fun _=>⟨hplt,hon,hnout,h0⟩,fun _=>by simp⟩
   ·rename_i h0
    exact ⟨fun hm=>absurd hm hnhp,fun hm=>absurd hm.2.2.2 h0⟩
  ·rw [if_neg e,←h.hpm q]
   split
   ·rw [u2.mem,J38,List.mem_singleton]
    exact ⟨fun hm=>hm.resolve_right (by omega),.inl⟩
   ·exact Iff.rfl
 ·intro x hx
  split at hx
  ·rw [u2.mem,J38,List.mem_singleton] at hx
   rcases hx with hx | rfl
   ·exact h.hpr x hx
   ·omega
  ·exact h.hpr x hx
 ·split
  ·exact u2.nodup (List.nodup_append.2 ⟨h.hpn,by simp,fun x hx y hy e=>by rw [List.mem_singleton.1 hy] at e;exact hnhp (e ▸ hx)⟩)
  ·exact h.hpn
 ·split
  ·rw [u2.len,J19,List.length_singleton];exact u1
  ·exact h.heap
 ·intro x hx
  have h3:=h.outr x hx
  refine ⟨h3.1,h3.2.1,h3.2.2.1,?_⟩
  rw [hst,if_neg (fun e=>hnout (by rw [show ((p:Nat):Int)=x by omega];exact hx))]
  exact h3.2.2.2
theorem OInv.next {g:Graph} {inn:List Bool} {k:Nat} {ch hp out:List Int} (hk:k+1=out.length) {c:Nat} (hc:out[k]?=some (c:Int)) (h:OInv g inn k (E9 g c).length ch hp out):OInv g inn out.length 0 ch hp out:=by
 refine { h with cnt:=fun p hp ho=>?_ }
 have hkl:k < out.length:=by omega
 have hc:out[k]=(c:Int):=by rw [J14 hkl] at hc;exact Option.some.inj hc
 have h1:=h.cnt p hp ho
 have hg0:out.getD k 0=(c:Int):=by rw [J20,J14 hkl];exact hc
 have hco:=h.outr out[k] (J18 hkl)
 rw [hc,J16] at hco
 rw [hg0,J16,J22] at h1
 have h2:=F11 (g:=g) (inn:=inn) (ex:=out.take k) (x:=c) (p:=p) (by rw [←hc];exact X5 h.outn hkl) (by omega) hco.2.2.1
 have e:out.take (k+1)=out.take k++[(c:Int)]:=by rw [List.take_add_one,J14 hkl,Option.toList_some,hc]
 rw [←hk,e,List.take_zero,if_neg (by simp)]
 split at h1
 ·rename_i hm;rw [if_pos hm] at h2;omega
 ·rename_i hm;rw [if_neg hm] at h2;omega
structure HInv (g:Graph) (ch hp:List Int) (i:Nat):Prop where
 mem:∀p:Nat,(p:Int)∈hp↔p < i∧atG ch p=0
 rng:∀x∈hp,0≤x∧x < i
 nodup:hp.Nodup
 heap:C72 (S7 g) hp.length hp
theorem HInv.nil (g:Graph) (ch:List Int):HInv g ch [] 0:=⟨fun p=>by simp,(fun _ h=>by cases h),List.nodup_nil,fun k hk=>by simp at hk⟩
theorem HInv.le {g:Graph} {ch hp:List Int} {i:Nat} (h:HInv g ch hp i):hp.length≤i:=X9 h.nodup h.rng
theorem HInv.step {g:Graph} {ch hp:List Int} {i:Nat} (h:HInv g ch hp i):HInv g ch (if atG ch i=0 then C71 (S7 g) hp (i:Int) else hp) (i+1):=by
 obtain ⟨u1,u2⟩:=G47 (B78 g) (i:Int) h.heap
 split
 ·rename_i h0
  refine ⟨fun p=>?_,fun x hx=>?_,u2.nodup (List.nodup_append.2 ⟨h.nodup,by simp,fun x hx y hy e=>by rw [List.mem_singleton.1 hy] at e;have:=h.rng x hx;omega⟩),by rw [u2.len,J19,List.length_singleton];exact u1⟩
  ·rw [u2.mem,J38,List.mem_singleton,h.mem]
   constructor
   ·rintro (⟨a,b⟩ | e)
    ·exact ⟨by omega,b⟩
    ·have e:p=i:=by omega
     subst e;exact ⟨by omega,h0⟩
   ·rintro ⟨a,b⟩
    by_cases e:p=i
    ·right;omega
    ·exact .inl ⟨by omega,b⟩
  ·rw [u2.mem,J38,List.mem_singleton] at hx
   rcases hx with hx | rfl
   ·have:=h.rng x hx;omega
   ·omega
 ·rename_i h0
  refine ⟨fun p=>?_,fun x hx=>by have:=h.rng x hx;omega,h.nodup,h.heap⟩
  rw [h.mem]
  constructor
  ·rintro ⟨a,b⟩;exact ⟨by omega,b⟩
  ·rintro ⟨a,b⟩
   refine ⟨?_,b⟩
   apply Classical.byContradiction
   intro hn
   have:p=i:=by omega
   subst this;exact h0 b
def cntD (g:Graph) (D:List Int) (p:Nat):Nat:=D.countP fun x=>decide ((p:Int)∈E9 g x.toNat)
structure DInv (g:Graph) (inn:List Bool) (st:List Int) (k i:Nat) (ch opn D:List Int):Prop where
 len:ch.length=g.length
 nodup:(D++opn).Nodup
 on:∀x∈D++opn,0≤x∧x < g.length∧K3 inn x.toNat=true
 cnt:∀p:Nat,(p:Int)∈D++opn→atG ch p=cntD g (D.take k) p+(if (p:Int)∈(E9 g (D.getD k 0).toNat).take i then 1 else 0)
 off:∀p,p < g.length→(p:Int)∉D++opn→atG ch p = -1
 clo:∀x∈D.take k,∀p∈E9 g x.toNat,p∈D++opn
 clo2:∀p∈(E9 g (D.getD k 0).toNat).take i,p∈D++opn
 sts:∀f∈st,f∈D++opn
theorem DInv.start (g:Graph) (inn:List Bool):DInv g inn [] 0 0 (List.replicate g.length (-1)) [] [] where
 len:=by simp
 nodup:=List.nodup_nil
 on:=fun _ h=>by cases h
 cnt:=fun _ h=>by cases h
 off:=fun p hp _=>by unfold atG;rw [List.getElem?_replicate,if_pos hp];rfl
 clo:=fun _ h=>by cases h
 clo2:=fun _ h=>by simp at h
 sts:=fun _ h=>by cases h
theorem DInv.le {g:Graph} {inn:List Bool} {st:List Int} {k i:Nat} {ch opn D:List Int} (h:DInv g inn st k i ch opn D):D.length+opn.length≤g.length:=by
 have:=X9 h.nodup fun x hx=>⟨(h.on x hx).1,(h.on x hx).2.1⟩
 rwa [J19] at this
theorem DInv.mem {g:Graph} {inn:List Bool} {st:List Int} {k i:Nat} {ch opn D:List Int} (h:DInv g inn st k i ch opn D) {p:Nat} (hp:p < g.length):atG ch p < 0↔(p:Int)∉D++opn:=by
 by_cases hm:(p:Int)∈D++opn
 ·have:=h.cnt p hm
  constructor
  ·intro hl;split at this<;>omega
  ·exact fun hn=>absurd hm hn
 ·have:=h.off p hp hm
  exact ⟨fun _=>hm,fun _=>by omega⟩
theorem DInv.reach {g:Graph} {inn:List Bool} {st:List Int} {k i:Nat} {ch opn D:List Int} (h:DInv g inn st k i ch opn D) (_hk:k≤D.length) {p:Nat} (hp:p < g.length) (ho:K3 inn p=true) (st':List Int) (hst:∀f∈st',f∈st∨f=p) :
  DInv g inn st' k i (if atG ch p < 0 then ch.set p 0 else ch) (if atG ch p < 0 then opn++[(p:Int)] else opn) D∧(p:Int)∈D++(if atG ch p < 0 then opn++[(p:Int)] else opn):=by
 split
 ·rename_i hl
  have hnm:=(h.mem hp).1 hl
  refine ⟨⟨by rw [J39];exact h.len,?_,?_,?_,?_,?_,?_,?_⟩,by simp⟩
  ·rw [←J26]
   exact List.nodup_append.2 ⟨h.nodup,by simp,fun x hx y hy e=>by rw [List.mem_singleton.1 hy] at e;exact hnm (e ▸ hx)⟩
  ·intro x hx
   rw [←J26] at hx
   rcases List.mem_append.1 hx with hx | hx
   ·exact h.on x hx
   ·rw [List.mem_singleton.1 hx,J16];exact ⟨by omega,by omega,ho⟩
  ·intro q hq
   rw [A39 (by rw [h.len];exact hp)]
   by_cases e:p=q
   ·subst e
    rw [if_pos rfl,if_neg (fun hm=>hnm (h.clo2 _ hm))]
    have:cntD g (D.take k) p=0:=by
     unfold cntD
     rw [List.countP_eq_zero]
     intro x hx hm
     exact hnm (h.clo x hx _ (A0 hm))
    rw [this];rfl
   ·rw [if_neg e]
    rw [←J26] at hq
    rcases List.mem_append.1 hq with hq | hq
    ·exact h.cnt q hq
    ·exact absurd (List.mem_singleton.1 hq) (by omega)
  ·intro q hq hn
   rw [←J26,J38,not_or,List.mem_singleton] at hn
   rw [A39 (by rw [h.len];exact hp),if_neg (by omega)]
   exact h.off q hq hn.1
  ·intro x hx q hq
   rw [←J26];exact List.mem_append_left _ (h.clo x hx q hq)
  ·intro q hq
   rw [←J26];exact List.mem_append_left _ (h.clo2 q hq)
  ·intro f hf
   rw [←J26]
   rcases hst f hf with hf | rfl
   ·exact List.mem_append_left _ (h.sts f hf)
   ·simp
 ·rename_i hl
  have hm:(p:Int)∈D++opn:=by
   apply Classical.byContradiction
   intro hn;exact hl ((h.mem hp).2 hn)
  refine ⟨{ h with sts:=fun f hf=>?_ },hm⟩
  rcases hst f hf with hf | rfl
  ·exact h.sts f hf
  ·exact hm
theorem DInv.count {g:Graph} {inn:List Bool} {st:List Int} {k i:Nat} {ch opn D:List Int} (h:DInv g inn st k i ch opn D) {c p:Nat} (hr:related g=true) (hc:D.getD k 0=(c:Int)) (hi:i < (E9 g c).length) (hpp:(E9 g c)[i]=(p:Int)) (hm:(p:Int)∈D++opn) :
  0≤atG ch p∧atG ch p≤g.length∧DInv g inn st k (i+1) (bump ch p) opn D:=by
 have hpr:=J4 hr c
 have hplt:p < g.length:=by have:=hpr.1 p (by rw [←hpp];exact J18 hi);omega
 have h1:=h.cnt p hm
 have hnp:(p:Int)∉(E9 g c).take i:=by rw [←hpp];exact X5 hpr.2 hi
 rw [hc,J16,if_neg hnp] at h1
 have hle:cntD g (D.take k) p≤g.length:=by
  unfold cntD
  have h2:=List.countP_le_length (p:=fun x:Int=>decide ((p:Int)∈E9 g x.toNat)) (l:=D.take k)
  rw [J24] at h2
  have:=h.le;omega
 have hst:∀q,atG (bump ch p) q=if p=q then atG ch p+1 else atG ch q:=fun q=>by
  unfold bump
  rw [J16,A39 (by rw [h.len];exact hplt)]
 refine ⟨by omega,by omega,{ h with len:=by unfold bump;rw [J39];exact h.len,cnt:=fun q hq=>?_,off:=fun q hq hn=>?_,clo2:=fun q hq=>?_ }⟩
 ·rw [hst q,hc,J16]
  by_cases e:p=q
  ·subst e
   rw [if_pos rfl,if_pos ((S0 hi).2 (.inr hpp.symm))];omega
  ·rw [if_neg e]
   have h3:=h.cnt q hq
   rw [hc,J16] at h3
   have h4:((q:Int)∈(E9 g c).take (i+1))↔(q:Int)∈(E9 g c).take i:=by
    rw [S0 hi,hpp]
    exact ⟨fun h=>h.resolve_right (by omega),.inl⟩
   simp only [h4]
   exact h3
 ·rw [hst q,if_neg (show ¬p=q from fun e=>hn (by rw [←e];exact hm))]
  exact h.off q hq hn
 ·rw [hc,J16] at hq
  rcases (S0 hi).1 hq with hq | rfl
  ·exact h.clo2 q (by rw [hc,J16];exact hq)
  ·rw [hpp];exact hm
theorem DInv.pop {g:Graph} {inn:List Bool} {st:List Int} {ch opn D:List Int} {c:Int} (h:DInv g inn st D.length 0 ch (opn++[c]) D):DInv g inn st D.length 0 ch opn (D++[c]):=by
 have hmem:∀x,x∈(D++[c])++opn↔x∈D++(opn++[c]):=fun x=>by
  simp only [J38,List.mem_singleton]
  constructor
  ·rintro ((h | h) | h)
   ·exact .inl h
   ·exact .inr (.inr h)
   ·exact .inr (.inl h)
  ·rintro (h | h | h)
   ·exact .inl (.inl h)
   ·exact .inr h
   ·exact .inl (.inr h)
 have ht:(D++[c]).take D.length=D:=by rw [v7 (Nat.le_refl _),J22]
 refine ⟨h.len,?_,fun x hx=>h.on x ((hmem x).1 hx),fun p hp=>?_,fun p hp hn=>h.off p hp fun hm=>hn ((hmem _).2 hm),fun x hx p hp=>?_,fun p hp=>by simp at hp,fun f hf=>(hmem f).2 (h.sts f hf)⟩
 ·have h1:=h.nodup
  rw [List.nodup_append,List.nodup_append] at h1
  rw [J26,List.nodup_append,List.nodup_append]
  refine ⟨h1.1,⟨by simp,h1.2.1.1,fun x hx y hy e=>?_⟩,fun x hx y hy=>?_⟩
  ·exact h1.2.1.2.2 y hy x hx e.symm
  ·refine h1.2.2 x hx y ?_
   rcases List.mem_append.1 hy with hy | hy
   ·exact List.mem_append_right _ hy
   ·exact List.mem_append_left _ hy
 ·have h1:=h.cnt p ((hmem _).1 hp)
  rw [List.take_zero,if_neg (by simp),J22] at h1
  rw [ht,List.take_zero,if_neg (by simp)]
  exact h1
 ·rw [ht] at hx
  exact (hmem p).2 (h.clo x (by rw [J22];exact hx) p hp)
theorem DInv.next {g:Graph} {inn:List Bool} {st:List Int} {k:Nat} {ch opn D:List Int} {c:Nat} (hk:k+1=D.length) (hc:D.getD k 0=(c:Int)) (h:DInv g inn st k (E9 g c).length ch opn D):DInv g inn st D.length 0 ch opn D:=by
 have hkl:k < D.length:=by omega
 have hc2:D[k]?=some (c:Int):=by
  rw [J20,J14 hkl] at hc
  rw [J14 hkl];exact congrArg some hc
 have e:D.take D.length=D.take k++[(c:Int)]:=by rw [←hk,List.take_add_one,hc2,Option.toList_some]
 refine { h with cnt:=fun p hp=>?_,clo:=fun x hx p hp=>?_,clo2:=fun p hp=>by simp at hp }
 ·have h1:=h.cnt p hp
  rw [hc,J16,J22] at h1
  rw [List.take_zero,if_neg (show ¬(p:Int)∈([]:List Int) by simp),h1,e]
  unfold cntD
  rw [List.countP_append,List.countP_singleton,J16]
  by_cases hm:(p:Int)∈E9 g c<;>simp [hm]
 ·rw [e] at hx
  rcases List.mem_append.1 hx with hx | hx
  ·exact h.clo x hx p hp
  ·rw [List.mem_singleton.1 hx,J16] at hp
   exact h.clo2 p (by rw [hc,J16,J22];exact hp)
theorem G50 {q:Int→Bool} {l m:List Int} (hl:l.Nodup) (hm:m.Nodup) (h:∀x,x∈l↔x∈m):l.countP q=m.countP q:=by
 rw [List.countP_eq_length_filter,List.countP_eq_length_filter]
 have key:∀{l m:List Int},l.Nodup→(∀x,x∈l↔x∈m)→(l.filter q).length≤(m.filter q).length:=fun hl h =>
  B72 (hl.filter _) fun x hx=>by
   rw [List.mem_filter] at hx ⊢
   exact ⟨(h x).1 hx.1,hx.2⟩
 have h1:=key hl h
 have h2:=key hm fun x=>(h x).symm
 omega
theorem DInv.fin {g:Graph} {s ch D:List Int} (hr:related g=true) (hs:∀f∈s,0≤f∧f < g.length) (h:DInv g (N1 g s) s D.length 0 ch [] D) :
  ∀p,p < g.length→atG ch p=if K3 (N1 g s) p=true then (D03 g (N1 g s) [] p:Int) else -1:=by
 have hiff:∀p:Nat,K3 (N1 g s) p=true↔(p:Int)∈D:=by
  intro p
  constructor
  ·intro ho
   obtain ⟨f,hf,h2⟩:=(B75 hr hs p).1 ho
   clear ho
   have h0:(f:Int)∈D:=by simpa using h.sts f hf
   have hcl:∀x:Nat,(x:Int)∈D→∀q:Nat,(q:Int)∈E9 g x→(q:Int)∈D:=fun x hx q hq=>by
    have:=h.clo x (by rw [J22];exact hx) q (by rw [J16];exact hq)
    simpa using this
   rcases h2 with rfl | h2
   ·exact h0
   ·induction h2 with
    | one h=>exact hcl _ h0 _ h
    | more _ h2 ih=>exact hcl _ ih _ h2
  ·intro hm
   have:=(h.on p (by simpa using hm)).2.2
   rwa [J16] at this
 intro p hp
 split
 ·rename_i ho
  have h1:=h.cnt p (by simpa using (hiff p).1 ho)
  rw [J22,List.take_zero,if_neg (by simp)] at h1
  rw [h1,Int.add_zero]
  congr 1
  have hD:D.Nodup:=by have:=h.nodup;rwa [J43] at this
  have h2:∀x∈D,0≤x∧x < g.length:=fun x hx=>by
   have:=h.on x (by simpa using hx);exact ⟨this.1,this.2.1⟩
  unfold cntD D03
  have e:(List.range g.length).countP (fun c=>K3 (N1 g s) c&&decide ((c:Int)∉([]:List Int)∧(p:Int)∈E9 g c))=(((List.range g.length).filter fun c=>K3 (N1 g s) c).map fun c:Nat=>(c:Int)).countP fun x=>decide ((p:Int)∈E9 g x.toNat):=by
   rw [List.countP_map,List.countP_filter]
   refine List.countP_congr fun c _=>?_
   simp only [List.not_mem_nil,not_false_eq_true,true_and,Function.comp_def,J16,J15,decide_eq_true_eq]
   exact And.comm
  rw [e]
  refine G50 hD ((List.nodup_range.filter _).map (fun i:Nat=>(i:Int)) fun _ _ hne e=>hne (Int.ofNat.inj e)) fun x=>?_
  rw [List.mem_map]
  constructor
  ·intro hx
   have:=h2 x hx
   refine ⟨x.toNat,List.mem_filter.2 ⟨List.mem_range.2 (by omega),(hiff _).2 (by rw [Int.toNat_of_nonneg this.1];exact hx)⟩,by omega⟩
  ·rintro ⟨c,hc,rfl⟩
   exact (hiff c).1 (List.mem_filter.1 hc).2
 ·rename_i ho
  exact h.off p hp fun hm=>ho ((hiff p).2 (by simpa using hm))
theorem OInv.start {g:Graph} {inn:List Bool} {ch hp:List Int} (hl:ch.length=g.length) (_hin:inn.length=g.length) (hc:∀p,p < g.length→atG ch p=if K3 inn p=true then (D03 g inn [] p:Int) else -1) (h:HInv g ch hp g.length):OInv g inn 0 0 ch hp [] where
 len:=hl
 cnt:=fun p hp ho=>by rw [hc p hp,if_pos ho,List.take_zero,List.take_zero];simp
 off:=fun p hp ho=>by rw [hc p hp,ho];rfl
 hpm:=fun p=>by
  rw [h.mem]
  constructor
  ·rintro ⟨a,b⟩
   refine ⟨a,?_,by simp,b⟩
   cases ho:K3 inn p
   ·rw [hc p a,ho] at b;simp at b
   ·rfl
  ·rintro ⟨a,_,_,b⟩;exact ⟨a,b⟩
 hpr:=h.rng
 hpn:=h.nodup
 heap:=h.heap
 outn:=List.nodup_nil
 outr:=fun _ h=>by cases h
end Go.AL
namespace Go.AL
open Go
def P1 (nd s:Str) (p:Nat):Option Nat:=if nd=[]∨p > s.length∨Lib.index (s.drop p) nd < 0 then none else some (p+(Lib.index (s.drop p) nd).toNat)
def y1 (nd s:Str):Nat→Nat→List Int→List Int
 | 0,_,out=>out
 | f+1,p,out=>match P1 nd s p with
  | none=>out
  | some i=>y1 nd s f (i+nd.length) (out++[(i:Int)])
def U7 (nd s:Str):List Int:=y1 nd s (s.length+2) 0 []
def U8 (nd s:Str):Int:=(U7 nd s).length
theorem x1 {nd s:Str} {p i:Nat} (h:P1 nd s p=some i):nd≠[]∧p≤s.length∧p≤i∧i+nd.length≤s.length:=by
 unfold P1 at h
 split at h
 ·cases h
 ·rename_i hn
  simp only [not_or] at hn
  have h1:=Lib.index_room (s.drop p) nd (by omega)
  rw [J27] at h1
  have e:=Option.some.inj h
  exact ⟨hn.1,by omega,by omega,by omega⟩
theorem B07 {nd s:Str} {f p i:Nat} {out:List Int} (hf:s.length < f+p) (h:P1 nd s p=some i):y1 nd s f p out=y1 nd s (f - 1) (i+nd.length) (out++[(i:Int)]):=by
 have:=x1 h
 obtain ⟨f,rfl⟩:∃k,f=k+1:=⟨f - 1,by omega⟩
 rw [y1,h];rfl
theorem A02 {nd s:Str} {f p:Nat} {out:List Int} (h:P1 nd s p=none):y1 nd s f p out=out:=by
 cases f with
 | zero=>rfl
 | succ f=>rw [y1,h]
theorem C28 {nd s:Str}:∀(f f' p:Nat) (out:List Int),s.length < f+p→s.length < f'+p→y1 nd s f p out=y1 nd s f' p out
 | 0,f',p,out,h,_=>by
  have:P1 nd s p=none:=by
   cases hn:P1 nd s p with
   | none=>rfl
   | some i=>have:=x1 hn;omega
  rw [A02 this,A02 this]
 | f+1,f',p,out,h,h'=>by
  cases hn:P1 nd s p with
  | none=>rw [A02 hn,A02 hn]
  | some i =>
   have hr:=x1 hn
   have hl:0 < nd.length:=List.length_pos_iff.2 hr.1
   rw [B07 h hn,B07 h' hn]
   exact C28 f (f' - 1) _ _ (by omega) (by omega)
def A42 (nd s:Str) (i:Nat):Bool:=decide (nd≠[]∧i+nd.length≤s.length∧(s.drop i).take nd.length=nd)
theorem C29 {nd s:Str} (hn:nd≠[]) (i:Nat):A42 nd s i=Lib.occAt s nd i:=by
 unfold A42 Lib.occAt
 have key:∀(a b:Str),a.isPrefixOf b=decide (a.length≤b.length∧b.take a.length=a):=by
  intro a
  induction a with
  | nil=>intro b;simp
  | cons x r ih =>
   intro b
   cases b with
   | nil=>simp
   | cons y t =>
    rw [List.isPrefixOf_cons_cons,ih]
    by_cases e:x=y
    ·subst e;simp
    ·have:¬y=x:=fun h=>e h.symm
     simp [e,this]
 rw [key,J27]
 have hl:0 < nd.length:=List.length_pos_iff.2 hn
 by_cases h:i+nd.length≤s.length
 ·simp only [hn,ne_eq,not_false_eq_true,h,true_and,show nd.length≤s.length - i by omega]
 ·simp only [h,false_and,and_false,decide_false,show ¬nd.length≤s.length - i by omega]
theorem G51 {nd s:Str} {p:Nat} (h:∀i,p≤i→i≤s.length→A42 nd s i=false):P1 nd s p=none:=by
 unfold P1
 split
 ·rfl
 ·rename_i hn
  simp only [not_or] at hn
  exfalso
  rcases Lib.index_spec (s.drop p) nd with ⟨h1,_⟩ | ⟨i,h1,h2,h3,_⟩
  ·omega
  ·rw [J27] at h2
   have:=h (p+i) (by omega) (by omega)
   rw [C29 hn.1] at this
   unfold Lib.occAt at this h3
   rw [List.drop_drop] at h3
   rw [this] at h3;cases h3
theorem G52 {nd s:Str} {p i:Nat} (hp:p≤i) (ho:A42 nd s i=true) (h:∀j,p≤j→j < i→A42 nd s j=false):P1 nd s p=some i:=by
 have ho2:=A0 ho
 have hl:0 < nd.length:=List.length_pos_iff.2 ho2.1
 have hidx:Lib.index (s.drop p) nd=(i - p:Nat):=by
  rw [C29 ho2.1] at ho
  refine Lib.index_first (by rw [J27];omega) ?_ fun j hj=>?_
  ·unfold Lib.occAt at ho ⊢
   rw [List.drop_drop,show p+(i - p)=i by omega];exact ho
  ·have:=h (p+j) (by omega) (by omega)
   rw [C29 ho2.1] at this
   unfold Lib.occAt at this ⊢
   rw [List.drop_drop];exact this
 unfold P1
 rw [if_neg (by rw [hidx];simp only [not_or];exact ⟨ho2.1,by omega,by omega⟩),hidx,J16]
 congr 1;omega
theorem f0 (nd s:Str):(U7 nd s).length≤s.length+2:=by
 have key:∀(f p:Nat) (out:List Int),(y1 nd s f p out).length≤out.length+f:=by
  intro f
  induction f with
  | zero=>intro p out;exact Nat.le_refl _
  | succ f ih =>
   intro p out
   rw [y1]
   split
   ·omega
   ·rename_i i _
    have:=ih (i+nd.length) (out++[(i:Int)])
    rw [J19,List.length_singleton] at this
    omega
 have:=key (s.length+2) 0 []
 unfold U7
 simpa using this
def R6 (g:Graph) (c:Nat):List File:=(g[c]?.map (·.Files)).getD []
def N9 (g:Graph) (c:Nat):List (List File):=if E9 g c=[] then [[]] else (E9 g c).map fun p=>R6 g p.toNat
def A43 (l:List File) (p:Str):Str:=(J1 l p).getD []
def H33 (t u:List File) (d:Delta):Str × Str:=(A43 t d.Path,A43 u d.Path)
def z7 (t u:List File):List (Str × Str):=(R1 t u).map (H33 t u)
def K5 (g:Graph) (c:Nat):List (List (Str × Str)):=(N9 g c).map fun t=>z7 t (R6 g c)
def differs (nd:Str) (x:Str × Str):Bool:=decide (U8 nd x.1≠U8 nd x.2)
def P3 (f:Str × Str→Bool) (g:Graph) (c:Nat):Bool:=(K5 g c).any fun l=>l.any f
def U9 (g:Graph) (c:Int):Prop:=0≤c∧c < g.length
instance (g:Graph) (c:Int):Decidable (U9 g c):=inferInstanceAs (Decidable (_∧_))
def M8 (g:Graph) (s:Int):List Int × Int:=if J0 g≠0 then ([],J0 g) else if U9 g s then (B06 g [s],0) else ([],5)
def T3 (f:Str × Str→Bool) (g:Graph) (s:Int):List Int × Int:=if (M8 g s).2≠0 then ([],(M8 g s).2) else ((M8 g s).1.filter fun c=>P3 f g c.toNat,0)
def O8 (g:Graph) (s:Int) (nd:Str):List Int × Int:=if nd=[] then ([],2) else if nd.length > 256 then ([],1) else T3 (differs nd) g s
def S2 (nd:Str) (l:List (Str × Str)):Int:=(l.map fun x=>U8 nd x.2 - U8 nd x.1).sum
def T6 (g:Graph) (c:Int):Int:=if J0 g≠0 then J0 g else if U9 g c then 0 else 5
def O7 (g:Graph) (c:Int) (nd:Str):List Int × Int:=if T6 g c≠0 then ([],T6 g c) else ((K5 g c.toNat).map (S2 nd),0)
def o9:Str × Str→Nat→Cell:=fun x j=>match j with
 | 0=>.v (.string ⟨x.1.toArray⟩)
 | _=>.v (.string ⟨x.2.toArray⟩)
abbrev Y5:List (Str × Str)→Nat→Cell:=fun l _=>.list (Str × Str) 2 o9 l
abbrev pPairs (l:List (Str × Str)):PV:=.one (.list (Str × Str) 2 o9 l)
abbrev C73 (l:List (List (Str × Str))):PV:=.one (.list (List (Str × Str)) 1 Y5 l)
end Go.AL
namespace Go.AL
open Go
structure Set4 where
 a:Int
 b:Int
 c:Int
 d:Int
 deriving DecidableEq
def orI (x y:Int):Int:=((x.toNat ||| y.toNat:Nat):Int)
def set0:Set4:=⟨0,0,0,0⟩
def Set4.with_ (s:Set4) (c:Nat):Set4:=match c / 64 with
 | 0=>{ s with a:=orI s.a (2 ^ (c % 64)) }
 | 1=>{ s with b:=orI s.b (2 ^ (c % 64)) }
 | 2=>{ s with c:=orI s.c (2 ^ (c % 64)) }
 | _=>{ s with d:=orI s.d (2 ^ (c % 64)) }
def F12:Nat→Nat→Set4→Set4
 | 0,_,s=>s
 | n+1,c,s=>F12 n (c+1) (s.with_ c)
def Set4.through (s:Set4) (a b:Nat):Set4:=F12 (b+1 - a) a s
def Set4.compl (s:Set4):Set4:=⟨18446744073709551615 - s.a,18446744073709551615 - s.b,18446744073709551615 - s.c,18446744073709551615 - s.d⟩
def namedS (s:Set4) (name:Str):Option Set4 :=
 if name=[97,108,112,104,97] then some ((s.through 97 122).through 65 90)
 else if name=[100,105,103,105,116] then some (s.through 48 57)
 else if name=[97,108,110,117,109] then some (((s.through 97 122).through 65 90).through 48 57)
 else if name=[117,112,112,101,114] then some (s.through 65 90)
 else if name=[108,111,119,101,114] then some (s.through 97 122)
 else if name=[115,112,97,99,101] then some ((s.through 9 13).with_ 32)
 else if name=[112,117,110,99,116] then some ((((s.through 33 47).through 58 64).through 91 96).through 123 126)
 else none
structure Node where
 Kind:Int
 Set:Set4
 Min:Int
 Max:Int
 Kids:List Int
 deriving DecidableEq
def B17:Node→Nat→Cell:=fun n j=>match j with
 | 0=>.v (.int .i64 n.Kind)
 | 1=>.v (.int .u64 n.Set.a)
 | 2=>.v (.int .u64 n.Set.b)
 | 3=>.v (.int .u64 n.Set.c)
 | 4=>.v (.int .u64 n.Set.d)
 | 5=>.v (.int .i64 n.Min)
 | 6=>.v (.int .i64 n.Max)
 | _=>.list Int 1 E3 n.Kids
abbrev H78 (s:Set4):PV:=.agg [.v (.int .u64 s.a),.v (.int .u64 s.b),.v (.int .u64 s.c),.v (.int .u64 s.d)]
abbrev D38 (n:Node):PV:=.agg [.v (.int .i64 n.Kind),.v (.int .u64 n.Set.a),.v (.int .u64 n.Set.b),.v (.int .u64 n.Set.c),.v (.int .u64 n.Set.d),.v (.int .i64 n.Min),.v (.int .i64 n.Max),.list Int 1 E3 n.Kids]
abbrev B59 (l:List Node):PV:=.one (.list Node 8 B17 l)
def C02:Node:=⟨0,set0,0,0,[]⟩
structure PSt where
 at_:Nat
 depth:Nat
 nodes:List Node
abbrev Ps (α:Type):=Except Int (PSt × α)
section
variable (s:Str)
def E35 (c:UInt8) (st:PSt):Bool:=decide (s[st.at_]?=some c)
def PSt.skip (st:PSt) (n:Nat):PSt:={ st with at_:=st.at_+n }
def hasSt (c:UInt8) (st:PSt):PSt:=if E35 s c st=true then st.skip 1 else st
def takeP (st:PSt):Ps UInt8:=match s[st.at_]? with
 | none=>.error 40
 | some c=>.ok (st.skip 1,c)
def addP (n:Node) (st:PSt):PSt × Int:=({ st with nodes:=st.nodes++[n] },st.nodes.length)
def H34 (kind:Int) (kids:List Int) (st:PSt):PSt × Int:=match kids with
 | []=>addP C02 st
 | [k]=>(st,k)
 | _=>addP { C02 with Kind:=kind,Kids:=kids } st
def setP (t:Set4) (st:PSt):PSt × Int:=addP { C02 with Kind:=1,Set:=t } st
def starts2 (a b:UInt8) (l:Str):Bool:=decide (l[0]?=some a∧l[1]?=some b)
def itemP (t:Set4) (st:PSt):Ps Set4 :=
 let rest:=s.drop st.at_
 if starts2 91 58 rest=true then
  let r:=rest.drop 2
  if Lib.index r [58,93] < 0 then .error 40
  else match namedS t (r.take (Lib.index r [58,93]).toNat) with
   | none=>.error 40
   | some t'=>.ok (st.skip (4+(Lib.index r [58,93]).toNat),t')
 else match s[st.at_]? with
  | none=>.error 40
  | some c =>
   let r:=s.drop (st.at_+1)
   if r.length < 2∨r[0]?≠some 45∨r[1]?=some 93 then .ok (st.skip 1,t.with_ c.toNat)
   else if (r.getD 1 0).toNat < c.toNat then .error 40
   else .ok (st.skip 3,t.through c.toNat (r.getD 1 0).toNat)
def itemsP:Nat→Set4→PSt→Ps Set4
 | 0,_,_=>.error 0
 | f+1,t,st=>if E35 s 93 st=true then .ok (st.skip 1,t) else match itemP s t st with
  | .error e=>.error e
  | .ok (st',t')=>itemsP f t' st'
def classP (f:Nat) (st:PSt):Ps Int :=
 let st1:=st.skip 1
 let st2:=hasSt s 94 st1
 match itemP s set0 st2 with
 | .error e=>.error e
 | .ok (st3,t)=>match itemsP s f t st3 with
  | .error e=>.error e
  | .ok (st4,t')=>.ok (setP (if E35 s 94 st1=true then t'.compl else t') st4)
def H79 (kind:Int) (st:PSt):Ps Int :=
 let r:=addP { C02 with Kind:=kind } (st.skip 1)
 match s[r.1.at_]? with
 | some c=>if c∈([42,43,63,123]:Str) then .error 40 else .ok r
 | none=>.ok r
def numP (num:Str→Nat→Option (Int × Nat)) (st:PSt):Ps Int:=match num s st.at_ with
 | none=>.error 40
 | some (n,e)=>if n > 100 then .error 40 else .ok ({ st with at_:=e },n)
def boundsP (num:Str→Nat→Option (Int × Nat)) (st:PSt):Ps (Int × Int):=match numP s num st with
 | .error e=>.error e
 | .ok (st1,least) =>
  let fin:=fun (st:PSt) (most:Int)=>(if E35 s 125 st=false∨(0≤most∧most < least) then .error 40 else .ok (st.skip 1,(least,most)):Ps (Int × Int))
  if E35 s 44 st1=true then
   let st2:=st1.skip 1
   match s[st2.at_]? with
   | none=>fin st2 (-1)
   | some c=>if c=125 then fin st2 (-1) else match numP s num st2 with
    | .error e=>.error e
    | .ok (st3,most)=>fin st3 most
  else fin st1 least
def quantP (num:Str→Nat→Option (Int × Nat)) (st:PSt):Ps (Option (Int × Int)) :=
 if E35 s 42 st=true then .ok (st.skip 1,some (0,-1))
 else if E35 s 43 st=true then .ok (st.skip 1,some (1,-1))
 else if E35 s 63 st=true then .ok (st.skip 1,some (0,1))
 else if E35 s 123 st=true then match boundsP s num (st.skip 1) with
  | .error e=>.error e
  | .ok (st',b)=>.ok (st',some b)
 else .ok (st,none)
def H80 (st:PSt):Ps Int:=match takeP s st with
 | .error e=>.error e
 | .ok (st',c)=>.ok (setP (set0.with_ c.toNat) st')
def escapeP (st:PSt):Ps Int:=H80 s (st.skip 1)
def anyP (st:PSt):PSt × Int:=setP set0.compl (st.skip 1)
def C74 (num:Str→Nat→Option (Int × Nat)) (r:Ps Int):Ps Int:=match r with
 | .error e=>.error e
 | .ok (st,atom)=>match quantP s num st with
  | .error e=>.error e
  | .ok (st',none)=>.ok (st',atom)
  | .ok (st',some (least,most))=>.ok (addP { C02 with Kind:=6,Min:=least,Max:=most,Kids:=[atom] } st')
mutual
def patP (num:Str→Nat→Option (Int × Nat)):Nat→PSt→Ps Int
 | 0,_=>.error 0
 | f+1,st=>match altP num f st [] with
  | .error e=>.error e
  | .ok (st',k)=>H81 num f st' [k]
def H81 (num:Str→Nat→Option (Int × Nat)):Nat→PSt→List Int→Ps Int
 | 0,_,_=>.error 0
 | f+1,st,kids=>if E35 s 124 st=true then match altP num f (st.skip 1) [] with
   | .error e=>.error e
   | .ok (st',k)=>H81 num f st' (kids++[k])
  else .ok (H34 5 kids st)
def altP (num:Str→Nat→Option (Int × Nat)):Nat→PSt→List Int→Ps Int
 | 0,_,_=>.error 0
 | f+1,st,kids=>match s[st.at_]? with
  | none=>.ok (H34 4 kids st)
  | some c=>if c=124∨c=41 then .ok (H34 4 kids st) else match pieceP num f st c with
   | .error e=>.error e
   | .ok (st',k)=>altP num f st' (kids++[k])
def pieceP (num:Str→Nat→Option (Int × Nat)):Nat→PSt→UInt8→Ps Int
 | 0,_,_=>.error 0
 | f+1,st,c =>
  if c=94 then H79 s 2 st
  else if c=36 then H79 s 3 st
  else if c=40 then C74 s num (parenP num f st)
  else if c=91 then C74 s num (classP s (s.length+2) st)
  else if c=46 then C74 s num (.ok (anyP st))
  else if c=92 then C74 s num (escapeP s st)
  else if c∈([42,43,63,123]:Str) then .error 40
  else C74 s num (H80 s st)
def parenP (num:Str→Nat→Option (Int × Nat)):Nat→PSt→Ps Int
 | 0,_=>.error 0
 | f+1,st=>if st.depth=50 then .error 1 else match patP num f { st with at_:=st.at_+1,depth:=st.depth+1 } with
  | .error e=>.error e
  | .ok (st',n)=>if E35 s 41 st'=true then .ok ({ st' with at_:=st'.at_+1,depth:=st'.depth - 1 },n) else .error 40
end
end
def C03 (a b:Int):Int:=if b < a then b else a
def sumW (w:List Int):Int→List Int→Int
 | acc,[]=>acc
 | acc,k::r=>sumW w (C03 (acc+atG w k.toNat) 4001) r
def D56 (n:Node) (w:List Int):Int :=
 let sum:=sumW w 0 n.Kids
 if n.Kind=4 then sum
 else if n.Kind=5 then C03 (sum+n.Kids.length - 1) 4001
 else if n.Kind=6 then (if n.Max < 0 then C03 (n.Min*sum+sum+1) 4001 else C03 (n.Min*sum+(n.Max - n.Min)*(sum+1)) 4001)
 else 1
def F13:List Node→Nat→List Int→List Int
 | [],_,w=>w
 | n::r,i,w=>F13 r (i+1) (w.set i (D56 n w))
structure State where
 Kind:Int
 Set:Set4
 Next:Int
 Other:Int
 deriving DecidableEq
def Z8:State→Nat→Cell:=fun n j=>match j with
 | 0=>.v (.int .i64 n.Kind)
 | 1=>.v (.int .u64 n.Set.a)
 | 2=>.v (.int .u64 n.Set.b)
 | 3=>.v (.int .u64 n.Set.c)
 | 4=>.v (.int .u64 n.Set.d)
 | 5=>.v (.int .i64 n.Next)
 | _=>.v (.int .i64 n.Other)
structure Auto where
 States:List State
 Start:Int
 deriving DecidableEq
abbrev H35 (n:State):PV:=.agg [.v (.int .i64 n.Kind),.v (.int .u64 n.Set.a),.v (.int .u64 n.Set.b),.v (.int .u64 n.Set.c),.v (.int .u64 n.Set.d),.v (.int .i64 n.Next),.v (.int .i64 n.Other)]
abbrev H82 (l:List State):PV:=.one (.list State 7 Z8 l)
abbrev C75 (a:Auto):PV:=.agg [.list State 7 Z8 a.States,.v (.int .i64 a.Start)]
def c6:State:=⟨0,set0,0,0⟩
abbrev Bld:=List State × Int
def addS (q:State) (st:List State):Bld:=(st++[q],st.length)
section
variable (ns:List Node) (w:List Int)
mutual
def D04:Nat→Int→Int→List State→Option Bld
 | 0,_,_,_=>none
 | f + 1,i,next,st =>
  if atG w i.toNat=0 then some (st,next)
  else
   let n:=ns.getD i.toNat C02
   if n.Kind=1 then some (addS { c6 with Kind:=0,Set:=n.Set,Next:=next } st)
   else if n.Kind=2 then some (addS { c6 with Kind:=2,Next:=next } st)
   else if n.Kind=3 then some (addS { c6 with Kind:=3,Next:=next } st)
   else if n.Kind=4 then catB f n.Kids.reverse next st
   else if n.Kind=5 then match n.Kids.reverse with
    | []=>none
    | k::r=>match D04 f k next st with
     | none=>none
     | some (st',start)=>altB f r next start st'
   else if n.Kind=6 then
    let kid:=n.Kids.getD 0 0
    if n.Max < 0 then
     let loop:Int:=st.length
     match D04 f kid loop (st++[{ c6 with Kind:=1,Other:=next }]) with
     | none=>none
     | some (st',start)=>minB f kid n.Min.toNat loop (st'.set loop.toNat { (st'.getD loop.toNat c6) with Next:=start })
    else match maxB f kid (n.Max - n.Min).toNat next next st with
     | none=>none
     | some (st',next')=>minB f kid n.Min.toNat next' st'
   else some (st,next)
def catB:Nat→List Int→Int→List State→Option Bld
 | 0,_,_,_=>none
 | _+1,[],next,st=>some (st,next)
 | f+1,k::r,next,st=>match D04 f k next st with
  | none=>none
  | some (st',next')=>catB f r next' st'
def altB:Nat→List Int→Int→Int→List State→Option Bld
 | 0,_,_,_,_=>none
 | _+1,[],_,start,st=>some (st,start)
 | f+1,k::r,next,start,st=>match D04 f k next st with
  | none=>none
  | some (st',b)=>altB f r next st'.length (st'++[{ c6 with Kind:=1,Next:=b,Other:=start }])
def maxB:Nat→Int→Nat→Int→Int→List State→Option Bld
 | 0,_,_,_,_,_=>none
 | _+1,_,0,_,next,st=>some (st,next)
 | f+1,kid,m+1,last,next,st=>match D04 f kid next st with
  | none=>none
  | some (st',b)=>maxB f kid m last st'.length (st'++[{ c6 with Kind:=1,Next:=b,Other:=last }])
def minB:Nat→Int→Nat→Int→List State→Option Bld
 | 0,_,_,_,_=>none
 | _+1,_,0,next,st=>some (st,next)
 | f+1,kid,m+1,next,st=>match D04 f kid next st with
  | none=>none
  | some (st',next')=>minB f kid m next' st'
end
end
end Go.AL
namespace Go.AL
open Go
def o6 (q:State) (start fin:Bool):List Int :=
 if q.Kind=1 then [q.Next,q.Other] else if q.Kind=2 then (if start=true then [q.Next] else []) else if q.Kind=3 then (if fin=true then [q.Next] else []) else []
structure Thread where
 state:Int
 from_:Int
 deriving DecidableEq
def a8:Thread→Nat→Cell:=fun t j=>match j with
 | 0=>.v (.int .i64 t.state)
 | _=>.v (.int .i64 t.from_)
section
variable (a:Auto) (s:Str)
def D05 (i:Int):State:=a.States.getD i.toNat c6
def A03:List Thread→Int
 | [] => -1
 | t::r=>if (D05 a t.state).Kind=4 then t.from_ else A03 r
end
end Go.AL
namespace Go.AL
open Go
end Go.AL
