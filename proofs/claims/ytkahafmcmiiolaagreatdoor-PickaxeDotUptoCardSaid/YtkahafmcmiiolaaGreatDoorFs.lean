/- Plain facts about data; no project text. -/
import Derived.Test.YtkahafmcmiiolaaGreatDoorD
import Derived.Lib.Strings
import Derived.Lib.Bytealg
import Derived.Lib.Join
import Derived.Lib.ItoaNum
import Derived.Test.YtkahafmcmiiolaaGreatDoorAn
import Derived.Lib.IndexMore
set_option linter.unusedSimpArgs false
namespace Go.AL
open Go
theorem u8_lf (c:UInt8):((c.toNat:Int)=10)↔c=10:=by
 constructor
 ·intro h
  have:c.toNat=10:=by omega
  exact UInt8.toNat_inj.1 (by simpa using this)
 ·rintro rfl;rfl
def J3 (cur:Str):Str→List Str
 | []=>if cur=[] then [] else [cur]
 | c::r=>if c=10 then (cur++[c])::J3 [] r else J3 (cur++[c]) r
def F1 (b:Str):List Str:=J3 [] b
theorem B67 (cur:Str) (s:Str):(J3 cur s).length≤s.length+1:=by
 induction s generalizing cur with
 | nil=>unfold J3;split<;>simp
 | cons c r ih=>unfold J3;split<;>simp<;>(have:=ih [];have:=ih (cur++[c]);omega)
theorem C35 (s:Str):(J3 [] s).length≤s.length:=by
 have key:∀(s cur:Str),cur≠[]→(J3 cur s).length≤s.length+1:=fun s cur _=>B67 cur s
 induction s with
 | nil=>simp [J3]
 | cons c r ih=>unfold J3;split<;>simp<;>(have:=B67 ([]++[c]) r;simp at this;omega)
theorem B98 (b:Str):(F1 b).length≤b.length:=C35 b
theorem A96 (cur r:Str) (c:UInt8):J3 cur (c::r)=if c=10 then (cur++[c])::J3 [] r else J3 (cur++[c]) r:=rfl
theorem G65 (cur:Str) (h:cur≠[]):J3 cur []=[cur]:=by simp [J3,h]
theorem or_pick {p q:Prop} [Decidable p] [Decidable q]:(if decide p=true then true else decide q)=decide (p∨q):=by by_cases p<;>simp [*]
theorem and_pick {p q:Prop} [Decidable p] [Decidable q]:(if decide p=true then decide q else false)=decide (p∧q):=by by_cases p<;>simp [*]
theorem A69 {α:Type} (l:List (List α)) (i:Nat) (h:i < l.length):(l.take (i+1)).flatten=(l.take i).flatten++l[i]:=by
 rw [List.take_add_one,K82 h,Option.toList_some,L20];simp
theorem B68 {α:Type} (l:List (List α)) (i:Nat):(l.take i).flatten.length≤l.flatten.length:=by
 conv=>rhs;rw [←L21 i l,L20,K86]
 omega
theorem I79 (i:Nat):((i:Int)+1).toNat=i+1:=by omega
theorem F97 {α:Type} (b:List α) (f i:Nat) (hf:f≤i) (hi:i < b.length):(b.drop f).take (i - f)++[b[i]]=(b.drop f).take (i+1 - f):=by
 rw [show i+1 - f=(i - f)+1 by omega,List.take_add_one,L23,show f+(i - f)=i by omega,K82 hi]
 rfl
def ended (s:Str):Bool:=s.getLast? == some 10
def N8:List Str→Str→Int→Int
 | [],_,_ => -1
 | x::r,s,i=>if x=s then i else N8 r s (i+1)
def l8 (s:Str):Bool:=s.dropLast.all (·≠10)&&s != []
def M2 (b:Str):Int:=if b.length > 1048576∨(F1 b).length > 4096 then 1 else 0
def O0 (out:List Str) (s:Str):List Str:=if s∈out then out else out++[s]
def H5 (files:List (List Str)):List Str:=files.flatten.foldl O0 []
def N0 (names:List Str) (file:List Str):List Int:=file.map (fun s=>N8 names s 0)
theorem D59 (out:List Str) (s:Str):(O0 out s).length≤out.length+1:=by unfold O0;split<;>simp
theorem C75 (l out:List Str):(l.foldl O0 out).length≤out.length+l.length:=by
 induction l generalizing out with
 | nil=>simp
 | cons s r ih=>have h1:=ih (O0 out s);have h2:=D59 out s;simp only [L12,K87];omega
theorem F02 (fs:List (List Str)):(H5 fs).length≤fs.flatten.length:=by have:=C75 fs.flatten [];simpa [H5] using this
end Go.AL
namespace Go.AL
open Go
structure File where
 Path:Str
 Blob:Str
 deriving DecidableEq
structure Delta where
 Path:Str
 Kind:Int
 deriving DecidableEq
structure Commit where
 Parents:List Int
 Date:Int
 Files:List File
 deriving DecidableEq
def S7:File→Nat→Cell:=fun f j=>match j with
 | 0=>.v (.string ⟨f.Path.toArray⟩)
 | _=>.v (.string ⟨f.Blob.toArray⟩)
def B46:Delta→Nat→Cell:=fun d j=>match j with
 | 0=>.v (.string ⟨d.Path.toArray⟩)
 | _=>.v (.int .i64 d.Kind)
def G6:Commit→Nat→Cell:=fun c j=>match j with
 | 0=>.list Int 1 E4 c.Parents
 | 1=>.v (.int .i64 c.Date)
 | _=>.list File 2 S7 c.Files
abbrev q9:List File→Nat→Cell:=fun l _=>.list File 2 S7 l
abbrev r5:List Delta→Nat→Cell:=fun l _=>.list Delta 2 B46 l
abbrev J23 (f:File):PV:=.agg [.v (.string ⟨f.Path.toArray⟩),.v (.string ⟨f.Blob.toArray⟩)]
abbrev pDelta (d:Delta):PV:=.agg [.v (.string ⟨d.Path.toArray⟩),.v (.int .i64 d.Kind)]
abbrev D11 (c:Commit):PV:=.agg [.list Int 1 E4 c.Parents,.v (.int .i64 c.Date),.list File 2 S7 c.Files]
abbrev U9 (l:List File):PV:=.one (.list File 2 S7 l)
abbrev G66 (l:List Delta):PV:=.one (.list Delta 2 B46 l)
abbrev J8 (l:List Commit):PV:=.one (.list Commit 3 G6 l)
abbrev C25 (l:List (List File)):PV:=.one (.list (List File) 1 q9 l)
theorem A20 (a b:Bool):(if a=true then b else false)=(a&&b):=by cases a<;>rfl
theorem F03 (a b:Bool):(if a=true then true else b)=(a||b):=by cases a<;>rfl
abbrev ltS (a b:Str):Bool:=Op.bytesLess a b
theorem J24 (a:Str):ltS a []=false:=by cases a<;>rfl
theorem B16 (a b:UInt8) (x y:Str):ltS (a::x) (b::y)=(decide (a < b)||(a == b&&ltS x y)):=rfl
theorem a8:∀a:Str,ltS a a=false
 | []=>rfl
 | c::r=>by
  rw [B16,a8 r]
  have:¬c < c:=by rw [UInt8.lt_iff_toNat_lt];omega
  simp [this]
theorem w8:∀{a b c:Str},ltS a b=true→ltS b c=true→ltS a c=true
 | _,[],_,h,_=>by rw [J24] at h;cases h
 | _,_::_,[],_,h=>by rw [J24] at h;cases h
 | [],_::_,_::_,_,_=>rfl
 | a::x,b::y,c::z,h1,h2=>by
  rw [B16,L02,K83,decide_eq_true_eq,UInt8.lt_iff_toNat_lt,beq_iff_eq] at h1 h2
  rw [B16,L02,K83,decide_eq_true_eq,UInt8.lt_iff_toNat_lt,beq_iff_eq]
  rcases h1 with h1 | ⟨rfl,h1⟩
  ·rcases h2 with h2 | ⟨rfl,h2⟩
   ·left;omega
   ·left;omega
  ·rcases h2 with h2 | ⟨rfl,h2⟩
   ·left;omega
   ·right;exact ⟨rfl,w8 h1 h2⟩
theorem C26:∀{a b:Str},ltS a b=false→ltS b a=false→a=b
 | [],[],_,_=>rfl
 | [],_::_,h,_=>by cases h
 | _::_,[],_,h=>by cases h
 | a::x,b::y,h1,h2=>by
  rw [B16,L14,decide_eq_false_iff_not,UInt8.lt_iff_toNat_lt] at h1 h2
  have e:a=b:=UInt8.toNat_inj.1 (by omega)
  subst e
  simp only [beq_self_eq_true,Bool.true_and] at h1 h2
  rw [C26 h1.2 h2.2]
theorem J89 {a b:Str} (h:ltS a b=true):ltS b a=false:=by
 cases h2:ltS b a
 ·rfl
 ·have:=w8 h h2;rw [a8] at this;cases this
theorem J25:∀(a:Str) (c:UInt8) (t:Str),ltS a (a++c::t)=true
 | [],_,_=>rfl
 | x::r,c,t=>by rw [L05,B16,J25 r c t];simp
def P8 (s:Str):Bool:=decide (s≠[]∧s≠[46]∧s≠[46,46])
def L3 (cur:Str):Str→List Str
 | []=>[cur]
 | c::r=>if c=47 then cur::L3 [] r else L3 (cur++[c]) r
def A97 (cur:Str):Str→Bool
 | []=>P8 cur
 | c::r=>if c=0 then false else if c=47 then P8 cur&&A97 [] r else A97 (cur++[c]) r
def N2 (p:Str):Int:=if p.length < 1∨p.length > 200∨A97 [] p=false then 210 else 0
theorem C76:∀(s cur:Str),A97 cur s=(!s.contains 0&&(L3 cur s).all P8)
 | [],cur=>by simp [A97,L3]
 | c::r,cur=>by
  rw [A97,L3]
  by_cases h0:c=0
  ·subst h0;simp
  ·rw [if_neg h0]
   have hc:(c::r).contains 0=r.contains 0:=by
    rw [List.contains_cons]
    have:((0:UInt8) == c)=false:=by simpa using fun e=>h0 e.symm
    rw [this,Bool.false_or]
   rw [hc]
   split
   ·rw [C76 r [],List.all_cons]
    cases P8 cur<;>cases r.contains 0<;>rfl
   ·rw [C76 r]
theorem G67 (p:Str):N2 p=if p.length > 200∨p.contains 0=true then 210 else if (L3 [] p).all P8=true then 0 else 210:=by
 unfold N2
 rw [C76]
 by_cases h1:p.length > 200
 ·rw [if_pos (.inr (.inl h1)),if_pos (.inl h1)]
 ·cases h2:p.contains 0
  ·rw [if_neg (show ¬(p.length > 200∨false=true) by simp [h1])]
   cases h3:(L3 [] p).all P8
   ·simp
   ·have:¬p.length < 1:=by
     intro h
     have:p=[]:=List.length_eq_zero_iff.1 (by omega)
     subst this
     simp [L3,P8] at h3
    rw [if_neg (fun h=>by
     rcases h with h | h | h
     ·exact this h
     ·exact h1 h
     ·cases h)];rfl
  ·rw [if_pos (show p.length > 200∨true=true from .inr rfl),if_pos (.inr (.inr (by simp)))]
def above (a b:Str):Bool:=decide (b.length > a.length∧b.take a.length=a∧b[a.length]?=some 47)
theorem K47 {a b:Str} (h:above a b=true):ltS a b=true:=by
 obtain ⟨h1,h2,h3⟩:=A0 h
 have e:b=a++47::b.drop (a.length+1):=by
  conv=>lhs;rw [←L21 a.length b,h2]
  rw [K91 h1]
  rw [K82 h1] at h3
  rw [Option.some.inj h3]
 rw [e];exact J25 _ _ _
def N9:List File→Bool
 | []=>true
 | f::r=>r.all (fun x=>ltS f.Path x.Path&&!above f.Path x.Path)&&N9 r
def F8 (l:List File):Int:=if l.length > 200 then 1 else if l.any (fun f=>decide (N2 f.Path≠0))=true then 210 else if N9 l=false then 211 else if l.any (fun f=>decide (M2 f.Blob≠0))=true then 1 else 0
def R4 (p:Str) (ps:List Str):Bool:=(List.range p.length).any fun i=>decide (p.take i∈ps)&&decide (p[i]?=some 47)
def ascend:List File→Bool
 | []=>true
 | [_]=>true
 | f::g::r=>ltS f.Path g.Path&&ascend (g::r)
def A05 (l:List File):Bool:=ascend l&&l.all fun f=>!R4 f.Path (l.map (·.Path))
theorem F04 (p:Str) (ps:List Str):R4 p ps=true↔∃a∈ps,above a p=true:=by
 unfold R4
 rw [List.any_eq_true]
 constructor
 ·rintro ⟨i,hi,h⟩
  rw [K83,decide_eq_true_eq,decide_eq_true_eq] at h
  have hlt:i < p.length:=List.mem_range.1 hi
  have hl:(p.take i).length=i:=by rw [K92];omega
  exact ⟨_,h.1,decide_eq_true ⟨by rw [hl];exact hlt,by rw [hl],by rw [hl];exact h.2⟩⟩
 ·rintro ⟨a,ha,h⟩
  obtain ⟨h1,h2,h3⟩:=A0 h
  exact ⟨a.length,List.mem_range.2 h1,by rw [K83,decide_eq_true_eq,decide_eq_true_eq,h2];exact ⟨ha,h3⟩⟩
theorem n6:∀{f:File} {r:List File},ascend (f::r)=true→∀x∈r,ltS f.Path x.Path=true
 | _,[],_,_,hx=>by cases hx
 | f,g::r,h,x,hx=>by
  unfold ascend at h
  rw [K83] at h
  rcases List.mem_cons.1 hx with rfl | hx
  ·exact h.1
  ·exact w8 h.1 (n6 h.2 x hx)
theorem A70 {f:File} {r:List File} (h:ascend (f::r)=true):ascend r=true:=by
 cases r with
 | nil=>rfl
 | cons g r=>unfold ascend at h;rw [K83] at h;exact h.2
theorem r7:∀{l:List File},N9 l=true→ascend l=true
 | [],_=>rfl
 | [_],_=>rfl
 | f::g::r,h=>by
  unfold N9 at h
  rw [K83,List.all_eq_true] at h
  have h1:=h.1 g (by simp)
  rw [K83] at h1
  unfold ascend
  rw [h1.1,r7 h.2];rfl
theorem C52:∀{l:List File},N9 l=true→∀x∈l,∀y∈l,above x.Path y.Path=false
 | [],_,x,hx,_,_=>by cases hx
 | f::r,h,x,hx,y,hy=>by
  have ha:=r7 h
  unfold N9 at h
  rw [K83,List.all_eq_true] at h
  cases hab:above x.Path y.Path
  ·rfl
  have hlt:=K47 hab
  rcases List.mem_cons.1 hx with rfl | hx0
  ·rcases List.mem_cons.1 hy with rfl | hy
   ·rw [a8] at hlt;cases hlt
   ·have:=h.1 y hy;rw [hab,Bool.not_true,Bool.and_false] at this;cases this
  ·have hx2:=hx0
   rcases List.mem_cons.1 hy with hyf | hy2
   ·have:=n6 ha x hx2;rw [←hyf,J89 hlt] at this;cases this
   ·rw [C52 h.2 x hx2 y hy2] at hab;cases hab
theorem C77:∀{l:List File},ascend l=true→(∀x∈l,∀y∈l,above x.Path y.Path=false)→N9 l=true
 | [],_,_=>rfl
 | f::r,h,ha=>by
  unfold N9
  rw [K83,List.all_eq_true]
  refine ⟨fun x hx=>?_,C77 (A70 h) fun x hx y hy=>ha x (by simp [hx]) y (by simp [hy])⟩
  rw [n6 h x hx,ha f (by simp) x (by simp [hx])];rfl
theorem I80 (l:List File):A05 l=N9 l:=by
 cases h:N9 l
 ·cases hp:A05 l
  ·rfl
  unfold A05 at hp
  rw [K83,List.all_eq_true] at hp
  have:N9 l=true:=C77 hp.1 fun x hx y hy=>by
   cases hab:above x.Path y.Path
   ·rfl
   have h1:=hp.2 y hy
   rw [(F04 _ _).2 ⟨x.Path,List.mem_map_of_mem hx,hab⟩] at h1;cases h1
  rw [this] at h;cases h
 ·unfold A05
  rw [K83,List.all_eq_true]
  refine ⟨r7 h,fun y hy=>?_⟩
  cases hn:R4 y.Path (l.map (·.Path))
  ·rfl
  obtain ⟨a,ha,hab⟩:=(F04 _ _).1 hn
  obtain ⟨x,hx,rfl⟩:=List.mem_map.1 ha
  rw [C52 h x hx y hy] at hab;cases hab
def I5:List File→Str→Option Str
 | [],_=>none
 | f::r,p=>if f.Path=p then some f.Blob else I5 r p
def y2 (a:Str) (k:List Str→List Str):List Str→List Str
 | []=>a::k []
 | b::bs=>if ltS a b=true then a::k (b::bs) else if ltS b a=true then b::y2 a k bs else a::k bs
def A15:List Str→List Str→List Str
 | [],bs=>bs
 | a::as,bs=>y2 a (A15 as) bs
def A28 (a b:List File) (p:Str):Option Delta:=match I5 a p,I5 b p with
 | none,_=>some ⟨p,1⟩
 | some _,none=>some ⟨p,2⟩
 | some x,some y=>if x≠y then some ⟨p,3⟩ else none
def U4 (a b:List File):List Delta:=(A15 (a.map (·.Path)) (b.map (·.Path))).filterMap (A28 a b)
def A98 (b:List File) (f:File):Option Delta:=match I5 b f.Path with
 | none=>some ⟨f.Path,2⟩
 | some y=>if y≠f.Blob then some ⟨f.Path,3⟩ else none
def C36 (a:List File) (f:File):Option Delta:=match I5 a f.Path with
 | none=>some ⟨f.Path,1⟩
 | some _=>none
def y3 (a b:List File):List Delta:=a.filterMap (A98 b)++b.filterMap (C36 a)
def C37 (x:Delta):List Delta→List Delta
 | []=>[x]
 | y::r=>if ltS x.Path y.Path=true then y::C37 x r else x::y::r
def u0:List Delta→List Delta→List Delta
 | acc,[]=>acc
 | acc,x::r=>u0 (C37 x acc) r
def C53 (l:List Delta):List Delta:=(u0 [] l).reverse
def diffOf (a b:List File):List Delta:=C53 (y3 a b)
theorem D12 (x:Delta):∀(l:List Delta) (y:Delta),y∈C37 x l↔y=x∨y∈l
 | [],y=>by simp [C37]
 | z::r,y=>by
  unfold C37
  split
  ·rw [L11,D12 x r,L11]
   constructor
   ·rintro (h | h | h)
    ·exact .inr (.inl h)
    ·exact .inl h
    ·exact .inr (.inr h)
   ·rintro (h | h | h)
    ·exact .inr (.inl h)
    ·exact .inl h
    ·exact .inr (.inr h)
  ·rw [L11]
theorem D97 (x:Delta):∀l:List Delta,(C37 x l).length=l.length+1
 | []=>rfl
 | y::r=>by
  unfold C37
  split
  ·rw [K87,D97 x r,K87]
  ·rfl
theorem F98:∀(l acc:List Delta) (y:Delta),y∈u0 acc l↔y∈acc∨y∈l
 | [],acc,y=>by simp [u0]
 | x::r,acc,y=>by
  unfold u0
  rw [F98 r,D12,L11]
  constructor
  ·rintro ((h | h) | h)
   ·exact .inr (.inl h)
   ·exact .inl h
   ·exact .inr (.inr h)
  ·rintro (h | h | h)
   ·exact .inl (.inr h)
   ·exact .inl (.inl h)
   ·exact .inr h
abbrev H67 (l:List Delta):Prop:=l.Pairwise fun x y=>ltS y.Path x.Path=true
abbrev AscD (l:List Delta):Prop:=l.Pairwise fun x y=>ltS x.Path y.Path=true
theorem F99 {x:Delta}:∀{l:List Delta},H67 l→(∀y∈l,y.Path≠x.Path)→H67 (C37 x l)
 | [],_,_=>by simp [C37,H67]
 | y::r,h,hn=>by
  unfold C37
  have h1:=List.pairwise_cons.1 h
  split
  ·rename_i hlt
   refine List.pairwise_cons.2 ⟨fun z hz=>?_,F99 h1.2 fun z hz=>hn z (by simp [hz])⟩
   rcases (D12 x r z).1 hz with rfl | hz
   ·exact hlt
   ·exact h1.1 z hz
  ·rename_i hlt
   have hyx:ltS y.Path x.Path=true:=by
    cases hc:ltS y.Path x.Path
    ·exact absurd (C26 (by simpa using hlt) hc) fun e=>hn y (by simp) e.symm
    ·rfl
   refine List.pairwise_cons.2 ⟨fun z hz=>?_,h⟩
   rcases List.mem_cons.1 hz with rfl | hz
   ·exact hyx
   ·exact w8 (h1.1 z hz) hyx
theorem F05:∀(l acc:List Delta),H67 acc→(l.map (·.Path)).Nodup→(∀x∈l,∀y∈acc,y.Path≠x.Path)→H67 (u0 acc l)
 | [],acc,h,_,_=>h
 | x::r,acc,h,hn,hd=>by
  unfold u0
  rw [L01,List.nodup_cons] at hn
  refine F05 r _ (F99 h (hd x (by simp))) hn.2 fun z hz y hy=>?_
  rcases (D12 x acc y).1 hy with rfl | hy
  ·intro e;exact hn.1 (by rw [e];exact List.mem_map_of_mem hz)
  ·exact hd z (by simp [hz]) y hy
theorem J90 {l:List Delta} (h:(l.map (·.Path)).Nodup):AscD (C53 l):=by
 unfold C53 AscD
 rw [List.pairwise_reverse]
 exact F05 l [] List.Pairwise.nil h fun _ _ _ hy=>by cases hy
theorem J91 (l:List Delta) (y:Delta):y∈C53 l↔y∈l:=by
 unfold C53;rw [List.mem_reverse,F98];simp
theorem J26:∀{l m:List Delta},AscD l→AscD m→(∀y,y∈l↔y∈m)→l=m
 | [],[],_,_,_=>rfl
 | [],y::_,_,_,h=>by have:=(h y).2 (by simp);cases this
 | y::_,[],_,_,h=>by have:=(h y).1 (by simp);cases this
 | x::l,y::m,h1,h2,h=>by
  have a1:=List.pairwise_cons.1 h1
  have a2:=List.pairwise_cons.1 h2
  have e:x=y:=by
   rcases List.mem_cons.1 ((h x).1 (by simp)) with e | hx
   ·exact e
   rcases List.mem_cons.1 ((h y).2 (by simp)) with e | hy
   ·exact e.symm
   have:=w8 (a1.1 y hy) (a2.1 x hx)
   rw [a8] at this;cases this
  subst e
  refine congrArg (x::·) (J26 a1.2 a2.2 fun z=>⟨fun hz=>?_,fun hz=>?_⟩)
  ·rcases List.mem_cons.1 ((h z).1 (by simp [hz])) with rfl | h3
   ·have:=a1.1 z hz;rw [a8] at this;cases this
   ·exact h3
  ·rcases List.mem_cons.1 ((h z).2 (by simp [hz])) with rfl | h3
   ·have:=a2.1 z hz;rw [a8] at this;cases this
   ·exact h3
abbrev F06 (l:List Str):Prop:=l.Pairwise fun x y=>ltS x y=true
theorem B99 {a:Str} {k:List Str→List Str} {as:List Str} (hk:∀bs p,p∈k bs↔p∈as∨p∈bs):∀(bs:List Str) (p:Str),p∈y2 a k bs↔p=a∨p∈as∨p∈bs
 | [],p=>by rw [y2,L11,hk]
 | b :: bs,p=>by
  rw [y2]
  split
  ·rw [L11,hk]
  ·split
   ·rw [L11,B99 hk bs p,L11]
    constructor
    ·rintro (h | h | h | h)
     ·exact .inr (.inr (.inl h))
     ·exact .inl h
     ·exact .inr (.inl h)
     ·exact .inr (.inr (.inr h))
    ·rintro (h | h | h | h)
     ·exact .inr (.inl h)
     ·exact .inr (.inr (.inl h))
     ·exact .inl h
     ·exact .inr (.inr (.inr h))
   ·rename_i h1 h2
    have e:a=b:=C26 (by simpa using h1) (by simpa using h2)
    subst e
    rw [L11,hk,L11]
    constructor
    ·rintro (h | h | h)
     ·exact .inl h
     ·exact .inr (.inl h)
     ·exact .inr (.inr (.inr h))
    ·rintro (h | h | h | h)
     ·exact .inl h
     ·exact .inr (.inl h)
     ·exact .inl h
     ·exact .inr (.inr h)
theorem l9:∀(as bs:List Str) (p:Str),p∈A15 as bs↔p∈as∨p∈bs
 | [],bs,p=>by simp [A15]
 | a::as,bs,p=>by
  rw [A15,B99 (fun bs p=>l9 as bs p) bs p,L11]
  constructor
  ·rintro (h | h | h)
   ·exact .inl (.inl h)
   ·exact .inl (.inr h)
   ·exact .inr h
  ·rintro ((h | h) | h)
   ·exact .inl h
   ·exact .inr (.inl h)
   ·exact .inr (.inr h)
theorem D98 {a:Str} {k:List Str→List Str} {as:List Str} (hk:∀bs p,p∈k bs↔p∈as∨p∈bs) (hka:∀bs,F06 bs→F06 (k bs)) (ha:∀x∈as,ltS a x=true):∀bs:List Str,F06 bs→F06 (y2 a k bs)
 | [],h=>by
  rw [y2]
  refine List.pairwise_cons.2 ⟨fun x hx=>?_,hka [] h⟩
  rcases (hk [] x).1 hx with hx | hx
  ·exact ha x hx
  ·cases hx
 | b::bs,h=>by
  have hb:=List.pairwise_cons.1 h
  rw [y2]
  split
  ·rename_i hlt
   refine List.pairwise_cons.2 ⟨fun x hx=>?_,hka _ h⟩
   rcases (hk _ x).1 hx with hx | hx
   ·exact ha x hx
   ·rcases List.mem_cons.1 hx with rfl | hx
    ·exact hlt
    ·exact w8 hlt (hb.1 x hx)
  ·split
   ·rename_i _ hlt
    refine List.pairwise_cons.2 ⟨fun x hx=>?_,D98 hk hka ha bs hb.2⟩
    rcases (B99 hk bs x).1 hx with rfl | hx | hx
    ·exact hlt
    ·exact w8 hlt (ha x hx)
    ·exact hb.1 x hx
   ·rename_i h1 h2
    have e:a=b:=C26 (by simpa using h1) (by simpa using h2)
    subst e
    refine List.pairwise_cons.2 ⟨fun x hx=>?_,hka _ hb.2⟩
    rcases (hk _ x).1 hx with hx | hx
    ·exact ha x hx
    ·exact hb.1 x hx
theorem F07:∀(as bs:List Str),F06 as→F06 bs→F06 (A15 as bs)
 | [],_,_,h=>h
 | _::as,bs,h1,h2=>by
  have ha:=List.pairwise_cons.1 h1
  exact D98 (fun bs p=>l9 as bs p) (fun bs hb=>F07 as bs ha.2 hb) ha.1 bs h2
theorem A06:∀{l:List File} {p x:Str},I5 l p=some x→∃f∈l,f.Path=p∧f.Blob=x
 | [],_,_,h=>by cases h
 | f::r,p,x,h=>by
  unfold I5 at h
  split at h
  ·rename_i e;exact ⟨f,by simp,e,Option.some.inj h⟩
  ·obtain ⟨g,hg,h2⟩:=A06 h;exact ⟨g,by simp [hg],h2⟩
theorem findF_none {p:Str}:∀{l:List File},I5 l p=none↔p∉l.map (·.Path)
 | []=>by simp [I5]
 | f::r=>by
  unfold I5
  split
  ·rename_i e;simp [e]
  ·rename_i e
   rw [findF_none (l:=r),L01,L11,not_or]
   exact ⟨fun h=>⟨fun e2=>e e2.symm,h⟩,fun h=>h.2⟩
theorem r8:∀{l:List File},ascend l=true→F06 (l.map (·.Path))
 | [],_=>List.Pairwise.nil
 | f::r,h=>by
  rw [L01]
  refine List.pairwise_cons.2 ⟨fun x hx=>?_,r8 (A70 h)⟩
  obtain ⟨g,hg,rfl⟩:=List.mem_map.1 hx
  exact n6 h g hg
theorem F08 {l:List Str} (h:F06 l):l.Nodup:=h.imp fun {a b} hab e=>by rw [e,a8] at hab;cases hab
theorem A07:∀{l:List File},ascend l=true→∀f∈l,I5 l f.Path=some f.Blob
 | [],_,f,hf=>by cases hf
 | g::r,h,f,hf=>by
  unfold I5
  rcases List.mem_cons.1 hf with rfl | hf
  ·rw [if_pos rfl]
  ·have:=n6 h f hf
   rw [if_neg (fun e=>by rw [e,a8] at this;cases this)]
   exact A07 (A70 h) f hf
theorem B47 {a b:List File} {p:Str} {d:Delta} (h:A28 a b p=some d):d.Path=p:=by
 unfold A28 at h
 split at h
 ·cases h;rfl
 ·cases h;rfl
 ·split at h
  ·cases h;rfl
  ·cases h
theorem C54 {f:Str→Option Delta} (hf:∀p d,f p=some d→d.Path=p):∀{l:List Str},F06 l→AscD (l.filterMap f)
 | [],_=>List.Pairwise.nil
 | p::r,h=>by
  have h1:=List.pairwise_cons.1 h
  have ih:=C54 hf h1.2
  rw [List.filterMap_cons]
  cases hp:f p with
  | none=>exact ih
  | some d =>
   refine List.pairwise_cons.2 ⟨fun y hy=>?_,ih⟩
   obtain ⟨q,hq,hqy⟩:=List.mem_filterMap.1 hy
   rw [hf p d hp,hf q y hqy]
   exact h1.1 q hq
theorem G00 {b:List File} {f:File} {d:Delta} (h:A98 b f=some d):d.Path=f.Path:=by
 unfold A98 at h
 split at h
 ·cases h;rfl
 ·split at h
  ·cases h;rfl
  ·cases h
theorem G01 {a:List File} {f:File} {d:Delta} (h:C36 a f=some d):d.Path=f.Path∧f.Path∉a.map (·.Path):=by
 unfold C36 at h
 split at h
 ·rename_i h2;cases h;exact ⟨rfl,findF_none.1 h2⟩
 ·cases h
theorem J92 {a b:List File} (ha:ascend a=true) (hb:ascend b=true):((y3 a b).map (·.Path)).Nodup:=by
 have sub:∀(f:File→Option Delta),(∀x d,f x=some d→d.Path=x.Path)→∀l:List File,((l.filterMap f).map (·.Path)).Sublist (l.map (·.Path)):=by
  intro f hf l
  induction l with
  | nil=>exact List.Sublist.slnil
  | cons x r ih =>
   rw [List.filterMap_cons]
   cases hx:f x with
   | none=>exact ih.cons _
   | some d=>rw [L01,L01,hf x d hx];exact ih.cons_cons _
 unfold y3
 rw [L08,List.nodup_append]
 refine ⟨(F08 (r8 ha)).sublist (sub _ (fun _ _ h=>G00 h) a),(F08 (r8 hb)).sublist (sub _ (fun _ _ h=>(G01 h).1) b),?_⟩
 intro x hx y hy e
 subst e
 obtain ⟨d,hd,e1⟩:=List.mem_map.1 hy
 obtain ⟨f,hf,h1⟩:=List.mem_filterMap.1 hd
 have h2:=G01 h1
 have h3:=(sub _ (fun _ _ h=>G00 h) a).subset hx
 rw [←e1,h2.1] at h3
 exact h2.2 h3
theorem raw_mem {a b:List File} (ha:ascend a=true) (_hb:ascend b=true) (y:Delta):y∈y3 a b↔y∈U4 a b:=by
 unfold y3 U4
 rw [L07,List.mem_filterMap,List.mem_filterMap,List.mem_filterMap]
 constructor
 ·rintro (⟨f,hf,h⟩ | ⟨f,hf,h⟩)
  ·refine ⟨f.Path,(l9 _ _ _).2 (.inl (List.mem_map_of_mem hf)),?_⟩
   unfold A98 at h
   unfold A28
   rw [A07 ha f hf]
   split at h
   ·rename_i h2;rw [h2];exact h
   ·rename_i z h2
    rw [h2]
    dsimp only
    split at h
    ·rename_i h3;rw [if_pos (fun e=>h3 e.symm)];exact h
    ·cases h
  ·refine ⟨f.Path,(l9 _ _ _).2 (.inr (List.mem_map_of_mem hf)),?_⟩
   unfold C36 at h
   unfold A28
   split at h
   ·rename_i h2;rw [h2];exact h
   ·cases h
 ·rintro ⟨p,hp,h⟩
  unfold A28 at h
  split at h
  ·rename_i h2
   rcases (l9 _ _ _).1 hp with hp | hp
   ·exact absurd hp (findF_none.1 h2)
   ·obtain ⟨f,hf,rfl⟩:=List.mem_map.1 hp
    exact .inr ⟨f,hf,by unfold C36;rw [h2];exact h⟩
  ·rename_i x h2 h3
   obtain ⟨f,hf,rfl,rfl⟩:=A06 h2
   exact .inl ⟨f,hf,by unfold A98;rw [h3];exact h⟩
  ·rename_i x z h2 h3
   obtain ⟨f,hf,rfl,rfl⟩:=A06 h2
   refine .inl ⟨f,hf,?_⟩
   unfold A98;rw [h3]
   dsimp only
   split at h
   ·rename_i h4;rw [if_pos (fun e=>h4 e.symm)];exact h
   ·cases h
theorem J93 {a b:List File} (ha:ascend a=true) (hb:ascend b=true):diffOf a b=U4 a b :=
 J26 (J90 (J92 ha hb)) (C54 (fun _ _ h=>B47 h) (F07 _ _ (r8 ha) (r8 hb))) fun y=>(J91 _ y).trans (raw_mem ha hb y)
theorem I81 (a b:List File):(y3 a b).length≤a.length+b.length:=by
 unfold y3;rw [K86]
 have h1:=List.length_filterMap_le (A98 b) a
 have h2:=List.length_filterMap_le (C36 a) b
 omega
theorem y4 {l:List File} (h:F8 l=0):ascend l=true∧l.length≤200∧(∀f∈l,M2 f.Blob=0)∧∀f∈l,N2 f.Path=0:=by
 unfold F8 at h
 split at h
 ·cases h
 ·rename_i h1
  split at h
  ·cases h
  ·rename_i h2
   split at h
   ·cases h
   ·rename_i h3
    split at h
    ·cases h
    ·rename_i h4
     refine ⟨r7 (by simpa using h3),by omega,fun f hf=>?_,fun f hf=>?_⟩
     ·have:=fun e=>h4 (List.any_eq_true.2 ⟨f,hf,e⟩)
      simpa using this
     ·have:=fun e=>h2 (List.any_eq_true.2 ⟨f,hf,e⟩)
      simpa using this
end Go.AL
namespace Go.AL
open Go
theorem C27 {α:Type} [DecidableEq α]:∀{l m:List α},l.Nodup→(∀x∈l,x∈m)→l.length≤m.length
 | [],_,_,_=>Nat.zero_le _
 | x::l,m,h,hs=>by
  have h1:=List.nodup_cons.1 h
  have h2:l.length≤(m.erase x).length:=C27 h1.2 fun y hy=>by
   have hne:y≠x:=fun e=>h1.1 (e ▸ hy)
   exact (List.mem_erase_of_ne hne).2 (hs y (by simp [hy]))
  have h3:=List.length_erase_of_mem (hs x (by simp))
  have h4:0 < m.length:=List.length_pos_of_mem (hs x (by simp))
  rw [K87];omega
theorem b8 {l:List Int} {n:Nat} (h:l.Nodup) (hr:∀x∈l,0≤x∧x < n):l.length≤n:=by
 have:=C27 (m:=(List.range n).map fun i:Nat=>(i:Int)) h fun x hx=>by
  have:=hr x hx
  exact List.mem_map.2 ⟨x.toNat,List.mem_range.2 (by omega),by omega⟩
 simpa using this
theorem K48 {l:List Int} {n:Nat} (h:l.Nodup) (hr:∀x∈l,0≤x∧x < n) (hl:n≤l.length) (c:Nat) (hc:c < n):(c:Int)∈l:=by
 apply Classical.byContradiction
 intro hn
 have:=b8 (l:=(c:Int)::l) (n:=n) (List.nodup_cons.2 ⟨hn,h⟩) fun x hx=>by
  rcases List.mem_cons.1 hx with rfl | hx
  ·exact ⟨by omega,by omega⟩
  ·exact hr x hx
 rw [K87] at this;omega
theorem C78 {q r:Nat→Bool} (x:Nat) (hr:∀y,r y=(q y&&decide (y≠x))):∀{L:List Nat},L.Nodup→L.countP q=L.countP r+(if x∈L∧q x=true then 1 else 0)
 | [],_=>by simp
 | y :: L,h=>by
  have h1:=List.nodup_cons.1 h
  have ih:=C78 x hr h1.2
  rw [List.countP_cons,List.countP_cons,ih,hr y]
  by_cases e:y=x
  ·subst e
   have:¬(y∈L∧q y=true):=fun e=>h1.1 e.1
   rw [if_neg this]
   cases hq:q y<;>simp
  ·have e2:(x∈y::L∧q x=true)↔(x∈L∧q x=true):=by
    rw [L11]
    constructor
    ·rintro ⟨h3 | h3,h4⟩
     ·exact absurd h3.symm e
     ·exact ⟨h3,h4⟩
    ·exact fun ⟨h3,h4⟩=>⟨.inr h3,h4⟩
   rw [show (if x∈y::L∧q x=true then 1 else 0)=(if x∈L∧q x=true then 1 else 0) by simp only [e2]]
   simp only [e,ne_eq,not_false_eq_true,decide_true,Bool.and_true]
   omega
abbrev Graph:=List Commit
def E6 (g:Graph) (c:Nat):List Int:=(g[c]?.map (·.Parents)).getD []
def A21 (n:Int) (seen:List Int):List Int→Bool
 | []=>true
 | p::r=>decide (0≤p∧p < n∧p∉seen)&&A21 n (seen++[p]) r
def related (g:Graph):Bool:=g.all fun c=>A21 g.length [] c.Parents
theorem H68 {n:Int}:∀{ps seen:List Int},A21 n seen ps=true→(∀p∈ps,0≤p∧p < n∧p∉seen)∧ps.Nodup
 | [],_,_=>⟨(fun _ h=>by cases h),List.nodup_nil⟩
 | p::r,seen,h=>by
  unfold A21 at h
  rw [K83,decide_eq_true_eq] at h
  obtain ⟨h1,h2⟩:=H68 h.2
  refine ⟨fun q hq=>?_,List.nodup_cons.2 ⟨fun hp=>(h1 p hp).2.2 (by simp),h2⟩⟩
  rcases List.mem_cons.1 hq with rfl | hq
  ·exact h.1
  ·have:=h1 q hq;exact ⟨this.1,this.2.1,fun hs=>this.2.2 (by simp [hs])⟩
theorem S8 {g:Graph} {c:Nat} (hc:c < g.length):E6 g c=g[c].Parents:=by unfold E6;rw [K82 hc];rfl
theorem B17 {g:Graph} {c:Nat} (hc:¬c < g.length):E6 g c=[]:=by unfold E6;rw [K98 (by omega)];rfl
theorem K6 {g:Graph} (h:related g=true) (c:Nat):(∀p∈E6 g c,0≤p∧p < g.length)∧(E6 g c).Nodup:=by
 by_cases hc:c < g.length
 ·rw [S8 hc]
  have:=H68 (List.all_eq_true.1 h g[c] (K85 hc))
  exact ⟨fun p hp=>⟨(this.1 p hp).1,(this.1 p hp).2.1⟩,this.2⟩
 ·rw [B17 hc];exact ⟨(fun _ h=>by cases h),List.nodup_nil⟩
inductive Reaches (g:Graph):Nat→Nat→Prop
 | one {c p:Nat} (h:(p:Int)∈E6 g c):Reaches g c p
 | more {c d p:Nat} (h:Reaches g c d) (h2:(p:Int)∈E6 g d):Reaches g c p
theorem Reaches.trans {g:Graph} {a b c:Nat} (h:Reaches g a b) (h2:Reaches g b c):Reaches g a c:=by
 induction h2 with
 | one h2=>exact .more h h2
 | more _ h3 ih=>exact .more ih h3
theorem Reaches.lt {g:Graph} (hr:related g=true) {a b:Nat} (h:Reaches g a b):a < g.length∧b < g.length:=by
 have key:∀{c p:Nat},(p:Int)∈E6 g c→c < g.length∧p < g.length:=fun {c p} h=>by
  refine ⟨?_,by have:=(K6 hr c).1 p h;omega⟩
  apply Classical.byContradiction
  intro hc;rw [B17 hc] at h;cases h
 induction h with
 | one h=>exact key h
 | more _ h2 ih=>exact ⟨ih.1,(key h2).2⟩
def V0 (ps:List Int) (l:List Bool):List Bool:=ps.foldl (fun l p=>l.set p.toNat true) l
def J0 (l:List Bool) (c:Nat):Bool:=l[c]?.getD false
def d8 (g:Graph) (l:List Bool) (c:Nat):List Bool:=if J0 l c=true then V0 (E6 g c) l else l
def C00 (g:Graph) (l:List Bool):List Bool:=(List.range g.length).foldl (d8 g) l
def X1 (g:Graph):Nat→List Bool→List Bool
 | 0,l=>l
 | k+1,l=>X1 g k (C00 g l)
def O7 (g:Graph) (starts:List Int):List Bool:=X1 g g.length (V0 starts (List.replicate g.length false))
theorem K49 {l:List Bool} {i c:Nat}:J0 (l.set i true) c=(J0 l c||decide (i=c∧c < l.length)):=by
 unfold J0
 rw [L36]
 split
 ·rename_i e;subst e
  split
  ·rename_i h;simp [h]
  ·rename_i h;simp [h,K98 (Nat.le_of_not_lt h)]
 ·rename_i h;simp [h]
theorem V1:∀(ps:List Int) (l:List Bool),(V0 ps l).length=l.length
 | [],_=>rfl
 | p::r,l=>by show (V0 r (l.set p.toNat true)).length=_;rw [V1 r];simp
theorem n7:∀(ps:List Int) (l:List Bool) (c:Nat),J0 (V0 ps l) c=(J0 l c||(decide (c < l.length)&&ps.any fun p=>decide (p.toNat=c)))
 | [],l,c=>by simp [V0]
 | p::r,l,c=>by
  show J0 (V0 r (l.set p.toNat true)) c=_
  rw [n7 r,K49,L06,List.any_cons]
  by_cases h1:p.toNat=c<;>by_cases h2:c < l.length<;>simp [h1,h2]
theorem J94 (g:Graph) (l:List Bool) (c:Nat):(d8 g l c).length=l.length:=by unfold d8;split<;>simp [V1]
theorem D60 (g:Graph):∀(cs:List Nat) (l:List Bool),(cs.foldl (d8 g) l).length=l.length
 | [],_=>rfl
 | c::r,l=>by rw [L12,D60 g r,J94]
theorem F09 (g:Graph) (l:List Bool):(C00 g l).length=l.length:=D60 g _ l
theorem C28 (g:Graph):∀(k:Nat) (l:List Bool),(X1 g k l).length=l.length
 | 0,_=>rfl
 | k+1,l=>by rw [X1,C28 g k,F09]
theorem C01 (g:Graph) (s:List Int):(O7 g s).length=g.length:=by unfold O7;rw [C28,V1];simp
def LeB (a b:List Bool):Prop:=a.length=b.length∧∀c,J0 a c=true→J0 b c=true
theorem LeB.refl (a:List Bool):LeB a a:=⟨rfl,fun _ h=>h⟩
theorem LeB.trans {a b c:List Bool} (h:LeB a b) (h2:LeB b c):LeB a c:=⟨h.1.trans h2.1,fun x hx=>h2.2 x (h.2 x hx)⟩
theorem C29:∀{a b:List Bool},LeB a b→a=b∨a.countP id < b.countP id
 | [],[],_=>.inl rfl
 | [],_::_,h=>by have:=h.1;simp at this
 | _::_,[],h=>by have:=h.1;simp at this
 | x::a,y::b,h=>by
  have h1:LeB a b:=⟨by simpa using h.1,fun c hc=>h.2 (c+1) hc⟩
  have h2:x=true→y=true:=fun hx=>by simpa [J0] using h.2 0 (by simpa [J0] using hx)
  rw [List.countP_cons,List.countP_cons]
  rcases C29 h1 with rfl | h3
  ·cases x<;>cases y
   ·exact .inl rfl
   ·right;simp
   ·exact absurd (h2 rfl) (by decide)
   ·exact .inl rfl
  ·right
   cases x<;>cases y
   ·simpa using h3
   ·simp;omega
   ·exact absurd (h2 rfl) (by decide)
   ·simpa using h3
theorem H69 {a b:List Bool} (h:LeB a b) (h2:LeB b a):a=b:=by
 rcases C29 h with e | e
 ·exact e
 ·rcases C29 h2 with e2 | e2
  ·exact e2.symm
  ·omega
theorem D61 (ps:List Int) (l:List Bool):LeB l (V0 ps l):=⟨(V1 ps l).symm,fun c h=>by rw [n7,h];rfl⟩
theorem H70 (g:Graph) (l:List Bool) (c:Nat):LeB l (d8 g l c):=by unfold d8;split<;>first | exact D61 _ _ | exact LeB.refl _
theorem D13 (g:Graph):∀(cs:List Nat) (l:List Bool),LeB l (cs.foldl (d8 g) l)
 | [],l=>LeB.refl l
 | c::r,l=>(H70 g l c).trans (D13 g r _)
theorem H71 (g:Graph):∀(k:Nat) (l:List Bool),LeB l (X1 g k l)
 | 0,l=>LeB.refl l
 | k+1,l=>(D13 g _ l).trans (H71 g k _)
def A71 (g:Graph) (l:List Bool):Prop:=∀c,J0 l c=true→∀p∈E6 g c,J0 l p.toNat=true
theorem H72 (g:Graph):∀(cs:List Nat) (l:List Bool),cs.foldl (d8 g) l=l→∀c∈cs,d8 g l c=l
 | [],_,_,_,h=>by cases h
 | d::r,l,h,c,hc=>by
  rw [L12] at h
  have h1:d8 g l d=l:=H69 (by have:=D13 g r (d8 g l d);rw [h] at this;exact this) (H70 g l d)
  rcases List.mem_cons.1 hc with rfl | hc
  ·exact h1
  ·rw [h1] at h;exact H72 g r l h c hc
theorem J27 {l:List Bool} {c:Nat} (h:J0 l c=true):c < l.length:=by
 unfold J0 at h
 apply Classical.byContradiction
 intro hn;rw [K98 (by omega)] at h;cases h
theorem I82 {g:Graph} {l:List Bool} (hr:related g=true) (hl:l.length=g.length) (h:C00 g l=l):A71 g l:=by
 intro c hc p hp
 have h1:=H72 g _ l h c (List.mem_range.2 (by rw [←hl];exact J27 hc))
 unfold d8 at h1
 rw [if_pos hc] at h1
 rw [←h1,n7]
 have:=(K6 hr c).1 p hp
 rw [L02];right
 rw [K83,decide_eq_true_eq,List.any_eq_true]
 exact ⟨by omega,p,hp,by simp⟩
theorem D14 {g:Graph} {l:List Bool} (h:A71 g l):C00 g l=l:=by
 have key:∀(cs:List Nat),cs.foldl (d8 g) l=l:=by
  intro cs
  induction cs with
  | nil=>rfl
  | cons c r ih =>
   rw [L12]
   have:d8 g l c=l:=by
    unfold d8
    split
    ·rename_i hc
     refine H69 ⟨V1 _ _,fun x hx=>?_⟩ (D61 _ _)
     rw [n7,L02,K83,List.any_eq_true] at hx
     rcases hx with hx | ⟨_,p,hp,e⟩
     ·exact hx
     ·rw [←A0 e];exact h c hc p hp
    ·rfl
   rw [this];exact ih
 exact key _
theorem D99 {g:Graph} (hr:related g=true):∀(k:Nat) {l:List Bool},l.length=g.length→A71 g (X1 g k l)∨l.countP id+k≤(X1 g k l).countP id
 | 0,l,_=>.inr (by simp [X1])
 | k+1,l,hl=>by
  rw [X1]
  rcases C29 (D13 g (List.range g.length) l) with e | e
  ·left
   have h1:A71 g l:=I82 hr hl e.symm
   rw [show C00 g l=l from e.symm]
   have:∀k,X1 g k l=l:=fun k=>by
    induction k with
    | zero=>rfl
    | succ k ih=>rw [X1,D14 h1];exact ih
   rw [this];exact h1
  ·rcases D99 hr k (l:=C00 g l) (by rw [F09];exact hl) with h | h
   ·exact .inl h
   ·right
    have e:l.countP id < (C00 g l).countP id:=e
    omega
theorem B48 {g:Graph} (hr:related g=true) (s:List Int) (hs:∀f∈s,0≤f∧f < g.length):A71 g (O7 g s):=by
 by_cases h0:s=[]
 ·subst h0
  have:A71 g (List.replicate g.length false):=fun c hc=>by
   unfold J0 at hc
   rw [List.getElem?_replicate] at hc
   split at hc<;>cases hc
  have e:∀k,X1 g k (List.replicate g.length false)=List.replicate g.length false:=fun k=>by
   induction k with
   | zero=>rfl
   | succ k ih=>rw [X1,D14 this];exact ih
  unfold O7
  show A71 g (X1 g g.length (List.replicate g.length false))
  rw [e];exact this
 ·rcases D99 hr g.length (l:=V0 s (List.replicate g.length false)) (by rw [V1];simp) with h | h
  ·exact h
  ·obtain ⟨f,r,rfl⟩:=List.exists_cons_of_ne_nil h0
   have h1:(X1 g g.length (V0 (f::r) (List.replicate g.length false))).countP id≤g.length:=by
    have:=List.countP_le_length (p:=id) (l:=X1 g g.length (V0 (f::r) (List.replicate g.length false)))
    rw [C28,V1,L13] at this;exact this
   have h2:0 < (V0 (f::r) (List.replicate g.length false)).countP id:=by
    rw [List.countP_pos_iff]
    have hf:=hs f (by simp)
    have hon:J0 (V0 (f::r) (List.replicate g.length false)) f.toNat=true:=by
     rw [n7,L02];right
     rw [K83,decide_eq_true_eq,List.any_eq_true]
     exact ⟨by rw [L13];omega,f,by simp,by simp⟩
    have hlt:=J27 hon
    unfold J0 at hon
    rw [K82 hlt] at hon
    exact ⟨_,K85 hlt,hon⟩
   omega
theorem C30 {g:Graph} (hr:related g=true) {s:List Int} (hs:∀f∈s,0≤f∧f < g.length) (x:Nat):J0 (O7 g s) x=true↔∃f:Nat,(f:Int)∈s∧(f=x∨Reaches g f x):=by
 constructor
 ·let Good:List Bool→Prop:=fun l=>∀x,J0 l x=true→∃f:Nat,(f:Int)∈s∧(f=x∨Reaches g f x)
  have h1:∀l c,Good l→Good (d8 g l c):=by
   intro l c h x hx
   unfold d8 at hx
   split at hx
   ·rename_i hc
    rw [n7,L02,K83,List.any_eq_true] at hx
    rcases hx with hx | ⟨_,p,hp,e⟩
    ·exact h x hx
    ·have e:=A0 e
     have hp2:=(K6 hr c).1 p hp
     have e2:((x:Nat):Int)=p:=by omega
     obtain ⟨f,hf,h2⟩:=h c hc
     refine ⟨f,hf,.inr ?_⟩
     rcases h2 with rfl | h2
     ·exact .one (by rw [e2];exact hp)
     ·exact .more h2 (by rw [e2];exact hp)
   ·exact h x hx
  have h2:∀(cs:List Nat) l,Good l→Good (cs.foldl (d8 g) l):=by
   intro cs
   induction cs with
   | nil=>exact fun l h=>h
   | cons c r ih=>exact fun l h=>ih _ (h1 l c h)
  have h3:∀k l,Good l→Good (X1 g k l):=by
   intro k
   induction k with
   | zero=>exact fun l h=>h
   | succ k ih=>exact fun l h=>ih _ (h2 _ l h)
  refine h3 _ _ (fun x hx=>?_) x
  rw [n7,L02,K83,List.any_eq_true] at hx
  rcases hx with hx | ⟨_,p,hp,e⟩
  ·unfold J0 at hx
   rw [List.getElem?_replicate] at hx
   split at hx<;>cases hx
  ·have e:=A0 e
   have:=hs p hp
   exact ⟨x,by rw [show ((x:Nat):Int)=p by omega];exact hp,.inl rfl⟩
 ·rintro ⟨f,hf,h⟩
  have hcl:=B48 hr s hs
  have h0:J0 (O7 g s) f=true:=by
   refine (H71 g _ _).2 f ?_
   rw [n7,L02];right
   rw [K83,decide_eq_true_eq,List.any_eq_true]
   have:=hs f hf
   exact ⟨by rw [L13];omega,f,hf,by simp⟩
  rcases h with rfl | h
  ·exact h0
  ·induction h with
   | one h=>exact hcl _ h0 _ h
   | more _ h2 ih=>exact hcl _ ih _ h2
def cyclic (g:Graph):Bool:=(List.range g.length).any fun c=>decide (E6 g c≠[])&&J0 (O7 g (E6 g c)) c
theorem B49 {g:Graph} (hr:related g=true):cyclic g=true↔∃c,Reaches g c c:=by
 unfold cyclic
 rw [List.any_eq_true]
 constructor
 ·rintro ⟨c,_,h⟩
  rw [K83] at h
  obtain ⟨f,hf,h2⟩:=(C30 hr (K6 hr c).1 c).1 h.2
  rcases h2 with rfl | h2
  ·exact ⟨f,.one hf⟩
  ·exact ⟨c,(Reaches.one hf).trans h2⟩
 ·rintro ⟨c,h⟩
  have hlt:=(h.lt hr).1
  refine ⟨c,List.mem_range.2 hlt,?_⟩
  have key:∀{a b:Nat},Reaches g a b→∃f:Nat,(f:Int)∈E6 g a∧(f=b∨Reaches g f b):=by
   intro a b h
   induction h with
   | one h=>exact ⟨_,h,.inl rfl⟩
   | more _ h2 ih =>
    obtain ⟨f,hf,h3⟩:=ih
    refine ⟨f,hf,.inr ?_⟩
    rcases h3 with rfl | h3
    ·exact .one h2
    ·exact .more h3 h2
  obtain ⟨f,hf,h2⟩:=key h
  rw [K83,decide_eq_true_eq]
  exact ⟨(fun e=>by rw [e] at hf;cases hf),(C30 hr (K6 hr c).1 c).2 ⟨f,hf,h2⟩⟩
def D15 (g:Graph) (ex:List Int) (p:Nat):Nat:=(List.range g.length).countP fun c:Nat=>decide ((c:Int)∉ex∧(p:Int)∈E6 g c)
theorem G02 {g:Graph} {ex:List Int} {x p:Nat} (hx:(x:Int)∉ex) (hlt:x < g.length):D15 g ex p=D15 g (ex++[(x:Int)]) p+(if (p:Int)∈E6 g x then 1 else 0):=by
 unfold D15
 rw [C78 (q:=fun c:Nat=>decide ((c:Int)∉ex∧(p:Int)∈E6 g c)) (r:=fun c:Nat=>decide ((c:Int)∉ex++[(x:Int)]∧(p:Int)∈E6 g c)) x (fun y=>?_) List.nodup_range]
 ·congr 1
  simp only [List.mem_range,hlt,true_and,decide_eq_true_eq,hx,not_false_eq_true]
 ·simp only [L07,List.mem_singleton]
  by_cases h1:(y:Int)∈ex<;>by_cases h2:y=x<;>by_cases h3:(p:Int)∈E6 g y<;>simp [h1,h2,h3]<;>omega
theorem K50 {g:Graph} {ex:List Int} {p:Nat} (h:0 < D15 g ex p):∃c,c < g.length∧(c:Int)∉ex∧(p:Int)∈E6 g c:=by
 unfold D15 at h
 rw [List.countP_pos_iff] at h
 obtain ⟨c,hc,h⟩:=h
 have:=A0 h
 exact ⟨c,List.mem_range.1 hc,this.1,this.2⟩
theorem G03 {g:Graph} {ex:List Int} {p:Nat} (h:D15 g ex p=0) {c:Nat} (hc:c < g.length) (hp:(p:Int)∈E6 g c):(c:Int)∈ex:=by
 apply Classical.byContradiction
 intro hn
 have:0 < D15 g ex p:=by
  unfold D15
  rw [List.countP_pos_iff]
  exact ⟨c,List.mem_range.2 hc,by simp [hn,hp]⟩
 omega
structure KInv (g:Graph) (k i:Nat) (ch:List Int) (out:List Int):Prop where
 len:ch.length=g.length
 nodup:out.Nodup
 rng:∀x∈out,0≤x∧x < g.length
 cnt:∀p,p < g.length→ch[p]?.getD 0+(if (p:Int)∈(E6 g (out.getD k 0).toNat).take i then 1 else 0)=D15 g (out.take k) p
 zero:∀p,p < g.length→((p:Int)∈out↔ch[p]?.getD 0=0)
 kids:∀j (h:j < out.length) (c:Nat),out[j]∈E6 g c→(c:Int)∈out.take j
theorem minimal {R:Nat→Nat→Prop} (tr:∀a b c,R a b→R b c→R a c) (ir:∀a,¬R a a):∀{M:List Nat},M≠[]→∃m∈M,∀x∈M,¬R x m
 | [],h=>absurd rfl h
 | [a],_=>⟨a,by simp,fun x hx=>by rw [List.mem_singleton.1 hx];exact ir a⟩
 | a::b::r,_=>by
  obtain ⟨m,hm,h⟩:=minimal tr ir (M:=b::r) (by simp)
  by_cases ham:R a m
  ·refine ⟨a,by simp,fun x hx hxa=>?_⟩
   rcases List.mem_cons.1 hx with rfl | hx
   ·exact ir _ hxa
   ·exact h x hx (tr _ _ _ hxa ham)
  ·refine ⟨m,List.mem_cons_of_mem _ hm,fun x hx=>?_⟩
   rcases List.mem_cons.1 hx with rfl | hx
   ·exact ham
   ·exact h x hx
theorem KInv.done {g:Graph} (hr:related g=true) {ch out:List Int} (h:KInv g out.length 0 ch out):(decide (out.length < g.length))=cyclic g:=by
 cases hc:cyclic g
 ·rw [decide_eq_false_iff_not]
  intro hlt
  have hno:∀c,¬Reaches g c c:=fun c hcc=>by rw [(B49 hr).2 ⟨c,hcc⟩] at hc;cases hc
  let M:=(List.range g.length).filter fun c:Nat=>decide ((c:Int)∉out)
  have hM:M≠[]:=by
   intro e
   have hall:∀c,c < g.length→(c:Int)∈out:=fun c hc=>by
    apply Classical.byContradiction
    intro hn
    have:c∈M:=List.mem_filter.2 ⟨List.mem_range.2 hc,by simp [hn]⟩
    rw [e] at this;cases this
   have:=C27 (l:=(List.range g.length).map fun i:Nat=>(i:Int)) (m:=out) ((List.nodup_range).map (fun i:Nat=>(i:Int)) (fun _ _ hne e=>hne (Int.ofNat.inj e))) fun x hx=>by
    obtain ⟨i,hi,rfl⟩:=List.mem_map.1 hx
    exact hall i (List.mem_range.1 hi)
   rw [L04,L15] at this;omega
  obtain ⟨m,hm,hmin⟩:=minimal (R:=Reaches g) (fun _ _ _ h1 h2=>h1.trans h2) hno hM
  obtain ⟨hm1,hm2⟩:=List.mem_filter.1 hm
  have hm1:=List.mem_range.1 hm1
  have hm2:=A0 hm2
  have h1:=h.cnt m hm1
  have h2:¬ch[m]?.getD 0=0:=fun e=>hm2 ((h.zero m hm1).2 e)
  rw [K89,List.take_zero,if_neg (by simp),Int.add_zero] at h1
  obtain ⟨c,hc1,hc2,hc3⟩:=K50 (g:=g) (ex:=out) (p:=m) (by omega)
  exact hmin c (List.mem_filter.2 ⟨List.mem_range.2 hc1,by simp [hc2]⟩) (.one hc3)
 ·rw [decide_eq_true_eq]
  obtain ⟨c,hcc⟩:=(B49 hr).1 hc
  apply Classical.byContradiction
  intro hn
  have hin:=K48 h.nodup h.rng (by omega) c (hcc.lt hr).1
  have key:∀{x y:Nat},Reaches g x y→∀j (hj:j < out.length),out[j]=(y:Int)→∃i,∃hi:i < out.length,i < j∧out[i]=(x:Int):=by
   have one:∀{x y:Nat},(y:Int)∈E6 g x→∀j (hj:j < out.length),out[j]=(y:Int)→∃i,∃hi:i < out.length,i < j∧out[i]=(x:Int):=by
    intro x y hxy j hj e
    have:=h.kids j hj x (by rw [e];exact hxy)
    obtain ⟨i,hi,he⟩:=List.getElem_of_mem this
    rw [K92] at hi
    rw [List.getElem_take] at he
    exact ⟨i,by omega,by omega,he⟩
   intro x y hxy
   induction hxy with
   | one h=>exact one h
   | more _ h2 ih =>
    intro j hj e
    obtain ⟨i,hi,hlt,e2⟩:=one h2 j hj e
    obtain ⟨i',hi',hlt',e3⟩:=ih i hi e2
    exact ⟨i',hi',by omega,e3⟩
  obtain ⟨j,hj,e⟩:=List.getElem_of_mem hin
  obtain ⟨i,hi,hlt,e2⟩:=key hcc j hj e
  have:=(List.getElem_inj (i:=i) (j:=j) (h₀:=hi) (h₁:=hj) h.nodup).1 (e2.trans e.symm)
  omega
end Go.AL
namespace Go.AL
open Go
def atG (l:List Int) (p:Nat):Int:=l[p]?.getD 0
def bump (l:List Int) (p:Int):List Int:=l.set p.toNat (atG l p.toNat+1)
def X2 (l:List Int) (p:Int):List Int:=l.set p.toNat (atG l p.toNat - 1)
def X7 (ps:List Int) (l:List Int):List Int:=ps.foldl bump l
def P4 (g:Graph) (i:Nat):List Int:=(g.take i).foldl (fun l c=>X7 c.Parents l) (List.replicate g.length 0)
theorem A72 {l:List Int} {i p:Nat} {v:Int} (h:i < l.length):atG (l.set i v) p=if i=p then v else atG l p:=by
 unfold atG
 rw [L36]
 split
 ·rename_i e;subst e;simp [h]
 ·rfl
theorem C02:∀(ps:List Int) (l:List Int),(X7 ps l).length=l.length
 | [],_=>rfl
 | p::r,l=>by show (X7 r (bump l p)).length=_;rw [C02 r];simp [bump]
theorem C79 {n:Int}:∀{ps:List Int} {l:List Int},(∀p∈ps,0≤p∧p < l.length)→ps.Nodup→∀p:Nat,atG (X7 ps l) p=atG l p+(if (p:Int)∈ps then 1 else 0)
 | [],l,_,_,p=>by simp [X7]
 | q::r,l,h,hn,p=>by
  show atG (X7 r (bump l q)) p=_
  have hq:=h q (by simp)
  have hn:=List.nodup_cons.1 hn
  rw [C79 (n:=n) (fun x hx=>by have:=h x (by simp [hx]);simpa [bump] using this) hn.2 p]
  unfold bump
  rw [A72 (by omega)]
  by_cases e:q.toNat=p
  ·have e2:(p:Int)=q:=by omega
   have h2:¬(p:Int)∈r:=by rw [e2];exact hn.1
   rw [if_pos e,if_neg h2,e2,if_pos (by simp),e];omega
  ·have e2:((p:Int)∈q::r)↔(p:Int)∈r:=by
    rw [L11]
    exact ⟨fun h=>h.resolve_left (by omega),.inr⟩
   rw [if_neg e]
   simp only [e2]
theorem A29 (g:Graph):∀i,(P4 g i).length=g.length:=by
 intro i
 unfold P4
 have key:∀(cs:List Commit) (l:List Int),(cs.foldl (fun l c=>X7 c.Parents l) l).length=l.length:=by
  intro cs
  induction cs with
  | nil=>intro l;rfl
  | cons c r ih=>intro l;rw [L12,ih,C02]
 rw [key];simp
theorem C55 {g:Graph} {i:Nat} (hi:i < g.length):P4 g (i+1)=X7 (E6 g i) (P4 g i):=by
 unfold P4
 rw [List.take_add_one,K82 hi,Option.toList_some,L27,S8 hi];rfl
theorem C03 {g:Graph} (hr:related g=true) (p:Nat) (hp:p < g.length):∀i,i≤g.length→atG (P4 g i) p=((List.range i).countP fun c:Nat=>decide ((p:Int)∈E6 g c):Nat)
 | 0,_=>by
  unfold P4 atG
  simp [List.getElem?_replicate,hp]
 | i+1,hi=>by
  have hpr:=K6 hr i
  rw [C55 (by omega),C79 (n:=0) (fun q hq=>by rw [A29];exact hpr.1 q hq) hpr.2,C03 hr p hp i (by omega),L28,List.countP_append]
  by_cases h:(p:Int)∈E6 g i<;>simp [h]
theorem E00 {g:Graph} (hr:related g=true) (p:Nat) (hp:p < g.length):atG (P4 g g.length) p=D15 g [] p:=by
 rw [C03 hr p hp _ (Nat.le_refl _)]
 unfold D15
 simp
def U5 (ch:List Int) (i:Nat):List Int:=((List.range i).filter fun c=>decide (atG ch c=0)).map fun c:Nat=>(c:Int)
theorem G68 (ch:List Int) (i:Nat):U5 ch (i+1)=if atG ch i=0 then U5 ch i++[(i:Int)] else U5 ch i:=by
 unfold U5
 rw [L28,L32,L08]
 by_cases h:atG ch i=0<;>simp [h]
theorem E01 (ch:List Int) (i p:Nat):(p:Int)∈U5 ch i↔p < i∧atG ch p=0:=by
 unfold U5
 rw [List.mem_map]
 constructor
 ·rintro ⟨c,hc,e⟩
  have e:c=p:=Int.ofNat.inj e
  subst e
  rw [List.mem_filter,List.mem_range,decide_eq_true_eq] at hc
  exact hc
 ·rintro ⟨h1,h2⟩
  exact ⟨p,by rw [List.mem_filter,List.mem_range,decide_eq_true_eq];exact ⟨h1,h2⟩,rfl⟩
theorem C04 {ch:List Int} {i:Nat}:∀x∈U5 ch i,0≤x∧x < i:=by
 intro x hx
 unfold U5 at hx
 obtain ⟨c,hc,rfl⟩:=List.mem_map.1 hx
 have:=List.mem_range.1 (List.mem_filter.1 hc).1
 omega
theorem C56 (ch:List Int) (i:Nat):(U5 ch i).Nodup:=by
 unfold U5
 exact (List.nodup_range.filter _).map (fun i:Nat=>(i:Int)) fun _ _ hne e=>hne (Int.ofNat.inj e)
theorem H73 (ch:List Int) (i:Nat):(U5 ch i).length≤i:=b8 (C56 ch i) C04
theorem KInv.start {g:Graph} (hr:related g=true):KInv g 0 0 (P4 g g.length) (U5 (P4 g g.length) g.length) where
 len:=A29 g _
 nodup:=C56 _ _
 rng:=C04
 cnt:=fun p hp=>by
  have:=E00 hr p hp
  unfold atG at this
  rw [this,List.take_zero,List.take_zero];simp
 zero:=fun p hp=>by
  have:=E01 (P4 g g.length) g.length p
  rw [this]
  exact ⟨fun h=>h.2,fun h=>⟨hp,h⟩⟩
 kids:=fun j hj c hc=>by
  have h1:=C04 _ (K85 hj)
  have h2:=(E01 (P4 g g.length) g.length ((U5 (P4 g g.length) g.length)[j]).toNat).1 (by rw [Int.toNat_of_nonneg h1.1];exact K85 hj)
  rw [E00 hr _ h2.1] at h2
  have hlt:c < g.length:=by
   apply Classical.byContradiction
   intro hn;rw [B17 hn] at hc;cases hc
  have:=G03 (g:=g) (ex:=[]) (p:=((U5 (P4 g g.length) g.length)[j]).toNat) (by omega) hlt (by rw [Int.toNat_of_nonneg h1.1];exact hc)
  cases this
theorem KInv.le {g:Graph} {k i:Nat} {ch out:List Int} (h:KInv g k i ch out):out.length≤g.length:=b8 h.nodup h.rng
theorem A08 {α:Type} {l m:List α} {k:Nat} (h:k≤l.length):(l++m).take k=l.take k:=by rw [List.take_append_of_le_length h]
theorem H74 {α:Type} {l m:List α} {k:Nat} {d:α} (h:k < l.length):(l++m).getD k d=l.getD k d:=by
 rw [K88,K88,K97 h]
theorem R9 {α:Type} {l:List α} {i:Nat} {x:α} (h:i < l.length):x∈l.take (i+1)↔x∈l.take i∨x=l[i]:=by
 rw [List.take_add_one,K82 h,Option.toList_some,L07,List.mem_singleton]
theorem X8 {α:Type} {l:List α} (hn:l.Nodup) {i:Nat} (h:i < l.length):l[i]∉l.take i:=by
 intro hm
 obtain ⟨j,hj,e⟩:=List.getElem_of_mem hm
 rw [K92] at hj
 rw [List.getElem_take] at e
 have:=(List.getElem_inj (i:=j) (j:=i) (h₀:=by omega) (h₁:=h) hn).1 e
 omega
theorem KInv.step {g:Graph} (hr:related g=true) {k i:Nat} {ch out:List Int} (h:KInv g k i ch out) (hk:k < out.length) {c p:Nat} (hc:out[k]=(c:Int)) (hi:i < (E6 g c).length) (hp:(E6 g c)[i]=(p:Int)) :
  p < g.length∧1≤atG ch p∧atG ch p≤g.length∧KInv g k (i+1) (X2 ch p) (if atG ch p - 1=0 then out++[(p:Int)] else out):=by
 have hpr:=K6 hr c
 have hpm:(p:Int)∈E6 g c:=by rw [←hp];exact K85 hi
 have hplt:p < g.length:=by have:=hpr.1 p hpm;omega
 have hclt:c < g.length:=by have:=h.rng out[k] (K85 hk);omega
 have hg0:out.getD k 0=(c:Int):=by rw [K88,K82 hk];exact hc
 have hnt:(c:Int)∉out.take k:=by rw [←hc];exact X8 h.nodup hk
 have hnp:(p:Int)∉(E6 g c).take i:=by rw [←hp];exact X8 hpr.2 hi
 have h1:=h.cnt p hplt
 rw [hg0,K84,if_neg hnp] at h1
 have h2:=G02 (g:=g) (ex:=out.take k) (x:=c) (p:=p) hnt hclt
 rw [if_pos hpm] at h2
 have hle:D15 g (out.take k) p≤g.length:=by
  unfold D15
  have:=List.countP_le_length (p:=fun c:Nat=>decide ((c:Int)∉out.take k∧(p:Int)∈E6 g c)) (l:=List.range g.length)
  rwa [L15] at this
 have hat:atG ch p=ch[p]?.getD 0:=rfl
 have hge:1≤atG ch p:=by omega
 have hnout:(p:Int)∉out:=fun hm=>by have:=(h.zero p hplt).1 hm;omega
 have hst:∀q,atG (X2 ch p) q=if p=q then atG ch p - 1 else atG ch q:=fun q=>by
  unfold X2
  rw [K84,A72 (by rw [h.len];exact hplt)]
 refine ⟨hplt,hge,by omega,?_⟩
 have htake:(if atG ch p - 1=0 then out++[(p:Int)] else out).take k=out.take k:=by split<;>first | exact A08 (by omega) | rfl
 have hget:(if atG ch p - 1=0 then out++[(p:Int)] else out).getD k 0=out.getD k 0:=by split<;>first | exact H74 hk | rfl
 refine ⟨by unfold X2;rw [L06];exact h.len,?_,?_,?_,?_,?_⟩
 ·split
  ·exact List.nodup_append.2 ⟨h.nodup,by simp,fun x hx y hy e=>by rw [List.mem_singleton.1 hy] at e;exact hnout (e ▸ hx)⟩
  ·exact h.nodup
 ·intro x hx
  split at hx
  ·rcases List.mem_append.1 hx with hx | hx
   ·exact h.rng x hx
   ·rw [List.mem_singleton.1 hx];omega
  ·exact h.rng x hx
 ·intro q hq
  rw [htake,hget,hg0,K84]
  have e1:=hst q
  have e2:atG (X2 ch p) q=(X2 ch p)[q]?.getD 0:=rfl
  rw [←e2,e1]
  by_cases e:p=q
  ·subst e
   rw [if_pos rfl,if_pos ((R9 hi).2 (.inr hp.symm))];omega
  ·rw [if_neg e]
   have h3:=h.cnt q hq
   rw [hg0,K84] at h3
   have h4:((q:Int)∈(E6 g c).take (i+1))↔(q:Int)∈(E6 g c).take i:=by
    rw [R9 hi,hp]
    exact ⟨fun h=>h.resolve_right (by omega),.inl⟩
   simp only [h4]
   exact h3
 ·intro q hq
  have e1:=hst q
  have e2:atG (X2 ch p) q=(X2 ch p)[q]?.getD 0:=rfl
  rw [←e2,e1]
  by_cases e:p=q
  ·subst e
   rw [if_pos rfl]
   split
   ·rename_i h0;simp [h0]
   ·rename_i h0;exact ⟨fun hm=>absurd hm hnout,fun e=>absurd e h0⟩
  ·rw [if_neg e]
   have h3:=h.zero q hq
   split
   ·rw [L07,List.mem_singleton]
    exact ⟨fun hm=>h3.1 (hm.resolve_right (by omega)),fun e=>.inl (h3.2 e)⟩
   ·exact h3
 ·intro j hj x hx
  split at hj
  ·rename_i h0
   simp only [h0,if_true] at hx ⊢
   by_cases hjl:j < out.length
   ·rw [L34 hjl] at hx
    rw [A08 (by omega)]
    exact h.kids j hjl x hx
   ·have hje:j=out.length:=by rw [K86,List.length_singleton] at hj;omega
    subst hje
    rw [L33 (Nat.le_refl _)] at hx
    simp only [L31,List.getElem_cons_zero] at hx
    have hxl:x < g.length:=by
     apply Classical.byContradiction
     intro hn;rw [B17 hn] at hx;cases hx
    have hz:D15 g (out.take k++[(c:Int)]) p=0:=by omega
    have:=G03 hz hxl hx
    rw [A08 (Nat.le_refl _),K89]
    rcases List.mem_append.1 this with hm | hm
    ·exact List.mem_of_mem_take hm
    ·rw [List.mem_singleton.1 hm,←hc];exact K85 hk
  ·rename_i h0
   simp only [h0,if_false] at hx ⊢
   exact h.kids j hj x hx
theorem KInv.next {g:Graph} {k:Nat} {ch out:List Int} (hk:k < out.length) {c:Nat} (hc:out[k]=(c:Int)) (h:KInv g k (E6 g c).length ch out):KInv g (k+1) 0 ch out where
 len:=h.len
 nodup:=h.nodup
 rng:=h.rng
 cnt:=fun p hp=>by
  have h1:=h.cnt p hp
  have hg0:out.getD k 0=(c:Int):=by rw [K88,K82 hk];exact hc
  have hclt:c < g.length:=by have:=h.rng out[k] (K85 hk);omega
  rw [hg0,K84,K89] at h1
  have h2:=G02 (g:=g) (ex:=out.take k) (x:=c) (p:=p) (by rw [←hc];exact X8 h.nodup hk) hclt
  have e:out.take (k+1)=out.take k++[(c:Int)]:=by rw [List.take_add_one,K82 hk,Option.toList_some,hc]
  rw [e,List.take_zero,if_neg (by simp)]
  split at h1
  ·rename_i hm;rw [if_pos hm] at h2;omega
  ·rename_i hm;rw [if_neg hm] at h2;omega
 zero:=h.zero
 kids:=h.kids
def W5:List Commit→Int
 | []=>0
 | c::r=>if F8 c.Files≠0 then F8 c.Files else W5 r
def W6 (g:Graph):Bool:=decide (g.length≤300)&&!g.any fun c=>decide (c.Parents.length > 32)
def A73 (g:Graph):Bool:=g.any fun c=>decide (c.Date < 0∨c.Date > 2147483647)
def K7 (g:Graph):Int:=if W6 g=false then 1 else if related g=false then 230 else if cyclic g=true then 231 else if A73 g=true then 3 else W5 g
theorem C57:∀{g:List Commit},W5 g=0→∀c∈g,F8 c.Files=0
 | [],_,_,hc=>by cases hc
 | d::r,h,c,hc=>by
  unfold W5 at h
  split at h
  ·rename_i h1;exact absurd h h1
  ·rename_i h1
   rcases List.mem_cons.1 hc with rfl | hc
   ·simpa using h1
   ·exact C57 h c hc
structure Valid (g:Graph):Prop where
 len:g.length≤300
 pars:∀c∈g,c.Parents.length≤32
 rel:related g=true
 acyc:∀c,¬Reaches g c c
 tree:∀c∈g,F8 c.Files=0
theorem b9 {g:Graph} (h:K7 g=0):Valid g:=by
 unfold K7 at h
 split at h
 ·cases h
 ·rename_i h1
  split at h
  ·cases h
  ·rename_i h2
   split at h
   ·cases h
   ·rename_i h3
    split at h
    ·cases h
    ·have h1:W6 g=true:=by simpa using h1
     unfold W6 at h1
     rw [K83,decide_eq_true_eq] at h1
     have h2:related g=true:=by simpa using h2
     refine ⟨h1.1,fun c hc=>?_,h2,fun c hc=>h3 ((B49 h2).2 ⟨c,hc⟩),fun c hc=>C57 h c hc⟩
     apply Classical.byContradiction
     intro hn
     have:g.any (fun c=>decide (c.Parents.length > 32))=true:=List.any_eq_true.2 ⟨c,hc,by simp;omega⟩
     rw [this] at h1;cases h1.2
end Go.AL
namespace Go.AL
open Go
def V2 (i j:Int):List Span→Int→Int→List Change
 | [],m,n=>if m > i∨n > j then [⟨i,m - i,j,n - j⟩] else []
 | x::r,m,n=>(if x.From > i∨x.To > j then [⟨i,x.From - i,j,x.To - j⟩] else [])++V2 (x.From+1) (x.To+1) r m n
def C05 (p:List Span) (m n:Int):List Change:=V2 0 0 p m n
theorem F59 (p:List Span) (i j m n:Int):(V2 i j p m n).length≤p.length+1:=by
 induction p generalizing i j with
 | nil=>unfold V2;split<;>simp
 | cons x r ih=>unfold V2;have:=ih (x.From+1) (x.To+1);split<;>simp<;>omega
def Q5 (i j:Int) (n:Nat):List Span:=(List.range n).map fun (t:Nat)=>⟨i+(t:Int),j+(t:Int)⟩
theorem F10 (i j:Int) (n:Nat):(Q5 i j n).length=n:=by simp [Q5]
theorem B50 (i j:Int) (n:Nat):Q5 i j (n+1)=⟨i,j⟩::Q5 (i+1) (j+1) n:=by
 unfold Q5
 rw [List.range_succ_eq_map,L01,L19]
 congr 1
 ·simp
 ·refine List.map_congr_left fun t _=>?_
  simp only [Function.comp,Span.mk.injEq]
  omega
def B18 (i j:Int):List Change→Int→List Span
 | [],m=>Q5 i j (m - i).toNat
 | c::r,m=>Q5 i j (c.Old - i).toNat++B18 (max i c.Old+c.OldLen) (j+(c.Old - i).toNat+c.NewLen) r m
def J95 (l:List Change) (m:Int):List Span:=B18 0 0 l m
def dist:List Int→List Int→Nat
 | [],b=>b.length
 | x::a,[]=>(x::a).length
 | x::a,y::b=>if x=y then dist a b else 1+min (dist a (y::b)) (dist (x::a) b)
theorem D16 (a:List Int):dist a []=a.length:=by cases a<;>simp [dist]
theorem G69 (a b:List Int):dist a b≤a.length+b.length:=by
 induction a generalizing b with
 | nil=>simp [dist]
 | cons x a iha =>
  induction b with
  | nil=>simp [dist]
  | cons y b ihb =>
   unfold dist
   split
   ·have:=iha b;simp;omega
   ·have:=iha (y::b);have:=ihb;simp only [K87] at *;omega
def L4 (i j:Int):List Int→List Int→List Span
 | [],_=>[]
 | _::_,[]=>[]
 | x::a,y::b=>if x=y then ⟨i,j⟩::L4 (i+1) (j+1) a b else if dist a (y::b)+1=dist (x::a) (y::b) then L4 (i+1) j a (y::b) else L4 i (j+1) (x::a) b
def B51 (a b:List Int):List Change:=C05 (L4 0 0 a b) a.length b.length
theorem J96 (a b:List Int) (i j:Nat) (hi:i < a.length) (hj:j < b.length) :
  dist (a.drop i) (b.drop j)=if a[i]=b[j] then dist (a.drop (i+1)) (b.drop (j+1)) else 1+min (dist (a.drop (i+1)) (b.drop j)) (dist (a.drop i) (b.drop (j+1))):=by
 rw [K91 hi,K91 hj]
 conv=>lhs;rw [dist]
theorem E02 (a b:List Int) (i j:Nat) (hi:i < a.length) (hj:j < b.length) (p q:Int) :
  L4 p q (a.drop i) (b.drop j)=if a[i]=b[j] then ⟨p,q⟩::L4 (p+1) (q+1) (a.drop (i+1)) (b.drop (j+1)) else
   if dist (a.drop (i+1)) (b.drop j)+1=dist (a.drop i) (b.drop j) then L4 (p+1) q (a.drop (i+1)) (b.drop j) else L4 p (q+1) (a.drop i) (b.drop (j+1)):=by
 rw [K91 hi,K91 hj]
 conv=>lhs;rw [L4]
theorem Y4 (p q:Int) (b:List Int):L4 p q [] b=[]:=by simp [L4]
theorem w9 (p q:Int) (a:List Int):L4 p q a []=[]:=by cases a<;>simp [L4]
theorem C58 (p q:Int) (a b:List Int):(L4 p q a b).length≤a.length:=by
 induction a generalizing p q b with
 | nil=>simp [L4]
 | cons x a iha =>
  induction b generalizing p q with
  | nil=>simp [L4]
  | cons y b ihb =>
   unfold L4
   split
   ·have:=iha (p+1) (q+1) b;simp;omega
   ·split
    ·have:=iha (p+1) q (y::b);simp;omega
    ·exact ihb p (q+1)
universe u
theorem G04 {α:Type u} (n k:Nat) (f g:Nat→α) (v:α) (hv:k < n→g k=v) (h:∀q,q < n→q≠k→g q=f q):((List.range n).map f).set k v=(List.range n).map g:=by
 refine List.ext_getElem (by simp) fun q h1 h2=>?_
 have hq:q < n:=by simpa using h2
 rw [List.getElem_set]
 by_cases he:k=q
 ·subst he;simp [hv hq]
 ·rw [if_neg he];simp [h q hq (Ne.symm he)]
theorem J97 {α:Type u} (n k:Nat) (f:Nat→α) (h:k < n):((List.range n).map f)[k]?=some (f k):=by simp [h]
theorem B52 (i j:Int):Q5 i j 0=[]:=rfl
theorem G70 (i j:Int) (n:Nat):Q5 i j (n+1)=Q5 i j n++[⟨i+n,j+n⟩]:=by simp [Q5,L28]
def Asc (m n:Int):Int→Int→List Span→Prop
 | i,j,[]=>i≤m∧j≤n
 | i,j,x::r=>i≤x.From∧j≤x.To∧Asc m n (x.From+1) (x.To+1) r
theorem Asc.le {m n:Int}:∀{p:List Span} {i j:Int},Asc m n i j p→i≤m∧j≤n
 | [],i,j,h=>h
 | x::r,i,j,h=>by have:=Asc.le h.2.2;have:=h.1;have:=h.2.1;omega
theorem Asc.weaken {m n:Int} {p:List Span} {i j i' j':Int} (h:Asc m n i j p) (hi:i'≤i) (hj:j'≤j):Asc m n i' j' p:=by
 cases p with
 | nil=>exact ⟨by have:=h.1;omega,by have:=h.2;omega⟩
 | cons x r=>exact ⟨by have:=h.1;omega,by have:=h.2.1;omega,h.2.2⟩
theorem C80 (a b:List Int):∀(p q:Int),Asc (p+a.length) (q+b.length) p q (L4 p q a b):=by
 induction a generalizing b with
 | nil=>intro p q;rw [Y4];simp only [Asc,K90];omega
 | cons x a iha =>
  induction b with
  | nil=>intro p q;rw [w9];simp only [Asc,K90];omega
  | cons y b ihb =>
   intro p q
   rw [L4]
   split
   ·have:=iha b (p+1) (q+1)
    refine ⟨Int.le_refl _,Int.le_refl _,?_⟩
    simp only [K87]
    rwa [show p+((a.length+1:Nat):Int)=p+1+a.length by omega,show q+((b.length+1:Nat):Int)=q+1+b.length by omega]
   ·split
    ·have:=(iha (y::b) (p+1) q).weaken (i':=p) (j':=q) (by omega) (Int.le_refl _)
     rwa [show p+((x::a).length:Int)=p+1+a.length by simp;omega]
    ·have:=(ihb p (q+1)).weaken (i':=p) (j':=q) (Int.le_refl _) (by omega)
     rwa [show q+((y::b).length:Int)=q+1+b.length by simp;omega]
theorem Asc.made {m n:Int}:∀{p:List Span} {i j:Int},Asc m n i j p→∀c∈V2 i j p m n,i≤c.Old∧j≤c.New∧0≤c.OldLen∧0≤c.NewLen∧c.Old+c.OldLen≤m∧c.New+c.NewLen≤n
 | [],i,j,h,c,hc=>by
  unfold V2 at hc
  split at hc
  ·simp only [List.mem_singleton] at hc;subst hc
   have:=h.1;have:=h.2
   simp only;omega
  ·cases hc
 | x::r,i,j,h,c,hc=>by
  unfold V2 at hc
  obtain ⟨h1,h2,h3⟩:=h
  have h4:=h3.le
  rcases List.mem_append.1 hc with hc | hc
  ·split at hc
   ·simp only [List.mem_singleton] at hc;subst hc
    simp only;omega
   ·cases hc
  ·have:=Asc.made h3 c hc;omega
theorem G71 (a b:List Int):∀c∈B51 a b,0≤c.Old∧0≤c.New∧0≤c.OldLen∧0≤c.NewLen∧c.Old+c.OldLen≤a.length∧c.New+c.NewLen≤b.length:=by
 have:=C80 a b 0 0
 rw [Int.zero_add,Int.zero_add] at this
 exact this.made
end Go.AL
namespace Go.AL
open Go
def bitAt (m:Int) (c:Nat):Bool:=m / 2 ^ c % 2 == 1
def visB (r:Row) (c:Int):Bool:=if c = -1 then !r.Lost else if c < -1∨32≤c then false else bitAt r.Marks c.toNat == r.Lost
def colOf (rows:List Row) (c:Int):List Str:=(rows.filter (visB · c)).map (·.Text)
def markOk (n:Nat) (r:Row):Bool:=r.Marks / 2 ^ n == 0&&!(r.Lost&&r.Marks == 0)
theorem u64_id {n:Int} (h:0≤n∧n < 18446744073709551616):IntKind.u64.wrap n=n:=by simp [IntKind.wrap,IntKind.signed,IntKind.bits];omega
end Go.AL
namespace Go.AL
open Go
abbrev Loom:=List Int × (Nat→List (List Int))
structure LoomOk (Q:Int→Prop) (B lines n:Nat) (s:Loom):Prop where
 len:s.1.length=lines
 marks:∀m∈s.1,0≤m∧m < 4294967296
 gaps:∀k,(s.2 k).length=n∧∀x∈s.2 k,x.length≤B∧∀v∈x,Q v
theorem F11 (l:List Str) (s:Str):∀k:Int,0≤k→s∈l→k≤N8 l s k∧N8 l s k < k+l.length:=by
 induction l with
 | nil=>intro k _ h;cases h
 | cons x r ih =>
  intro k hk h
  unfold N8
  by_cases hx:x=s
  ·rw [if_pos hx];simp;omega
  ·rw [if_neg hx]
   have:=ih (k+1) (by omega) (by rcases List.mem_cons.1 h with rfl | h;exact absurd rfl hx;exact h)
   simp only [K87];omega
theorem E28 (l:List Str):∀(out:List Str) (s:Str),s∈out∨s∈l→s∈l.foldl O0 out:=by
 induction l with
 | nil=>intro out s h;rcases h with h | h;exact h;cases h
 | cons x r ih =>
  intro out s h
  apply ih
  rcases h with h | h
  ·left;unfold O0;split;exact h;exact List.mem_append_left _ h
  ·rcases List.mem_cons.1 h with rfl | h
   ·left;unfold O0;split;assumption;simp
   ·exact .inr h
theorem E03 (fs:List (List Str)) (s:Str) (f:List Str) (hf:f∈fs) (hs:s∈f):s∈H5 fs:=E28 _ _ _ (.inr (List.mem_flatten.2 ⟨f,hf,hs⟩))
end Go.AL
namespace Go.AL
open Go
theorem D17 (s:Str):Lib.hasSuffix s [10]=ended s:=by
 unfold Lib.hasSuffix ended
 rw [Bool.eq_iff_iff,List.isSuffixOf_iff_suffix,beq_iff_eq]
 constructor
 ·rintro ⟨t,rfl⟩;simp
 ·intro h
  obtain ⟨hne,h2⟩:=List.getLast?_eq_some_iff.1 h
  exact ⟨hne,h2.symm⟩
def f0 (s:Str):Str:=if ended s then s.dropLast else s
theorem F60 (s:Str):Lib.trimSuffix s [10]=f0 s:=by
 unfold Lib.trimSuffix f0
 rw [D17,List.dropLast_eq_take];rfl
theorem j8 (c:UInt8):∀l:Str,(c∉l∧Lib.indexByte l c = -1)∨∃a b,l=a++c::b∧c∉a∧Lib.indexByte l c=a.length
 | []=>.inl ⟨by simp,rfl⟩
 | x::l=>by
  unfold Lib.indexByte
  by_cases hx:x=c
  ·exact .inr ⟨[],l,by rw [hx];rfl,by simp,by simp [hx]⟩
  ·rcases j8 c l with ⟨h1,h2⟩ | ⟨a,b,h1,h2,h3⟩
   ·exact .inl ⟨by simp [h1,Ne.symm hx],by simp [hx,h2]⟩
   ·refine .inr ⟨x::a,b,by rw [h1];rfl,by simp [h2,Ne.symm hx],?_⟩
    have h4:¬((a.length:Int) = -1):=by omega
    simp [hx,h3,h4]
theorem C59 (c:UInt8) (l:Str):0≤Lib.indexByte l c↔c∈l:=by
 rcases j8 c l with ⟨h1,h2⟩ | ⟨a,b,h1,h2,h3⟩
 ·rw [h2];simp [h1]
 ·rw [h3,h1];simp
def and32 (a b:Int):Int:=IntKind.u32.wrap ((BitVec.ofInt IntKind.u32.bits a &&& BitVec.ofInt IntKind.u32.bits b).toNat:Int)
def not32 (a:Int):Int:=IntKind.u32.wrap ((BitVec.ofInt IntKind.u32.bits IntKind.u32.max ^^^ BitVec.ofInt IntKind.u32.bits a).toNat:Int)
def inOf (r:Row):Int:=if r.Lost then r.Marks else not32 r.Marks
def addOk (res:Bool) (par:Int) (r:Row):Bool:=decide (and32 par (inOf r)=0)&&(r.Lost||!res)
structure EndsAt (res:Bool) (par:Int) (bad:Int→Bool):Prop where
 res:res=bad (-1)
 par:∃p:Nat,p < 4294967296∧par=p∧∀c:Nat,c < 32→p.testBit c=bad c
end Go.AL
namespace Go.AL
open Go
def plainB (c:UInt8):Bool:=decide (33≤c.toNat∧c.toNat≤126∧c.toNat≠34∧c.toNat≠92)
def digs8:Str:=[48,49,50,51,52,53,54,55]
def octOf (c:UInt8):Str:=(digs8.drop (c.toNat / 64)).take 1++(digs8.drop (c.toNat / 8 % 8)).take 1++(digs8.drop (c.toNat % 8)).take 1
def escOf (c:UInt8):Str:=if c.toNat=34∨c.toNat=92 then [92,c] else if c.toNat=10 then [92,110] else if c.toNat=9 then [92,116] else if c.toNat < 32∨126 < c.toNat then 92::octOf c else [c]
def J28 (s:Str):Str:=if s≠[]∧s.all plainB=true then s else 34::((s.map escOf).flatten++[34])
def J29 (n:Int):Str:=if n < 0∨2147483647 < n then [] else Lib.itoa n
def J30 (a n:Int):Str:=if a < 0∨n < 0∨2147483647 < a∨2147483647 - a < n then [] else if n=0 then J29 a++[44,48] else if n=1 then J29 (a+1) else J29 (a+1)++[44]++J29 n
end Go.AL
namespace Go.AL
open Go
def P5 (cur:Str):Str→List Str
 | []=>[cur]
 | c::r=>if c=10 then (cur++[c])::P5 [] r else P5 (cur++[c]) r
def R6 (b:Str):List Str:=P5 [] b
theorem F61 (a cur:Str) (h:(10:UInt8)∉a):P5 cur a=[cur++a]:=by
 induction a generalizing cur with
 | nil=>simp [P5]
 | cons c r ih =>
  simp only [L11,not_or] at h
  rw [P5,if_neg (fun e=>h.1 e.symm),ih _ h.2];simp
theorem G72 (a b cur:Str) (h:(10:UInt8)∉a):P5 cur (a++10::b)=(cur++a++[10])::P5 [] b:=by
 induction a generalizing cur with
 | nil=>simp [P5]
 | cons c r ih =>
  simp only [L11,not_or] at h
  rw [L05,P5,if_neg (fun e=>h.1 e.symm),ih _ h.2];simp
theorem c5 (s cur:Str):(P5 cur s).length=s.count 10+1:=by
 induction s generalizing cur with
 | nil=>rfl
 | cons c r ih =>
  by_cases hc:c=10
  ·subst hc;rw [P5,if_pos rfl,K87,ih,List.count_cons_self]
  ·rw [P5,if_neg hc,ih,List.count_cons_of_ne hc]
theorem H75 (s cur:Str):J3 cur s=if (P5 cur s).getLastD []=[] then (P5 cur s).dropLast else P5 cur s:=by
 induction s generalizing cur with
 | nil=>by_cases h:cur=[]<;>simp [J3,P5,h]
 | cons c r ih =>
  rw [J3,P5]
  by_cases hc:c=10
  ·rw [if_pos hc,if_pos hc,ih]
   have hn:P5 [] r≠[]:=fun e=>by have:=c5 r [];rw [e] at this;simp at this
   obtain ⟨x,y,hxy⟩:=List.exists_cons_of_ne_nil hn
   rw [hxy]
   have e1:((cur++[c])::x::y).getLastD []=(x::y).getLastD []:=by cases y<;>simp [List.getLastD]
   rw [e1]
   split
   ·rfl
   ·rfl
  ·rw [if_neg hc,if_neg hc,ih]
theorem F12 (s cur:Str):(J3 cur s).length=s.count 10+if s=[] then (if cur=[] then 0 else 1) else if ended s=true then 0 else 1:=by
 induction s generalizing cur with
 | nil=>by_cases h:cur=[]<;>simp [J3,h]
 | cons c r ih =>
  have he:ended (c::r)=if r=[] then c == 10 else ended r:=by
   cases r with
   | nil=>simp [ended]
   | cons d t=>simp [ended,List.getLast?_cons_cons]
  rw [J3,if_neg (List.cons_ne_nil _ _),he]
  by_cases hc:c=10
  ·subst hc
   rw [if_pos rfl,K87,ih,List.count_cons_self]
   by_cases hr:r=[]<;>simp [hr]
   omega
  ·rw [if_neg hc,ih,List.count_cons_of_ne hc]
   by_cases hr:r=[]<;>simp [hr,hc]
theorem A99 (s:Str):(F1 s).length=s.count 10+if s≠[]∧ended s=false then 1 else 0:=by
 unfold F1
 rw [F12]
 by_cases hs:s=[]<;>simp [hs]
 cases ended s<;>simp
theorem I83 {P:List Str} {i:Nat} {r a b:Str} (h:P.drop i=R6 r) (hr:r=a++10::b) (ha:(10:UInt8)∉a):P[i]?=some (a++[10])∧P.drop (i+1)=R6 b:=by
 have e:R6 r=(a++[10])::R6 b:=by rw [hr];unfold R6;rw [G72 _ _ _ ha];rfl
 rw [e] at h
 refine ⟨by rw [←List.head?_drop,h];rfl,?_⟩
 rw [←List.tail_drop,h];rfl
theorem G05 {α:Type} (P:List α) (z x:α) (i:Nat) (h:P[i]?=some x):(P.take i++List.replicate (P.length - i) z).set i x=P.take (i+1)++List.replicate (P.length - (i+1)) z:=by
 obtain ⟨hi,hx⟩:=List.getElem?_eq_some_iff.1 h
 have hl:(P.take i).length=i:=by rw [K92];omega
 rw [List.set_append_right _ _ (by omega),hl,L31,show P.length - i=(P.length - (i+1))+1 by omega,List.replicate_succ,List.set_cons_zero,L24 hi,hx,K96]
 rfl
def d6 (b:Str):List Str × Int:=if b.length > 1048576∨(F1 b).length > 4096 then ([],1) else (F1 b,0)
end Go.AL
namespace Go.AL
open Go
def O2 (n:Int):Prop:=0≤n∧n≤4096
instance (n:Int):Decidable (O2 n):=by unfold O2;exact inferInstance
def badC (k:Nat) (i j:Int) (c:Change):Prop:=((((((¬O2 c.Old∨¬O2 c.OldLen)∨¬O2 c.New)∨¬O2 c.NewLen)∨c.OldLen+c.NewLen=0)∨c.Old - i≠c.New - j)∨c.Old < i)∨(0 < (k:Int)∧c.Old=i)
instance (k:Nat) (i j:Int) (c:Change):Decidable (badC k i j c):=by unfold badC;exact inferInstance
def O3 (k:Nat) (i j:Int):List Change→Int→Int→Bool
 | [],m,n=>decide (¬(m - i≠n - j∨m < i))
 | c::r,m,n=>decide (¬badC k i j c)&&O3 (k+1) (c.Old+c.OldLen) (c.New+c.NewLen) r m n
def check8 (l:List Change) (m n:Int):Int:=if ¬O2 m∨¬O2 n then 80 else if O3 0 0 0 l m n=true then 0 else 80
def ScOk (i j:Int):List Change→Int→Int→Prop
 | [],m,n=>i≤m∧j≤n
 | c::r,m,n=>O2 c.Old∧O2 c.OldLen∧O2 c.New∧O2 c.NewLen∧i≤c.Old∧j≤c.New∧ScOk (c.Old+c.OldLen) (c.New+c.NewLen) r m n
theorem C06:∀(l:List Change) (k:Nat) (i j m n:Int),O3 k i j l m n=true→ScOk i j l m n
 | [],k,i,j,m,n,h=>by simp only [O3,decide_eq_true_eq] at h;simp only [ScOk];omega
 | c::r,k,i,j,m,n,h=>by
  simp only [O3,K83,decide_eq_true_eq] at h
  obtain ⟨h1,h2⟩:=h
  unfold badC at h1
  refine ⟨?_,?_,?_,?_,?_,?_,C06 r _ _ _ m n h2⟩
  all_goals (by_cases a1:O2 c.Old<;>by_cases a2:O2 c.OldLen<;>by_cases a3:O2 c.New<;>by_cases a4:O2 c.NewLen<;>simp [a1,a2,a3,a4] at h1 ⊢<;>omega)
def cAt (l:List Change) (k:Nat):Change:=l.getD k ⟨0,0,0,0⟩
theorem ScOk.end_le:∀{l:List Change} {i j m n:Int},ScOk i j l m n→i≤m∧j≤n
 | [],_,_,_,_,h=>h
 | c::r,i,j,m,n,⟨h1,h2,h3,h4,h5,h6,h7⟩=>by have:=h7.end_le;unfold O2 at *;omega
theorem ScOk.get:∀{l:List Change} {i j m n:Int} (k:Nat),ScOk i j l m n→k < l.length→O2 (cAt l k).Old∧O2 (cAt l k).OldLen∧O2 (cAt l k).New∧O2 (cAt l k).NewLen∧(cAt l k).Old+(cAt l k).OldLen≤m∧(cAt l k).New+(cAt l k).NewLen≤n
 | c::r,i,j,m,n,0,⟨h1,h2,h3,h4,h5,h6,h7⟩,_=>by have:=h7.end_le;exact ⟨h1,h2,h3,h4,this.1,this.2⟩
 | c::r,i,j,m,n,k+1,⟨h1,h2,h3,h4,h5,h6,h7⟩,hk=>by
  have:=h7.get k (by simpa using hk)
  simpa [cAt] using this
theorem ScOk.next:∀{l:List Change} {i j m n:Int} (k:Nat),ScOk i j l m n→k+1 < l.length→(cAt l k).Old+(cAt l k).OldLen≤(cAt l (k+1)).Old
 | [c],_,_,_,_,_,_,hk=>by simp at hk
 | c::c2::r,i,j,m,n,0,⟨_,_,_,_,_,_,h7⟩,_=>by simpa [cAt] using h7.2.2.2.2.1
 | c::c2::r,i,j,m,n,k+1,⟨_,_,_,_,_,_,h7⟩,hk=>by
  have:=h7.next k (by simpa using hk)
  simpa [cAt] using this
theorem ScOk.mono {l:List Change} {m n:Int} (h:ScOk 0 0 l m n):∀(a b:Nat),a≤b→b < l.length→(cAt l a).Old≤(cAt l b).Old∧(cAt l a).Old+(cAt l a).OldLen≤(cAt l b).Old+(cAt l b).OldLen
 | a,0,h1,h2=>by rw [show a=0 by omega];omega
 | a,b+1,h1,h2=>by
  by_cases hab:a=b+1
  ·subst hab;omega
  ·have h3:=h.mono a b (by omega) (by omega)
   have h4:=h.next b h2
   have h5:=h.get b (by omega)
   have h6:=h.get (b+1) h2
   unfold O2 at *;omega
def G73 (a b:Int):Int:=if b < a then b else a
def opens (l:List Change) (ctx:Int) (k:Nat):Prop:=k=0∨2*ctx < (cAt l k).Old - (cAt l (k - 1)).Old - (cAt l (k - 1)).OldLen
instance (l:List Change) (ctx:Int) (k:Nat):Decidable (opens l ctx k):=by unfold opens;exact inferInstance
def J31:Hunk:=⟨0,0,⟨0,0⟩,⟨0,0⟩⟩
def B19 (l:List Change) (ctx:Int) (k:Nat):Hunk:=⟨k,0,⟨(cAt l k).Old - G73 ctx (cAt l k).Old,0⟩,⟨(cAt l k).New - G73 ctx (cAt l k).Old,0⟩⟩
def D18 (l:List Change) (m ctx:Int) (k:Nat) (h:Hunk):Hunk :=
 let c:=cAt l k
 let a:=G73 ctx (m - (c.Old+c.OldLen))
 ⟨h.First,k+1,⟨h.Old.From,c.Old+c.OldLen+a⟩,⟨h.New.From,c.New+c.NewLen+a⟩⟩
def D62 (l:List Change) (ctx:Int) (k:Nat) (out:List Hunk):List Hunk:=if opens l ctx k then out++[B19 l ctx k] else out
def Z3 (l:List Change) (m ctx:Int):Nat→List Hunk
 | 0=>[]
 | k+1=>let out:=D62 l ctx k (Z3 l m ctx k);out.set (out.length - 1) (D18 l m ctx k (out.getD (out.length - 1) J31))
theorem E04 (l:List Change) (m ctx:Int):∀k,(Z3 l m ctx k).length≤k∧(0 < k→0 < (Z3 l m ctx k).length)
 | 0=>by simp [Z3]
 | k+1=>by
  have h:=E04 l m ctx k
  simp only [Z3,L06,D62]
  split
  ·simp only [K86,K87,K90];omega
  ·rename_i ho
   have:k≠0:=fun e=>ho (.inl e)
   omega
end Go.AL
namespace Go.AL
open Go
def nameOk (s:Str):Bool:=decide (1≤s.length∧s.length≤200)
def I0 (ls:List PatchLine) (k:UInt8):List Str:=(ls.filter (fun x=>decide (x.Kind≠k))).map (·.Text)
def badLn (x:PatchLine):Prop:=((x.Kind≠32∧x.Kind≠45)∧x.Kind≠43)∨l8 x.Text=false
instance (x:PatchLine):Decidable (badLn x):=by unfold badLn;exact inferInstance
def C81 (x:PatchLine):Bool:=decide (¬badLn x)
def B00 (ls:List PatchLine):Bool:=ls.any (fun x=>decide (x.Kind≠32))
def D19 (some:Bool) (i j:Int) (h:PatchHunk):Prop:=((((some=false∨h.Old < i)∨h.New < j)∨4096 < h.Old)∨4096 < h.New)∨h.Old - i≠h.New - j
instance (s:Bool) (i j:Int) (h:PatchHunk):Decidable (D19 s i j h):=by unfold D19;exact inferInstance
def C38 (h:PatchHunk):Int:=(I0 h.Lines 43).length
def C39 (h:PatchHunk):Int:=(I0 h.Lines 45).length
def D63 (i j:Int):List PatchHunk→Bool
 | []=>true
 | h::r=>h.Lines.all C81&&(decide (¬D19 (B00 h.Lines) i j h)&&(decide (¬(4096 < h.Old+C38 h∨4096 < h.New+C39 h))&&D63 (h.Old+C38 h) (h.New+C39 h) r))
def O9 (hs:List PatchHunk) (k:UInt8):List Str:=(hs.map (fun h=>I0 h.Lines k)).flatten
def A09:List Str→Bool
 | []=>true
 | x::r=>(r.isEmpty||ended x)&&A09 r
def I84 (hs:List PatchHunk) (k:UInt8):Bool:=A09 (O9 hs k)
def D64 (hs:List PatchHunk):Bool:=D63 0 0 hs&&(I84 hs 43&&I84 hs 45)
def markS:Str:=[10,92,32,78,111,32,110,101,119,108,105,110,101,32,97,116,32,101,110,100,32,111,102,32,102,105,108,101,10]
def linePs (x:PatchLine):List Str:=if ended x.Text then [[x.Kind]++x.Text] else [[x.Kind]++x.Text,markS]
def headW (h:PatchHunk):Str:=[64,64,32,45]++J30 h.Old (C38 h)++[32,43]++J30 h.New (C39 h)++[32,64,64,10]
def hunkPs (h:PatchHunk):List Str:=headW h::(h.Lines.map linePs).flatten
def namePs (p:Patch):List Str:=[[45,45,45,32]++J28 p.OldName++[10],[43,43,43,32]++J28 p.NewName++[10]]
def writePs (p:Patch):List Str:=namePs p++(p.Hunks.map hunkPs).flatten
def J32 (p:Patch):Str:=(writePs p).flatten
def D20 (p:Patch):Int:=if nameOk p.OldName=false∨nameOk p.NewName=false then 120 else if D64 p.Hunks=false then 121 else if 16777216 < (J32 p).length then 1 else 0
def szL (x:PatchLine):Nat:=x.Text.length+64
def szH (h:PatchHunk):Nat:=64+(h.Lines.map szL).sum
def szP (hs:List PatchHunk):Nat:=(hs.map szH).sum
structure PFit (p:Patch):Prop where
 old:p.OldName.length≤4194304
 new:p.NewName.length≤4194304
 hunks:szP p.Hunks≤268435456
theorem szL_len (ls:List PatchLine):64*ls.length≤(ls.map szL).sum:=by
 induction ls with
 | nil=>simp
 | cons x r ih=>simp only [L01,List.sum_cons,K87,szL];omega
end Go.AL
namespace Go.AL
open Go
def A74 (k:UInt8) (ts:List Str):List PatchLine:=ts.map fun t=>⟨k,t⟩
def sub (x:List Str) (a b:Int):List Str:=(x.drop a.toNat).take (b.toNat - a.toNat)
def B72 (c:Change):Int:=c.Old+c.OldLen
def A75 (l:List Change) (i0:Int) (a t:Nat):Int:=if t=0 then i0 else B72 (cAt l (a+t - 1))
theorem I85 (l:List Change) (i0:Int) (a t:Nat):A75 l i0 a (t+1)=B72 (cAt l (a+t)):=by
 unfold A75;rw [if_neg (by omega)];congr 2
def A16 (l:List Change) (x y:List Str) (i0:Int) (a:Nat):Nat→List PatchLine
 | 0=>[]
 | t+1=>A16 l x y i0 a t++A74 32 (sub x (A75 l i0 a t) (cAt l (a+t)).Old)++A74 45 (sub x (cAt l (a+t)).Old (B72 (cAt l (a+t))))++A74 43 (sub y (cAt l (a+t)).New ((cAt l (a+t)).New+(cAt l (a+t)).NewLen))
def j9 (l:List Change) (x y:List Str) (h:Hunk):PatchHunk :=
 ⟨h.Old.From,h.New.From,A16 l x y h.Old.From h.First.toNat (h.Last.toNat - h.First.toNat)++A74 32 (sub x (A75 l h.Old.From h.First.toNat (h.Last.toNat - h.First.toNat)) h.Old.To)⟩
def A46 (x y:List Str):List Change:=B51 (N0 (H5 [x,y]) x) (N0 (H5 [x,y]) y)
end Go.AL
namespace Go.AL
open Go
end Go.AL
namespace Go.AL
open Go
def H76 (i j:Int) (h:PatchHunk):Prop:=((((h.Old < 0∨h.New < 0)∨4096 < h.Old)∨4096 < h.New)∨h.Old < i)∨h.Old - i≠h.New - j
instance (i j:Int) (h:PatchHunk):Decidable (H76 i j h):=by unfold H76;exact inferInstance
end Go.AL
namespace Go.AL
open Go
theorem H77 (b s:Str) (h:s∈F1 b):s.length≤b.length:=by
 have h1:(F1 b).flatten=b:=by
  have key:∀(s cur:Str),(J3 cur s).flatten=cur++s:=by
   intro s
   induction s with
   | nil=>intro cur;unfold J3;split<;>simp [*]
   | cons c r ih=>intro cur;unfold J3;split<;>simp [ih]
  exact key b []
 have h2:∀(l:List Str),s∈l→s.length≤l.flatten.length:=by
  intro l
  induction l with
  | nil=>intro h;cases h
  | cons x r ih =>
   intro h
   rcases List.mem_cons.1 h with rfl | h
   ·simp
   ·have:=ih h;simp only [L16,K86];omega
 have:=h2 _ h;rw [h1] at this;exact this
end Go.AL
namespace Go.AL
open Go
theorem E36 {x:List Str} {a b:Int} {s:Str} (h:s∈sub x a b):s∈x:=by
 unfold sub at h
 exact List.mem_of_mem_drop (List.mem_of_mem_take h)
end Go.AL
namespace Go.AL
open Go
def G74 (c:Change):Int:=c.New+c.NewLen
def eoI (i:Int) (l:List Change) (k:Nat):Int:=if k=0 then i else B72 (cAt l (k - 1))
def enI (j:Int) (l:List Change) (k:Nat):Int:=if k=0 then j else G74 (cAt l (k - 1))
theorem A10 (i:Int) (c:Change) (r:List Change) (k:Nat):eoI i (c::r) (k+1)=eoI (B72 c) r k:=by
 cases k<;>rfl
theorem A11 (j:Int) (c:Change) (r:List Change) (k:Nat):enI j (c::r) (k+1)=enI (G74 c) r k:=by
 cases k<;>rfl
theorem C07 (i:Int) (l:List Change) (k:Nat):eoI i l (k+1)=B72 (cAt l k):=rfl
theorem C08 (j:Int) (l:List Change) (k:Nat):enI j l (k+1)=G74 (cAt l k):=rfl
theorem D21 (c:Change) (r:List Change) (k:Nat):cAt (c::r) (k+1)=cAt r k:=rfl
def C09 (x y:List Str) (i j:Int):List Change→Prop
 | []=>sub x i x.length=sub y j y.length
 | c::r=>sub x i c.Old=sub y j c.New∧C09 x y (B72 c) (G74 c) r
theorem A17 (m n:Int):∀(l:List Change) (k0:Nat) (i j:Int),O3 k0 i j l m n=true→∀k,k < l.length →
  O2 (cAt l k).Old∧O2 (cAt l k).OldLen∧O2 (cAt l k).New∧O2 (cAt l k).NewLen∧(cAt l k).OldLen+(cAt l k).NewLen≠0∧(cAt l k).Old - eoI i l k=(cAt l k).New - enI j l k∧eoI i l k≤(cAt l k).Old∧(0 < k0+k→eoI i l k < (cAt l k).Old)
 | [],_,_,_,_,k,hk=>by simp at hk
 | c :: r,k0,i,j,h,k,hk=>by
  simp only [O3,K83,decide_eq_true_eq] at h
  obtain ⟨h1,h2⟩:=h
  cases k with
  | zero =>
   unfold badC at h1
   show O2 c.Old∧O2 c.OldLen∧O2 c.New∧O2 c.NewLen∧c.OldLen+c.NewLen≠0∧c.Old - i=c.New - j∧i≤c.Old∧(0 < k0+0→i < c.Old)
   have d1:O2 c.Old:=by by_cases q:O2 c.Old;exact q;exact absurd (.inl (.inl (.inl (.inl (.inl (.inl (.inl q))))))) h1
   have d2:O2 c.OldLen:=by by_cases q:O2 c.OldLen;exact q;exact absurd (.inl (.inl (.inl (.inl (.inl (.inl (.inr q))))))) h1
   have d3:O2 c.New:=by by_cases q:O2 c.New;exact q;exact absurd (.inl (.inl (.inl (.inl (.inl (.inr q)))))) h1
   have d4:O2 c.NewLen:=by by_cases q:O2 c.NewLen;exact q;exact absurd (.inl (.inl (.inl (.inl (.inr q))))) h1
   refine ⟨d1,d2,d3,d4,fun q=>h1 (.inl (.inl (.inl (.inr q)))),?_,?_,fun h0=>?_⟩
   ·by_cases q:c.Old - i=c.New - j
    ·exact q
    ·exact absurd (.inl (.inl (.inr q))) h1
   ·by_cases q:c.Old < i
    ·exact absurd (.inl (.inr q)) h1
    ·omega
   ·by_cases q:c.Old < i
    ·exact absurd (.inl (.inr q)) h1
    ·by_cases q2:c.Old=i
     ·exact absurd (.inr ⟨by omega,q2⟩) h1
     ·omega
  | succ k =>
   have:=A17 m n r (k0+1) _ _ h2 k (by simpa using hk)
   rw [D21,A10,A11]
   obtain ⟨e1,e2,e3,e4,e5,e6,e7,e8⟩:=this
   exact ⟨e1,e2,e3,e4,e5,e6,e7,fun h0=>e8 (by omega)⟩
theorem I86 (m n:Int):∀(l:List Change) (k0:Nat) (i j:Int),O3 k0 i j l m n=true→m - eoI i l l.length=n - enI j l l.length∧eoI i l l.length≤m
 | [],_,i,j,h=>by
  simp only [O3,decide_eq_true_eq] at h
  show m - i=n - j∧i≤m
  omega
 | c::r,k0,i,j,h=>by
  simp only [O3,K83,decide_eq_true_eq] at h
  rw [K87,A10,A11]
  exact I86 m n r _ _ _ h.2
theorem G75 (x y:List Str):∀(l:List Change) (i j:Int),C09 x y i j l→∀k,k < l.length→sub x (eoI i l k) (cAt l k).Old=sub y (enI j l k) (cAt l k).New
 | [],_,_,_,k,hk=>by simp at hk
 | c::r,i,j,h,k,hk=>by
  cases k with
  | zero=>exact h.1
  | succ k=>rw [A10,A11,D21];exact G75 x y r _ _ h.2 k (by simpa using hk)
theorem I87 (x y:List Str):∀(l:List Change) (i j:Int),C09 x y i j l→sub x (eoI i l l.length) x.length=sub y (enI j l l.length) y.length
 | [],_,_,h=>h
 | c::r,i,j,h=>by rw [K87,A10,A11];exact I87 x y r _ _ h.2
def mkH (l:List Change) (m ctx:Int) (a b:Nat):Hunk:=D18 l m ctx (b - 1) (B19 l ctx a)
def GrOk (l:List Change) (m ctx:Int):Nat→List Hunk→Nat→Prop
 | a,[],k=>a=k
 | a,h::r,k=>∃b,a < b∧opens l ctx a∧h=mkH l m ctx a b∧GrOk l m ctx b r k
theorem GrOk.le {l:List Change} {m ctx:Int}:∀{hs:List Hunk} {a k:Nat},GrOk l m ctx a hs k→a≤k
 | [],a,k,h=>Nat.le_of_eq h
 | _::_,a,k,⟨b,h1,_,_,h2⟩=>by have:=GrOk.le h2;omega
theorem GrOk.snoc {l:List Change} {m ctx:Int} {k:Nat} (ho:opens l ctx k):∀{hs:List Hunk} {a:Nat},GrOk l m ctx a hs k→GrOk l m ctx a (hs++[mkH l m ctx k (k+1)]) (k+1)
 | [],a,h=>by
  obtain rfl:a=k:=h
  exact ⟨a+1,by omega,ho,rfl,rfl⟩
 | _::_,a,⟨b,h1,h2,h3,h4⟩=>⟨b,h1,h2,h3,GrOk.snoc ho h4⟩
theorem GrOk.last {l:List Change} {m ctx:Int} {k:Nat}:∀{hs:List Hunk} {a:Nat},GrOk l m ctx a hs k→hs≠[]→GrOk l m ctx a (hs.set (hs.length - 1) (D18 l m ctx k (hs.getD (hs.length - 1) J31))) (k+1)
 | [],_,_,h0=>absurd rfl h0
 | [h],a,⟨b,h1,h2,h3,h4⟩,_=>by
  obtain rfl:b=k:=h4
  subst h3
  exact ⟨b+1,by omega,h2,rfl,rfl⟩
 | h::h'::r,a,⟨b,h1,h2,h3,h4⟩,_=>by
  have ih:=GrOk.last h4 (by simp)
  refine ⟨b,h1,h2,h3,?_⟩
  simpa using ih
theorem B53 (l:List Change) (m ctx:Int):∀k,GrOk l m ctx 0 (Z3 l m ctx k) k
 | 0=>rfl
 | k+1=>by
  have ih:=B53 l m ctx k
  have hne:=(E04 l m ctx k).2
  simp only [Z3,D62]
  by_cases ho:opens l ctx k
  ·rw [if_pos ho]
   have e:(Z3 l m ctx k++[B19 l ctx k]).set ((Z3 l m ctx k++[B19 l ctx k]).length - 1) (D18 l m ctx k ((Z3 l m ctx k++[B19 l ctx k]).getD ((Z3 l m ctx k++[B19 l ctx k]).length - 1) J31))=Z3 l m ctx k++[mkH l m ctx k (k+1)]:=by
    simp [mkH]
   rw [e]
   exact ih.snoc ho
  ·rw [if_neg ho]
   refine ih.last ?_
   have:k≠0:=fun e=>ho (.inl e)
   have:=hne (by omega)
   intro e;rw [e] at this;simp at this
theorem B54 (x:List Str) {a b c:Int} (h0:0≤a) (h1:a≤b) (h2:b≤c):sub x a b++sub x b c=sub x a c:=by
 unfold sub
 obtain ⟨u,rfl⟩:∃u:Nat,(u:Int)=a:=⟨a.toNat,by omega⟩
 obtain ⟨v,rfl⟩:∃v:Nat,(v:Int)=b:=⟨b.toNat,by omega⟩
 obtain ⟨w,rfl⟩:∃w:Nat,(w:Int)=c:=⟨c.toNat,by omega⟩
 simp only [K84]
 have h3:x.drop v=(x.drop u).drop (v - u):=by rw [List.drop_drop];congr 1;omega
 rw [h3,show w - u=(v - u)+(w - v) by omega,List.take_add]
theorem A76 (x:List Str) (a:Int):sub x a a=[]:=by simp [sub]
theorem x1 (x:List Str) {a b:Int} (h0:0≤a) (h1:a≤b) (h2:b≤x.length):((sub x a b).length:Int)=b - a:=by
 unfold sub;rw [K92,K99];omega
theorem F13 {x y:List Str} {p q p' q' e:Int} (h:sub x p q=sub y p' q') (h0:0≤p) (h0':0≤p') (he:0≤e) (h1:e≤q - p) (h2:q - p=q' - p'):sub x (q - e) q=sub y (q' - e) q':=by
 have key:∀(z:List Str) (a b:Int),0≤a→e≤b - a→sub z (b - e) b=(sub z a b).drop (b - a - e).toNat:=by
  intro z a b ha hb
  unfold sub
  rw [List.drop_take,List.drop_drop]
  congr 1
  ·omega
  ·congr 1;omega
 rw [key x p q h0 h1,key y p' q' h0' (by omega),h,h2]
theorem H78 {x y:List Str} {p q p' q' e:Int} (h:sub x p q=sub y p' q') (h0:0≤p) (h0':0≤p') (he:0≤e) (h1:e≤q - p) (h2:q - p=q' - p'):sub x p (p+e)=sub y p' (p'+e):=by
 have key:∀(z:List Str) (a b:Int),0≤a→e≤b - a→sub z a (a+e)=(sub z a b).take e.toNat:=by
  intro z a b ha hb
  unfold sub
  rw [List.take_take]
  congr 1
  omega
 rw [key x p q h0 h1,key y p' q' h0' (by omega),h]
theorem B55 (p q:List PatchLine) (k:UInt8):I0 (p++q) k=I0 p k++I0 q k:=by simp [I0]
theorem B56 (k k':UInt8) (ts:List Str):I0 (A74 k ts) k'=if k=k' then [] else ts:=by
 unfold I0 A74
 by_cases h:k=k'
 ·rw [if_pos h];subst h
  simp [List.filter_eq_nil_iff]
 ·rw [if_neg h]
  rw [List.filter_eq_self.2 (by simp [h])]
  simp [Function.comp_def]
structure ScFit (x y:List Str) (l:List Change):Prop where
 lx:(x.length:Int)≤4096
 ly:(y.length:Int)≤4096
 sc:O3 0 0 0 l x.length y.length=true
 eq:C09 x y 0 0 l
section
variable {x y:List Str} {l:List Change}
theorem ScFit.ok (h:ScFit x y l):ScOk 0 0 l x.length y.length:=C06 _ _ _ _ _ _ h.sc
theorem ScFit.check (h:ScFit x y l):check8 l x.length y.length=0:=by
 have h1:=h.lx
 have h2:=h.ly
 unfold check8
 rw [if_neg (by unfold O2;omega),if_pos h.sc]
theorem ScFit.nn (h:ScFit x y l) (k:Nat) (hk:k≤l.length):0≤eoI 0 l k∧0≤enI 0 l k∧eoI 0 l k≤x.length∧enI 0 l k≤y.length:=by
 cases k with
 | zero=>exact ⟨Int.le_refl _,Int.le_refl _,Int.natCast_nonneg _,Int.natCast_nonneg _⟩
 | succ k =>
  obtain ⟨⟨a1,a2⟩,⟨b1,b2⟩,⟨c1,c2⟩,⟨d1,d2⟩,h5,h6⟩:=h.ok.get k (by omega)
  rw [C07,C08];unfold B72 G74
  omega
def eA (l:List Change) (ctx:Int) (a:Nat):Int:=G73 ctx (cAt l a).Old
def eB (l:List Change) (m ctx:Int) (b:Nat):Int:=G73 ctx (m - eoI 0 l b)
theorem J33 {a b:Int} (h:0≤a) (h':0≤b):0≤G73 a b∧G73 a b≤a∧G73 a b≤b:=by unfold G73;split<;>omega
theorem D65 {ctx:Int} {a:Nat} (ho:opens l ctx a) (ha:a≠0):2*ctx < (cAt l a).Old - eoI 0 l a:=by
 rcases ho with h | h
 ·exact absurd h ha
 ·unfold eoI;rw [if_neg ha];unfold B72;omega
theorem ScFit.before (h:ScFit x y l) {ctx:Int} (hc:0≤ctx) {a:Nat} (ha:a < l.length) (ho:opens l ctx a) :
  0≤eA l ctx a∧eA l ctx a≤ctx∧eA l ctx a≤(cAt l a).Old - eoI 0 l a:=by
 obtain ⟨⟨a1,a2⟩,_⟩:=h.ok.get a ha
 have h3:=J33 hc a1
 unfold eA
 by_cases h0:a=0
 ·subst h0
  show _∧_∧_≤(cAt l 0).Old - 0
  omega
 ·have:=D65 ho h0;omega
theorem ScFit.after (h:ScFit x y l) {ctx:Int} (hc:0≤ctx) {b:Nat} (hb:b≤l.length) (ho:b < l.length→opens l ctx b) (hb0:b≠0) :
  0≤eB l x.length ctx b∧eB l x.length ctx b≤ctx∧eoI 0 l b+eB l x.length ctx b≤x.length∧enI 0 l b+eB l x.length ctx b≤y.length ∧
   sub x (eoI 0 l b) (eoI 0 l b+eB l x.length ctx b)=sub y (enI 0 l b) (enI 0 l b+eB l x.length ctx b):=by
 obtain ⟨h1,h2,h3,h4⟩:=h.nn b hb
 have h5:=J33 hc (show 0≤(x.length:Int) - eoI 0 l b by omega)
 unfold eB
 rcases Nat.lt_or_ge b l.length with hlt | hge
 ·obtain ⟨g1,g2,g3,g4,g5,g6,g7,g8⟩:=A17 _ _ _ _ _ _ h.sc b hlt
  obtain ⟨⟨a1,a2⟩,⟨b1,b2⟩,⟨c1,c2⟩,⟨d1,d2⟩,k5,k6⟩:=h.ok.get b hlt
  have hg:=D65 (ho hlt) hb0
  refine ⟨h5.1,h5.2.1,by omega,by omega,H78 (G75 x y l 0 0 h.eq b hlt) h1 h2 h5.1 (by omega) (by omega)⟩
 ·have e:b=l.length:=by omega
  subst e
  obtain ⟨g1,g2⟩:=I86 _ _ _ _ _ _ h.sc
  refine ⟨h5.1,h5.2.1,by omega,by omega,H78 (I87 x y l 0 0 h.eq) h1 h2 h5.1 (by omega) (by omega)⟩
def G76 (l:List Change) (j0:Int) (a t:Nat):Int:=if t=0 then j0 else G74 (cAt l (a+t - 1))
theorem F14 (i0:Int) (a t:Nat) (ht:t≠0):A75 l i0 a t=eoI 0 l (a+t):=by
 unfold A75 eoI;rw [if_neg ht,if_neg (by omega)]
theorem J34 (j0:Int) (a t:Nat) (ht:t≠0):G76 l j0 a t=enI 0 l (a+t):=by
 unfold G76 enI;rw [if_neg ht,if_neg (by omega)]
theorem ScFit.made (h:ScFit x y l) {ctx:Int} (hc:0≤ctx) {a:Nat} (ho:opens l ctx a):∀t,a+t≤l.length→(t=0→a < l.length) →
  I0 (A16 l x y ((cAt l a).Old - eA l ctx a) a t) 43=sub x ((cAt l a).Old - eA l ctx a) (A75 l ((cAt l a).Old - eA l ctx a) a t) ∧
  I0 (A16 l x y ((cAt l a).Old - eA l ctx a) a t) 45=sub y ((cAt l a).New - eA l ctx a) (G76 l ((cAt l a).New - eA l ctx a) a t)
 | 0,_,_=>by
  unfold A75 G76
  rw [if_pos rfl,if_pos rfl,A76,A76]
  exact ⟨rfl,rfl⟩
 | t + 1,hl,_=>by
  have hlt:a+t < l.length:=by omega
  have hla:a < l.length:=by omega
  obtain ⟨ih1,ih2⟩:=ScFit.made h hc ho t (by omega) (fun _=>hla)
  obtain ⟨q1,q2,q3⟩:=h.before hc hla ho
  obtain ⟨p1,p2,p3,p4⟩:=h.nn (a+t) (by omega)
  obtain ⟨r1,r2,r3,r4⟩:=h.nn a (by omega)
  obtain ⟨g1,g2,g3,g4,g5,g6,g7,g8⟩:=A17 _ _ _ _ _ _ h.sc (a+t) hlt
  obtain ⟨k1,⟨k2,k2'⟩,k3,⟨k4,k4'⟩,k5,k6,k7,k8⟩:=A17 _ _ _ _ _ _ h.sc a hla
  obtain ⟨⟨a1,a2⟩,⟨b1,b2⟩,⟨c1,c2⟩,⟨d1,d2⟩,w5,w6⟩:=h.ok.get (a+t) hlt
  have hrun:sub x (A75 l ((cAt l a).Old - eA l ctx a) a t) (cAt l (a+t)).Old=sub y (G76 l ((cAt l a).New - eA l ctx a) a t) (cAt l (a+t)).New ∧
    (cAt l a).Old - eA l ctx a≤A75 l ((cAt l a).Old - eA l ctx a) a t∧A75 l ((cAt l a).Old - eA l ctx a) a t≤(cAt l (a+t)).Old ∧
    (cAt l a).New - eA l ctx a≤G76 l ((cAt l a).New - eA l ctx a) a t∧G76 l ((cAt l a).New - eA l ctx a) a t≤(cAt l (a+t)).New:=by
   have hrun:=G75 x y l 0 0 h.eq (a+t) hlt
   by_cases ht:t=0
   ·subst ht
    unfold A75 G76
    rw [if_pos rfl,if_pos rfl]
    rw [show a+0=a from rfl] at *
    exact ⟨F13 hrun r1 r2 q1 (by omega) (by omega),by omega,by omega,by omega,by omega⟩
   ·rw [F14 _ _ _ ht,J34 _ _ _ ht]
    have m1:=h.ok.mono a (a+t - 1) (by omega) (by omega)
    have m2:eoI 0 l (a+t)=(cAt l (a+t - 1)).Old+(cAt l (a+t - 1)).OldLen:=by unfold eoI;rw [if_neg (by omega)];rfl
    have m4:∀u,u≤t→(cAt l a).New≤enI 0 l (a+u)∨u=0:=by
     intro u
     induction u with
     | zero=>exact fun _=>.inr rfl
     | succ u ihu =>
      intro hu
      obtain ⟨e1,e2,⟨e3,e3'⟩,⟨e4,e4'⟩,e5,e6,e7,e8⟩:=A17 _ _ _ _ _ _ h.sc (a+u) (by omega)
      have e9:enI 0 l (a+(u+1))=(cAt l (a+u)).New+(cAt l (a+u)).NewLen:=rfl
      rcases ihu (by omega) with h' | h'
      ·left;omega
      ·left;subst h';rw [e9];show (cAt l a).New≤(cAt l a).New+(cAt l a).NewLen;exact Int.le_add_of_nonneg_right e4
    have m5:=(m4 t (Nat.le_refl _)).resolve_right ht
    refine ⟨hrun,by omega,by omega,by omega,by omega⟩
  obtain ⟨hr1,hr2,hr3,hr4,hr5⟩:=hrun
  simp (decide:=true) only [A16,B55,B56,ih1,ih2,if_true,if_false,L10]
  have e1:A75 l ((cAt l a).Old - eA l ctx a) a (t+1)=B72 (cAt l (a+t)):=I85 _ _ _ _
  have e2:G76 l ((cAt l a).New - eA l ctx a) a (t+1)=G74 (cAt l (a+t)):=rfl
  rw [e1,e2]
  have s0:0≤(cAt l a).Old - eA l ctx a:=by omega
  have s1:0≤(cAt l a).New - eA l ctx a:=by omega
  refine ⟨?_,?_⟩
  ·rw [B54 x s0 hr2 hr3,B54 x s0 (by omega) (by unfold B72;omega)]
  ·rw [hr1,B54 y s1 hr4 hr5]
   exact B54 y s1 (by omega) (by omega)
end
end Go.AL
namespace Go.AL
open Go
section
variable {x y:List Str} {l:List Change}
structure HunkIs (x y:List Str) (l:List Change) (ctx:Int) (a b:Nat) (h:PatchHunk):Prop where
 old:h.Old=(cAt l a).Old - eA l ctx a
 new:h.New=(cAt l a).New - eA l ctx a
 o0:0≤h.Old
 n0:0≤h.New
 oe:h.Old+C38 h=eoI 0 l b+eB l x.length ctx b
 ne:h.New+C39 h=enI 0 l b+eB l x.length ctx b
 ox:h.Old+C38 h≤x.length
 ny:h.New+C39 h≤y.length
 ol:I0 h.Lines 43=sub x h.Old (h.Old+C38 h)
 nl:I0 h.Lines 45=sub y h.New (h.New+C39 h)
 ch:B00 h.Lines=true
 gl:(∀s∈x,l8 s=true)→(∀s∈y,l8 s=true)→h.Lines.all C81=true
theorem F15 (p q:List PatchLine):B00 (p++q)=(B00 p||B00 q):=by simp [B00]
theorem F16 {k:UInt8} {ts:List Str} (hk:k≠32) (h:ts≠[]):B00 (A74 k ts)=true:=by
 cases ts with
 | nil=>exact absurd rfl h
 | cons t ts=>simp [B00,A74,hk]
theorem B57 {k:UInt8} {ts:List Str} (hk:k=32∨k=45∨k=43) (h:∀t∈ts,l8 t=true):(A74 k ts).all C81=true:=by
 rw [List.all_eq_true]
 intro q hq
 unfold A74 at hq
 obtain ⟨t,ht,rfl⟩:=List.mem_map.1 hq
 unfold C81
 refine decide_eq_true ?_
 rintro (⟨⟨h1,h2⟩,h3⟩ | h1)
 ·rcases hk with e | e | e
  ·exact h1 e
  ·exact h2 e
  ·exact h3 e
 ·rw [show (PatchLine.mk k t).Text=t from rfl,h t ht] at h1;cases h1
theorem E05 (hx:∀s∈x,l8 s=true) (hy:∀s∈y,l8 s=true) (i0:Int) (a:Nat):∀t,(A16 l x y i0 a t).all C81=true
 | 0=>rfl
 | t+1=>by
  simp only [A16,L25,E05 hx hy i0 a t,Bool.true_and,K83]
  exact ⟨⟨B57 (.inl rfl) (fun s hs=>hx s (E36 hs)),B57 (.inr (.inl rfl)) (fun s hs=>hx s (E36 hs))⟩,B57 (.inr (.inr rfl)) (fun s hs=>hy s (E36 hs))⟩
theorem ScFit.hunk (h:ScFit x y l) {ctx:Int} (hc:0≤ctx) {a b:Nat} (hab:a < b) (hb:b≤l.length) (ho:opens l ctx a) (hob:b < l.length→opens l ctx b) :
  HunkIs x y l ctx a b (j9 l x y (mkH l x.length ctx a b)):=by
 have hla:a < l.length:=by omega
 obtain ⟨q1,q2,q3⟩:=h.before hc hla ho
 obtain ⟨w1,w2,w3,w4,w5⟩:=h.after hc hb hob (by omega)
 obtain ⟨m1,m2⟩:=h.made hc ho (b - a) (by omega) (fun e=>by omega)
 rw [F14 _ _ _ (by omega)] at m1
 rw [J34 _ _ _ (by omega)] at m2
 rw [show a+(b - a)=b by omega] at m1 m2
 obtain ⟨r1,r2,r3,r4⟩:=h.nn a (by omega)
 obtain ⟨s1,s2,s3,s4⟩:=h.nn b hb
 obtain ⟨k1,⟨k2,k2'⟩,k3,⟨k4,k4'⟩,k5,k6,k7,k8⟩:=A17 _ _ _ _ _ _ h.sc a hla
 have hlb:b - 1 < l.length:=by omega
 obtain ⟨g1,⟨g2,g2'⟩,g3,⟨g4,g4'⟩,g5,g6,g7,g8⟩:=A17 _ _ _ _ _ _ h.sc (b - 1) hlb
 have eo:eoI 0 l b=(cAt l (b - 1)).Old+(cAt l (b - 1)).OldLen:=by unfold eoI;rw [if_neg (by omega)];rfl
 have en:enI 0 l b=(cAt l (b - 1)).New+(cAt l (b - 1)).NewLen:=by unfold enI;rw [if_neg (by omega)];rfl
 have mo:=h.ok.mono a (b - 1) (by omega) (by omega)
 have mn:(cAt l a).New≤enI 0 l b:=by
  have m4:∀u,a+u≤l.length→(cAt l a).New≤enI 0 l (a+u)∨u=0:=by
   intro u
   induction u with
   | zero=>exact fun _=>.inr rfl
   | succ u ihu =>
    intro hu
    obtain ⟨e1,e2,⟨e3,e3'⟩,⟨e4,e4'⟩,e5,e6,e7,e8⟩:=A17 _ _ _ _ _ _ h.sc (a+u) (by omega)
    have e9:enI 0 l (a+(u+1))=(cAt l (a+u)).New+(cAt l (a+u)).NewLen:=rfl
    rcases ihu (by omega) with h' | h'
    ·left;omega
    ·left;subst h';rw [e9];show (cAt l a).New≤(cAt l a).New+(cAt l a).NewLen;exact Int.le_add_of_nonneg_right e4
  have:=(m4 (b - a) (by omega)).resolve_right (by omega)
  rwa [show a+(b - a)=b by omega] at this
 have hF:(mkH l x.length ctx a b).First.toNat=a:=by show ((a:Int)).toNat=a;omega
 have hL:(mkH l x.length ctx a b).Last.toNat - (mkH l x.length ctx a b).First.toNat=b - a:=by
  show (((b - 1:Nat):Int)+1).toNat - ((a:Int)).toNat=b - a;omega
 have hOF:(mkH l x.length ctx a b).Old.From=(cAt l a).Old - eA l ctx a:=rfl
 have hNF:(mkH l x.length ctx a b).New.From=(cAt l a).New - eA l ctx a:=rfl
 have hOT:(mkH l x.length ctx a b).Old.To=eoI 0 l b+eB l x.length ctx b:=by
  unfold eB;rw [eo];rfl
 obtain ⟨P,hP⟩:∃P,P=j9 l x y (mkH l x.length ctx a b):=⟨_,rfl⟩
 have hPl:P.Lines=A16 l x y ((cAt l a).Old - eA l ctx a) a (b - a)++A74 32 (sub x (eoI 0 l b) (eoI 0 l b+eB l x.length ctx b)):=by
  rw [hP];unfold j9
  show A16 l x y _ (mkH l x.length ctx a b).First.toNat ((mkH l x.length ctx a b).Last.toNat - (mkH l x.length ctx a b).First.toNat)++A74 32 (sub x (A75 l _ (mkH l x.length ctx a b).First.toNat ((mkH l x.length ctx a b).Last.toNat - (mkH l x.length ctx a b).First.toNat)) _)=_
  rw [hL,hF,hOF,hOT,F14 _ _ _ (by omega),show a+(b - a)=b by omega]
 have hPO:P.Old=(cAt l a).Old - eA l ctx a:=by rw [hP];rfl
 have hPN:P.New=(cAt l a).New - eA l ctx a:=by rw [hP];rfl
 have h43:I0 P.Lines 43=sub x ((cAt l a).Old - eA l ctx a) (eoI 0 l b+eB l x.length ctx b):=by
  rw [hPl,B55,B56,if_neg (by decide),m1]
  exact B54 x (by omega) (by omega) (by omega)
 have h45:I0 P.Lines 45=sub y ((cAt l a).New - eA l ctx a) (enI 0 l b+eB l x.length ctx b):=by
  rw [hPl,B55,B56,if_neg (by decide),m2,w5]
  exact B54 y (by omega) (by omega) (by omega)
 have hon:C38 P=eoI 0 l b+eB l x.length ctx b - ((cAt l a).Old - eA l ctx a):=by
  unfold C38;rw [h43];exact x1 x (by omega) (by omega) (by omega)
 have hnn:C39 P=enI 0 l b+eB l x.length ctx b - ((cAt l a).New - eA l ctx a):=by
  unfold C39;rw [h45];exact x1 y (by omega) (by omega) (by omega)
 rw [←hP]
 refine ⟨hPO,hPN,by omega,by omega,by omega,by omega,by omega,by omega,?_,?_,?_,?_⟩
 ·rw [h43];congr 1
  ·exact hPO.symm
  ·omega
 ·rw [h45];congr 1
  ·exact hPN.symm
  ·omega
 ·rw [hPl,F15]
  have e:A16 l x y ((cAt l a).Old - eA l ctx a) a (b - a)=A16 l x y ((cAt l a).Old - eA l ctx a) a (b - 1 - a+1):=by congr 1;omega
  rw [e]
  simp only [A16,F15]
  rw [show a+(b - 1 - a)=b - 1 by omega]
  have key:B00 (A74 45 (sub x (cAt l (b - 1)).Old (B72 (cAt l (b - 1)))))=true∨B00 (A74 43 (sub y (cAt l (b - 1)).New ((cAt l (b - 1)).New+(cAt l (b - 1)).NewLen)))=true:=by
   obtain ⟨g3a,g3b⟩:=g3
   obtain ⟨g1a,g1b⟩:=g1
   by_cases h0:(cAt l (b - 1)).OldLen=0
   ·right
    refine F16 (by decide) fun e0=>?_
    have:=x1 y (a:=(cAt l (b - 1)).New) (b:=(cAt l (b - 1)).New+(cAt l (b - 1)).NewLen) g3a (by omega) (by omega)
    rw [e0] at this;simp at this;omega
   ·left
    refine F16 (by decide) fun e0=>?_
    have:=x1 x (a:=(cAt l (b - 1)).Old) (b:=B72 (cAt l (b - 1))) g1a (by unfold B72;omega) (by unfold B72;omega)
    rw [e0] at this;unfold B72 at this;simp at this;omega
  rcases key with e1 | e1<;>rw [e1]<;>simp
 ·intro hx hy
  rw [hPl,L25,E05 hx hy,Bool.true_and]
  exact B57 (.inl rfl) (fun s hs=>hx s (E36 hs))
theorem ScFit.hunks (h:ScFit x y l) {ctx:Int} (hc:0≤ctx) (hx:∀s∈x,l8 s=true) (hy:∀s∈y,l8 s=true):∀(hs:List Hunk) (a:Nat),GrOk l x.length ctx a hs l.length →
  ∀(i j e:Int),i=eoI 0 l a+e→j=enI 0 l a+e→0≤e→e≤ctx→(a=0→e=0) →
  D63 i j (hs.map (j9 l x y))=true∧(O9 (hs.map (j9 l x y)) 43).Sublist (x.drop i.toNat)∧(O9 (hs.map (j9 l x y)) 45).Sublist (y.drop j.toNat) ∧
   ∀p∈hs.map (j9 l x y),(p.Old+C38 p≤x.length∧p.New+C39 p≤y.length∧0≤p.Old∧0≤p.New)∧I0 p.Lines 43=sub x p.Old (p.Old+C38 p)∧I0 p.Lines 45=sub y p.New (p.New+C39 p)
 | [],a,_,i,j,e,_,_,_,_,_=>⟨rfl,by simp [O9],by simp [O9],by simp⟩
 | hk::hs,a,⟨b,hab,ho,hE,hr⟩,i,j,e,hi,hj,he,hec,he0=>by
  have hb:=hr.le
  have hob:b < l.length→opens l ctx b:=by
   intro hlt
   cases hs with
   | nil=>exact absurd hr (by show ¬b=l.length;omega)
   | cons h2 hs2=>obtain ⟨_,_,ho2,_⟩:=hr;exact ho2
  obtain ⟨w1,w2,w3,w4,w5⟩:=h.after hc hb hob (by omega)
  obtain ⟨q1,q2,q3⟩:=h.before hc (show a < l.length by omega) ho
  have H:=h.hunk hc hab hb ho hob
  rw [←hE] at H
  obtain ⟨P,hP⟩:∃P,P=j9 l x y hk:=⟨_,rfl⟩
  rw [←hP] at H
  obtain ⟨i1,i2,i3,i4⟩:=ScFit.hunks h hc hx hy hs b hr (P.Old+C38 P) (P.New+C39 P) (eB l x.length ctx b) H.oe H.ne w1 w2 (by omega)
  obtain ⟨k1,⟨k2,k2'⟩,k3,⟨k4,k4'⟩,k5,k6,k7,k8⟩:=A17 _ _ _ _ _ _ h.sc a (show a < l.length by omega)
  have h1:=H.old
  have h2:=H.new
  have h3:=H.o0
  have h4:=H.n0
  have h5:=H.ox
  have h6:=H.ny
  have h7:=h.lx
  have h8:=h.ly
  have n1:0≤C38 P:=by unfold C38;omega
  have n2:0≤C39 P:=by unfold C39;omega
  have hgap:e+eA l ctx a≤(cAt l a).Old - eoI 0 l a:=by
   by_cases h0:a=0
   ·have:=he0 h0;omega
   ·have:=D65 ho h0;omega
  obtain ⟨r1,r2,r3,r4⟩:=h.nn a (by omega)
  have hij:i≤P.Old∧j≤P.New∧P.Old - i=P.New - j∧0≤i∧0≤j:=by omega
  have hsub:∀(z:List Str) (i f t:Int),0≤i→i≤f→f≤t→∀r:List Str,r.Sublist (z.drop t.toNat)→(sub z f t++r).Sublist (z.drop i.toNat):=by
   intro z i f t h0 h1 h2 r hr
   have e1:z.drop f.toNat=sub z f t++z.drop t.toNat:=by
    unfold sub
    rw [show t.toNat=f.toNat+(t.toNat - f.toNat) by omega,←List.drop_drop,show f.toNat+(t.toNat - f.toNat) - f.toNat=t.toNat - f.toNat by omega,L21]
   have e2:z.drop f.toNat=(z.drop i.toNat).drop (f.toNat - i.toNat):=by rw [List.drop_drop];congr 1;omega
   refine List.Sublist.trans ?_ (List.drop_sublist (f.toNat - i.toNat) (z.drop i.toNat))
   rw [←e2,e1]
   exact List.Sublist.append_left hr _
  have key:∀(k:UInt8),O9 ((hk::hs).map (j9 l x y)) k=I0 P.Lines k++O9 (hs.map (j9 l x y)) k:=by
   intro k;rw [hP];simp [O9]
  refine ⟨?_,?_,?_,?_⟩
  ·rw [L01,←hP]
   simp only [D63,H.gl hx hy,i1,Bool.and_true,Bool.true_and,K83,decide_eq_true_eq]
   refine ⟨?_,by omega⟩
   unfold D19
   rw [H.ch]
   rintro (((((e0 | e0) | e0) | e0) | e0) | e0)
   ·cases e0
   all_goals omega
  ·rw [key,H.ol]
   exact hsub x i P.Old (P.Old+C38 P) hij.2.2.2.1 hij.1 (by omega) _ i2
  ·rw [key,H.nl]
   exact hsub y j P.New (P.New+C39 P) hij.2.2.2.2 hij.2.1 (by omega) _ i3
  ·rw [L01,←hP]
   intro p hp
   rcases List.mem_cons.1 hp with rfl | hp
   ·exact ⟨⟨h5,h6,h3,h4⟩,H.ol,H.nl⟩
   ·exact i4 p hp
theorem D22:∀{s z:List Str},s.Sublist z→A09 z=true→A09 s=true:=by
 intro s z hs
 induction hs with
 | slnil=>exact fun h=>h
 | cons a _ ih =>
  intro h
  simp only [A09,K83] at h
  exact ih h.2
 | cons_cons a hs2 ih =>
  intro h
  simp only [A09,K83,L02] at h ⊢
  refine ⟨?_,ih h.2⟩
  rcases h.1 with h1 | h1
  ·left
   rw [List.isEmpty_iff] at h1 ⊢
   rw [h1] at hs2
   exact List.sublist_nil.1 hs2
  ·exact .inr h1
def l0 (l:List Change) (x y:List Str) (ctx:Int):List PatchHunk:=(Z3 l x.length ctx l.length).map (j9 l x y)
theorem ScFit.good (h:ScFit x y l) {ctx:Int} (hc:0≤ctx) (hx:∀s∈x,l8 s=true) (hy:∀s∈y,l8 s=true) (ex:A09 x=true) (ey:A09 y=true):D64 (l0 l x y ctx)=true:=by
 obtain ⟨h1,h2,h3,_⟩:=h.hunks hc hx hy _ 0 (B53 l x.length ctx l.length) 0 0 0 rfl rfl (Int.le_refl _) hc (fun _=>rfl)
 unfold D64 I84 l0
 rw [h1,D22 h2 (by simpa using ex),D22 h3 (by simpa using ey)]
 rfl
theorem ScFit.texts (h:ScFit x y l) {ctx:Int} (hc:0≤ctx) (hx:∀s∈x,l8 s=true) (hy:∀s∈y,l8 s=true):∀p∈l0 l x y ctx,(p.Old+C38 p≤x.length∧p.New+C39 p≤y.length∧0≤p.Old∧0≤p.New)∧I0 p.Lines 43=sub x p.Old (p.Old+C38 p)∧I0 p.Lines 45=sub y p.New (p.New+C39 p) :=
 (h.hunks hc hx hy _ 0 (B53 l x.length ctx l.length) 0 0 0 rfl rfl (Int.le_refl _) hc (fun _=>rfl)).2.2.2
end
end Go.AL
namespace Go.AL
open Go
theorem D66 {m n:Int} (hm:O2 m) (hn:O2 n):∀(p:List Span) (i j i0 j0:Int) (k0:Nat),Asc m n i j p→0≤i0→0≤j0→i0≤i→i - i0=j - j0→(0 < k0→i0 < i)→O3 k0 i0 j0 (V2 i j p m n) m n=true
 | [],i,j,i0,j0,k0,ha,h1,h2,h3,h4,h5=>by
  obtain ⟨a1,a2⟩:i≤m∧j≤n:=ha
  obtain ⟨m1,m2⟩:=hm
  obtain ⟨n1,n2⟩:=hn
  unfold V2
  split
  ·rename_i hc
   simp only [O3,K83,decide_eq_true_eq]
   refine ⟨?_,by omega⟩
   unfold badC O2
   show ¬(((((((¬(0≤i∧i≤4096)∨¬(0≤m - i∧m - i≤4096))∨¬(0≤j∧j≤4096))∨¬(0≤n - j∧n - j≤4096))∨m - i+(n - j)=0)∨i - i0≠j - j0)∨i < i0)∨(0 < (k0:Int)∧i=i0))
   omega
  ·simp only [O3,decide_eq_true_eq];omega
 | x::r,i,j,i0,j0,k0,ha,h1,h2,h3,h4,h5=>by
  obtain ⟨a1,a2,a3⟩:=ha
  have hle:=a3.le
  unfold V2
  split
  ·rename_i hc
   simp only [L05,L17,O3,K83,decide_eq_true_eq]
   refine ⟨?_,?_⟩
   ·obtain ⟨m1,m2⟩:=hm
    obtain ⟨n1,n2⟩:=hn
    unfold badC O2
    show ¬(((((((¬(0≤i∧i≤4096)∨¬(0≤x.From - i∧x.From - i≤4096))∨¬(0≤j∧j≤4096))∨¬(0≤x.To - j∧x.To - j≤4096))∨x.From - i+(x.To - j)=0)∨i - i0≠j - j0)∨i < i0)∨(0 < (k0:Int)∧i=i0))
    omega
   ·exact D66 hm hn r _ _ _ _ _ a3 (by omega) (by omega) (by omega) (by omega) (fun _=>by omega)
  ·rw [L17]
   exact D66 hm hn r _ _ _ _ _ a3 h1 h2 (by omega) (by omega) (fun h=>by omega)
def EqAt (X Y:List Str) (s:Span):Prop:=0≤s.From∧0≤s.To∧∃v,X[s.From.toNat]?=some v∧Y[s.To.toNat]?=some v
theorem B20 {X:List Str} {a b:Int} {v:Str} (h0:0≤a) (h1:a≤b) (hv:X[b.toNat]?=some v):sub X a (b+1)=sub X a b++[v]:=by
 rw [←B54 X h0 h1 (by omega:b≤b+1)]
 congr 1
 unfold sub
 obtain ⟨hl,e⟩:=List.getElem?_eq_some_iff.1 hv
 rw [K91 hl,e,show (b+1).toNat - b.toNat=1 by omega]
 rfl
theorem D67 {X Y:List Str}:∀(p:List Span) (i j i0 j0:Int),Asc X.length Y.length i j p→0≤i0→0≤j0→i0≤i→j0≤j→(∀s∈p,EqAt X Y s)→sub X i0 i=sub Y j0 j→C09 X Y i0 j0 (V2 i j p X.length Y.length)
 | [],i,j,i0,j0,ha,h1,h2,h3,h4,he,hs=>by
  obtain ⟨a1,a2⟩:i≤(X.length:Int)∧j≤(Y.length:Int):=ha
  unfold V2
  split
  ·refine ⟨hs,?_⟩
   show sub X (i+(X.length - i)) X.length=sub Y (j+(Y.length - j)) Y.length
   rw [show i+((X.length:Int) - i)=X.length by omega,show j+((Y.length:Int) - j)=Y.length by omega,A76,A76]
  ·have e1:(X.length:Int)=i:=by omega
   have e2:(Y.length:Int)=j:=by omega
   show sub X i0 X.length=sub Y j0 Y.length
   rw [e1,e2];exact hs
 | x::r,i,j,i0,j0,ha,h1,h2,h3,h4,he,hs=>by
  obtain ⟨a1,a2,a3⟩:=ha
  obtain ⟨_,_,v,v1,v2⟩:=he x (by simp)
  have hr:∀s∈r,EqAt X Y s:=fun s hs=>he s (by simp [hs])
  unfold V2
  split
  ·refine ⟨hs,?_⟩
   show C09 X Y (i+(x.From - i)) (j+(x.To - j)) (V2 (x.From+1) (x.To+1) r X.length Y.length)
   rw [show i+(x.From - i)=x.From by omega,show j+(x.To - j)=x.To by omega]
   refine D67 r _ _ _ _ a3 (by omega) (by omega) (by omega) (by omega) hr ?_
   rw [B20 (by omega) (Int.le_refl _) v1,B20 (by omega) (Int.le_refl _) v2,A76,A76]
  ·have e1:x.From=i:=by omega
   have e2:x.To=j:=by omega
   rw [L17]
   refine D67 r _ _ _ _ a3 h1 h2 (by omega) (by omega) hr ?_
   rw [B20 h1 (by omega) v1,B20 h2 (by omega) v2,e1,e2,hs]
theorem J98:∀(a b:List Int) (p q:Int),∀s∈L4 p q a b,p≤s.From∧q≤s.To∧∃v,a[(s.From - p).toNat]?=some v∧b[(s.To - q).toNat]?=some v:=by
 intro a
 induction a with
 | nil=>intro b p q s hs;simp [L4] at hs
 | cons x a iha =>
  intro b
  induction b with
  | nil=>intro p q s hs;simp [L4] at hs
  | cons y b ihb =>
   intro p q s hs
   unfold L4 at hs
   split at hs
   ·rename_i e
    rcases List.mem_cons.1 hs with rfl | hs
    ·exact ⟨Int.le_refl _,Int.le_refl _,x,by simp,by simp [e]⟩
    ·obtain ⟨h1,h2,v,h3,h4⟩:=iha b (p+1) (q+1) s hs
     refine ⟨by omega,by omega,v,?_,?_⟩
     ·rw [show (s.From - p).toNat=(s.From - (p+1)).toNat+1 by omega];simpa using h3
     ·rw [show (s.To - q).toNat=(s.To - (q+1)).toNat+1 by omega];simpa using h4
   ·split at hs
    ·obtain ⟨h1,h2,v,h3,h4⟩:=iha (y::b) (p+1) q s hs
     refine ⟨by omega,by omega,v,?_,h4⟩
     rw [show (s.From - p).toNat=(s.From - (p+1)).toNat+1 by omega];simpa using h3
    ·obtain ⟨h1,h2,v,h3,h4⟩:=ihb p (q+1) s hs
     refine ⟨by omega,by omega,v,h3,?_⟩
     rw [show (s.To - q).toNat=(s.To - (q+1)).toNat+1 by omega];simpa using h4
theorem E06:∀(l:List Str) (s t:Str) (k:Int),0≤k→s∈l→t∈l→N8 l s k=N8 l t k→s=t
 | [],_,_,_,_,h,_,_=>by simp at h
 | x::r,s,t,k,hk,hs,ht,e=>by
  unfold N8 at e
  by_cases h1:x=s
  ·by_cases h2:x=t
   ·exact h1.symm.trans h2
   ·rw [if_pos h1,if_neg h2] at e
    have ht':t∈r:=(List.mem_cons.1 ht).resolve_left (fun q=>h2 q.symm)
    have:=F11 r t (k+1) (by omega) ht'
    omega
  ·have hs':s∈r:=(List.mem_cons.1 hs).resolve_left (fun q=>h1 q.symm)
   by_cases h2:x=t
   ·rw [if_neg h1,if_pos h2] at e
    have:=F11 r s (k+1) (by omega) hs'
    omega
   ·rw [if_neg h1,if_neg h2] at e
    exact E06 r s t (k+1) (by omega) hs' ((List.mem_cons.1 ht).resolve_left (fun q=>h2 q.symm)) e
theorem G06 {names f:List Str} {i:Nat} {v:Int} (h:(N0 names f)[i]?=some v):∃s,f[i]?=some s∧N8 names s 0=v:=by
 unfold N0 at h
 rw [L18] at h
 cases hf:f[i]? with
 | none=>rw [hf] at h;cases h
 | some s=>rw [hf] at h;exact ⟨s,rfl,Option.some.inj h⟩
theorem F17 (x y:List Str) (hx:x.length≤4096) (hy:y.length≤4096):ScFit x y (A46 x y):=by
 have l1:(N0 (H5 [x,y]) x).length=x.length:=by simp [N0]
 have l2:(N0 (H5 [x,y]) y).length=y.length:=by simp [N0]
 have hA:=C80 (N0 (H5 [x,y]) x) (N0 (H5 [x,y]) y) 0 0
 rw [l1,l2,Int.zero_add,Int.zero_add] at hA
 refine ⟨by omega,by omega,?_,?_⟩
 ·unfold A46 B51 C05
  rw [l1,l2]
  exact D66 ⟨by omega,by omega⟩ ⟨by omega,by omega⟩ _ _ _ _ _ _ hA (Int.le_refl _) (Int.le_refl _) (Int.le_refl _) rfl (fun h=>absurd h (by omega))
 ·unfold A46 B51 C05
  rw [l1,l2]
  refine D67 _ _ _ _ _ hA (Int.le_refl _) (Int.le_refl _) (Int.le_refl _) (Int.le_refl _) ?_ (by rw [A76,A76])
  intro s hs
  obtain ⟨h1,h2,v,h3,h4⟩:=J98 _ _ _ _ s hs
  rw [Int.sub_zero] at h3 h4
  obtain ⟨u,u1,u2⟩:=G06 h3
  obtain ⟨w,w1,w2⟩:=G06 h4
  have e:u=w:=E06 (H5 [x,y]) u w 0 (Int.le_refl _) (E03 _ _ x (by simp) (K93 u1)) (E03 _ _ y (by simp) (K93 w1)) (u2.trans w2.symm)
  subst e
  exact ⟨h1,h2,u,u1,w1⟩
theorem G07:∀(ls:List PatchLine),ls.all C81=true→(ls.map szL).sum≤64*((I0 ls 43).length+(I0 ls 45).length)+((I0 ls 43).flatten.length+(I0 ls 45).flatten.length)
 | [],_=>by simp
 | q::ls,h=>by
  rw [List.all_cons,K83] at h
  have ih:=G07 ls h.2
  have hk:q.Kind=32∨q.Kind=45∨q.Kind=43:=by
   have hg:=h.1
   unfold C81 at hg
   have hg:=A0 hg
   by_cases h1:q.Kind=32
   ·exact .inl h1
   by_cases h2:q.Kind=45
   ·exact .inr (.inl h2)
   by_cases h3:q.Kind=43
   ·exact .inr (.inr h3)
   exact absurd (.inl ⟨⟨h1,h2⟩,h3⟩) hg
  have hd:∀k:UInt8,I0 (q::ls) k=if q.Kind≠k then q.Text::I0 ls k else I0 ls k:=by
   intro k
   unfold I0
   by_cases e:q.Kind=k
   ·rw [if_neg (by simpa using e),List.filter_cons_of_neg (by simpa using e)]
   ·rw [if_pos e,List.filter_cons_of_pos (by simpa using e)];rfl
  rw [hd 43,hd 45,L01,List.sum_cons]
  have hz:szL q=q.Text.length+64:=rfl
  rcases hk with e | e | e<;>rw [e]<;>simp (decide:=true) only [if_true,if_false,ne_eq,not_true_eq_false,not_false_eq_true,K87,L16,K86]<;>omega
theorem D23:∀(hs:List PatchHunk) (i j:Int),D63 i j hs=true→szP hs≤128*((O9 hs 43).length+(O9 hs 45).length)+((O9 hs 43).flatten.length+(O9 hs 45).flatten.length)
 | [],_,_,_=>by simp [szP]
 | h :: hs,i,j,hg=>by
  simp only [D63,K83,decide_eq_true_eq] at hg
  obtain ⟨h1,h2,h3,h4⟩:=hg
  have ih:=D23 hs _ _ h4
  have hl:=G07 h.Lines h1
  have hne:1≤h.Lines.length:=by
   cases hq:h.Lines with
   | nil=>exact absurd (.inl (.inl (.inl (.inl (.inl (by rw [hq];rfl)))))) h2
   | cons a b=>simp
  have hcnt:h.Lines.length≤(I0 h.Lines 43).length+(I0 h.Lines 45).length:=by
   have:64*h.Lines.length≤(h.Lines.map szL).sum:=szL_len h.Lines
   have key:∀ls:List PatchLine,ls.length≤(I0 ls 43).length+(I0 ls 45).length:=by
    intro ls
    induction ls with
    | nil=>simp
    | cons q ls ih =>
     have hd:∀k:UInt8,(I0 (q::ls) k).length=if q.Kind≠k then (I0 ls k).length+1 else (I0 ls k).length:=by
      intro k
      unfold I0
      by_cases e:q.Kind=k
      ·rw [if_neg (by simpa using e),List.filter_cons_of_neg (by simpa using e)]
      ·rw [if_pos e,List.filter_cons_of_pos (by simpa using e)];simp
     rw [hd 43,hd 45,K87]
     by_cases e:q.Kind=43
     ·have e2:q.Kind≠45:=by rw [e];decide
      rw [if_pos e2];split<;>omega
     ·rw [if_pos e];split<;>omega
   exact key h.Lines
  have hsz:szP (h::hs)=szH h+szP hs:=by simp [szP]
  have hszh:szH h=64+(h.Lines.map szL).sum:=rfl
  have hs1:∀k,O9 (h::hs) k=I0 h.Lines k++O9 hs k:=by intro k;simp [O9]
  rw [hsz,hszh,hs1 43,hs1 45]
  simp only [K86,L20]
  omega
theorem E07:∀{s z:List Str},s.Sublist z→s.flatten.length≤z.flatten.length:=by
 intro s z hs
 induction hs with
 | slnil=>exact Nat.le_refl _
 | cons a _ ih=>simp only [L16,K86];omega
 | cons_cons a _ ih=>simp only [L16,K86];omega
theorem ScFit.size {x y:List Str} {l:List Change} (h:ScFit x y l) {ctx:Int} (hc:0≤ctx) (hx:∀s∈x,l8 s=true) (hy:∀s∈y,l8 s=true):szP (l0 l x y ctx)≤128*(x.length+y.length)+(x.flatten.length+y.flatten.length):=by
 obtain ⟨h1,h2,h3,_⟩:=h.hunks hc hx hy _ 0 (B53 l x.length ctx l.length) 0 0 0 rfl rfl (Int.le_refl _) hc (fun _=>rfl)
 have h4:=D23 _ _ _ h1
 have e:l0 l x y ctx=(Z3 l x.length ctx l.length).map (j9 l x y):=rfl
 rw [←e] at h2 h3 h4
 have h2':(O9 (l0 l x y ctx) 43).Sublist x:=by simpa using h2
 have h3':(O9 (l0 l x y ctx) 45).Sublist y:=by simpa using h3
 have:=h2'.length_le
 have:=h3'.length_le
 have:=E07 h2'
 have:=E07 h3'
 omega
theorem F18 (s:Str):∀cur:Str,(J3 cur s).flatten=cur++s:=by
 induction s with
 | nil=>intro cur;unfold J3;split<;>simp [*]
 | cons c r ih=>intro cur;rw [A96];split<;>simp [ih]
end Go.AL
namespace Go.AL
open Go
end Go.AL
namespace Go.AL
open Go
abbrev C82:Int→Nat→Cell:=fun x _=>.v (.int .u16 x)
abbrev pU16s (l:List Int):PV:=.one (.list Int 1 C82 l)
theorem I88 (n:Int) (h:0≤n∧n < 65536):IntKind.u16.wrap n=n:=by
 simp [IntKind.wrap,IntKind.signed,IntKind.bits];omega
def flat (a b:List Int) (done:Nat→Nat→Bool):List Int :=
 (List.range ((a.length+1)*(b.length+1))).map fun p=>if done (p / (b.length+1)) (p % (b.length+1))=true then (dist (a.drop (p / (b.length+1))) (b.drop (p % (b.length+1))):Int) else 0
theorem E08 (a b:List Int) (done:Nat→Nat→Bool):(flat a b done).length=(a.length+1)*(b.length+1):=by simp [flat]
theorem E37 {a b:List Int} {i j:Nat} (hi:i≤a.length) (hj:j≤b.length):i*(b.length+1)+j < (a.length+1)*(b.length+1)∧(i*(b.length+1)+j) / (b.length+1)=i∧(i*(b.length+1)+j) % (b.length+1)=j:=by
 refine ⟨?_,?_,?_⟩
 ·have:(i+1)*(b.length+1)≤(a.length+1)*(b.length+1):=K94 _ (by omega)
  rw [L03,Nat.one_mul] at this;omega
 ·rw [Nat.mul_comm,Nat.mul_add_div (by omega),Nat.div_eq_of_lt (by omega),Nat.add_zero]
 ·rw [Nat.mul_comm,Nat.mul_add_mod,Nat.mod_eq_of_lt (by omega)]
theorem F19 {a b:List Int} {done:Nat→Nat→Bool} {i j:Nat} (hi:i≤a.length) (hj:j≤b.length):(flat a b done)[i*(b.length+1)+j]?=some (if done i j=true then (dist (a.drop i) (b.drop j):Int) else 0):=by
 obtain ⟨h1,h2,h3⟩:=E37 hi hj
 unfold flat
 rw [J97 _ _ _ h1,h2,h3]
theorem H79 {a b:List Int} {done done':Nat→Nat→Bool} {i j:Nat} {v:Int} (hi:i≤a.length) (hj:j≤b.length) (hv:v=(dist (a.drop i) (b.drop j):Int)) (hd:done' i j=true)
  (ho:∀r q,r≤a.length→q≤b.length→¬(r=i∧q=j)→done' r q=done r q):(flat a b done).set (i*(b.length+1)+j) v=flat a b done':=by
 obtain ⟨h1,h2,h3⟩:=E37 hi hj
 unfold flat
 refine G04 _ _ _ _ _ (fun _=>?_) (fun q hq hne=>?_)
 ·rw [h2,h3,if_pos hd,hv]
 ·have hW:0 < b.length+1:=by omega
  have e:=Nat.div_add_mod q (b.length+1)
  have hr:q / (b.length+1)≤a.length:=by
   have:=(Nat.div_lt_iff_lt_mul hW).2 hq
   omega
  have hm:=Nat.mod_lt q hW
  rw [ho _ _ hr (by omega) (fun ⟨e1,e2⟩=>hne (by rw [e1,e2,Nat.mul_comm] at e;exact e.symm))]
theorem J99 (a b:List Int):List.replicate ((a.length+1)*(b.length+1)) 0=flat a b (fun _ _=>false):=by
 unfold flat
 simp only [Bool.false_eq_true,if_false]
 rw [List.map_const',L15]
theorem B58 {a b:List Int} {done done':Nat→Nat→Bool} (h:∀r q,r≤a.length→q≤b.length→(done r q=done' r q∨dist (a.drop r) (b.drop q)=0)):flat a b done=flat a b done':=by
 unfold flat
 apply List.map_congr_left
 intro p hp
 have hp:=List.mem_range.1 hp
 have hW:0 < b.length+1:=by omega
 have hr:p / (b.length+1)≤a.length:=by have:=(Nat.div_lt_iff_lt_mul hW).2 hp;omega
 have hm:=Nat.mod_lt p hW
 rcases h (p / (b.length+1)) (p % (b.length+1)) hr (by omega) with e | e
 ·rw [e]
 ·rw [e];simp
def X3:List Int→List Int→Nat
 | x::a,y::b=>if x=y then X3 a b+1 else 0
 | _,_=>0
theorem H80:∀(a b:List Int),X3 a b≤a.length∧X3 a b≤b.length
 | [],_=>by simp [X3]
 | _::_,[]=>by simp [X3]
 | x::a,y::b=>by
  have:=H80 a b
  unfold X3
  simp only [K87]
  split<;>omega
theorem F20 (a b:List Int) (k:Nat) (hk:k < a.length) (hk':k < b.length):X3 (a.drop k) (b.drop k)=if a[k]=b[k] then X3 (a.drop (k+1)) (b.drop (k+1))+1 else 0:=by
 rw [K91 hk,K91 hk'];rfl
theorem K00 (a b:List Int) (k:Nat) (h:¬(k < a.length∧k < b.length)):X3 (a.drop k) (b.drop k)=0:=by
 by_cases h1:k < a.length
 ·rw [L00 (as:=b) (by omega)]
  cases a.drop k<;>rfl
 ·rw [L00 (as:=a) (by omega)];rfl
theorem F21:∀(a b:List Int) (p q:Int),L4 p q a b=Q5 p q (X3 a b)++L4 (p+X3 a b) (q+X3 a b) (a.drop (X3 a b)) (b.drop (X3 a b))
 | [],b,p,q=>by simp [X3,B52]
 | x::a,[],p,q=>by simp [X3,B52]
 | x::a,y::b,p,q=>by
  unfold X3
  by_cases h:x=y
  ·rw [if_pos h]
   conv=>lhs;unfold L4
   rw [if_pos h,F21 a b (p+1) (q+1),B50]
   simp only [List.drop_succ_cons,L05]
   rw [show p+1+(X3 a b:Int)=p+((X3 a b+1:Nat):Int) by omega,show q+1+(X3 a b:Int)=q+((X3 a b+1:Nat):Int) by omega]
  ·rw [if_neg h]
   simp [B52]
end Go.AL
namespace Go.AL
open Go
def GrX (l:List Change) (m ctx:Int):Nat→List Hunk→Nat→Prop
 | a,[],k=>a=k
 | a,h::r,k=>∃b,a < b∧opens l ctx a∧(∀c,a < c→c < b→¬opens l ctx c)∧h=mkH l m ctx a b∧GrX l m ctx b r k
theorem GrX.le {l:List Change} {m ctx:Int}:∀{hs:List Hunk} {a k:Nat},GrX l m ctx a hs k→a≤k
 | [],a,k,h=>Nat.le_of_eq h
 | _::_,a,k,⟨b,h1,_,_,_,h2⟩=>by have:=GrX.le h2;omega
theorem GrX.snoc {l:List Change} {m ctx:Int} {k n:Nat} (ho:opens l ctx k) (hk:k < n) (hno:∀c,k < c→c < n→¬opens l ctx c):∀{hs:List Hunk} {a:Nat},GrX l m ctx a hs k→GrX l m ctx a (hs++[mkH l m ctx k n]) n
 | [],a,h=>by
  obtain rfl:a=k:=h
  exact ⟨n,hk,ho,hno,rfl,rfl⟩
 | _::_,a,⟨b,h1,h2,h3,h4,h5⟩=>⟨b,h1,h2,h3,h4,GrX.snoc ho hk hno h5⟩
theorem GrX.last {l:List Change} {m ctx:Int} {k:Nat} (hno:¬opens l ctx k):∀{hs:List Hunk} {a:Nat},GrX l m ctx a hs k→hs≠[]→GrX l m ctx a (hs.set (hs.length - 1) (D18 l m ctx k (hs.getD (hs.length - 1) J31))) (k+1)
 | [],_,_,h0=>absurd rfl h0
 | [h],a,⟨b,h1,h2,h3,h4,h5⟩,_=>by
  obtain rfl:b=k:=h5
  subst h4
  refine ⟨b+1,by omega,h2,fun c hc1 hc2=>?_,rfl,rfl⟩
  by_cases hcb:c=b
  ·rw [hcb];exact hno
  ·exact h3 c hc1 (by omega)
 | h::h'::r,a,⟨b,h1,h2,h3,h4,h5⟩,_=>by
  have ih:=GrX.last hno h5 (by simp)
  refine ⟨b,h1,h2,h3,h4,?_⟩
  simpa using ih
theorem GrX.len {l:List Change} {m ctx:Int}:∀{hs:List Hunk} {a k:Nat},GrX l m ctx a hs k→hs.length≤k - a
 | [],_,_,_=>Nat.zero_le _
 | _::_,a,k,⟨b,h1,_,_,_,h2⟩=>by have:=GrX.len h2;have:=h2.le;simp only [K87];omega
end Go.AL
namespace Go.AL
open Go
def A30:List Str→Int→List (Str × Cell)
 | [],_=>[]
 | s::r,i=>(s,.v (.int .i64 i))::A30 r (i+1)
theorem G08 (s:Str):∀(l:List Str) (i:Int),A30 (l++[s]) i=A30 l i++[(s,.v (.int .i64 (i+l.length)))]
 | [],i=>by simp [A30]
 | x::r,i=>by
  simp only [L05,A30,G08 s r,K87]
  rw [show i+1+(r.length:Int)=i+((r.length+1:Nat):Int) by omega]
theorem G09 (s:Str):∀(l:List Str) (i:Int),s∈l→N5 (A30 l i) s=some (.v (.int .i64 (N8 l s i)))
 | [],_,h=>by simp at h
 | x::r,i,h=>by
  simp only [A30,N5,N8]
  by_cases he:x=s
  ·rw [if_pos he,if_pos he]
  ·rw [if_neg he,if_neg he]
   exact G09 s r (i+1) ((List.mem_cons.1 h).resolve_left (fun q=>he q.symm))
theorem F22 (s:Str):∀(l:List Str) (i:Int),s∉l→N5 (A30 l i) s=none
 | [],_,_=>rfl
 | x::r,i,h=>by
  simp only [A30,N5]
  rw [if_neg (fun q=>h (by simp [q]))]
  exact F22 s r (i+1) (fun q=>h (by simp [q]))
theorem C10 (s:Str) (r:List Str):∀(l:List Str) (i:Int),s∈l→N8 (l++r) s i=N8 l s i
 | [],_,h=>by simp at h
 | x::l,i,h=>by
  simp only [L05,N8]
  by_cases he:x=s
  ·rw [if_pos he,if_pos he]
  ·rw [if_neg he,if_neg he]
   exact C10 s r l (i+1) ((List.mem_cons.1 h).resolve_left (fun q=>he q.symm))
theorem E09 (s:Str):∀(l:List Str) (i:Int),s∉l→N8 (l++[s]) s i=i+l.length
 | [],i,_=>by simp [N8]
 | x::l,i,h=>by
  simp only [L05,N8,K87]
  rw [if_neg (fun q=>h (by simp [q])),E09 s l (i+1) (fun q=>h (by simp [q]))]
  omega
theorem D24:∀(l out:List Str),∃r,l.foldl O0 out=out++r
 | [],out=>⟨[],by simp⟩
 | s::l,out=>by
  obtain ⟨r,hr⟩:=D24 l (O0 out s)
  rw [L12,hr]
  unfold O0
  split
  ·exact ⟨r,rfl⟩
  ·exact ⟨s::r,by simp⟩
def P1 (files:List (List Str)) (k j:Nat):List Str:=((files.take k).flatten++(files.getD k []).take j).foldl O0 []
theorem H81 (files:List (List Str)) (k:Nat):P1 files (k+1) 0=P1 files k (files.getD k []).length:=by
 unfold P1
 rw [List.take_zero,L10,K89]
 by_cases h:k < files.length
 ·rw [A69 files k h]
  congr 2
  simp [h]
 ·rw [L09 (by omega),L09 (by omega)]
  have:files.getD k []=[]:=by simp [show files.length≤k by omega]
  rw [this,L10]
theorem G77 (files:List (List Str)) (k j:Nat) (s:Str) (h:(files.getD k [])[j]?=some s):P1 files k (j+1)=O0 (P1 files k j) s:=by
 unfold P1
 have hj:j < (files.getD k []).length:=(List.getElem?_eq_some_iff.1 h).1
 have he:=(List.getElem?_eq_some_iff.1 h).2
 rw [L24 hj,he,←K96,L27]
 rfl
theorem H82 (files:List (List Str)):P1 files files.length 0=H5 files:=by
 unfold P1 H5
 rw [K89];simp
theorem E10 (files:List (List Str)) (k j:Nat):∃r,H5 files=P1 files k j++r:=by
 have h:∃m,files.flatten=((files.take k).flatten++(files.getD k []).take j)++m:=by
  refine ⟨(files.getD k []).drop j++(files.drop (k+1)).flatten,?_⟩
  by_cases hk:k < files.length
  ·have e:files=files.take k++files.getD k []::files.drop (k+1):=by
    have:files.getD k []=files[k]:=by simp [hk]
    rw [this,List.getElem_cons_drop,L21]
   conv=>lhs;rw [e]
   rw [L20,L16,K96]
   congr 1
   rw [←K96,L21]
  ·have:files.getD k []=[]:=by simp [show files.length≤k by omega]
   rw [this,L09 (by omega:files.length≤k),L00 (by omega:files.length≤k+1)]
   simp
 obtain ⟨m,hm⟩:=h
 unfold H5 P1
 rw [hm,L27]
 obtain ⟨r,hr⟩:=D24 m (((files.take k).flatten++(files.getD k []).take j).foldl O0 [])
 exact ⟨r,hr⟩
theorem F23 (files:List (List Str)) (k j:Nat):(P1 files k j).length≤files.flatten.length:=by
 obtain ⟨r,hr⟩:=E10 files k j
 have:=F02 files
 rw [hr,K86] at this;omega
def P7 (files:List (List Str)) (k:Nat):List TC:=(List.range files.length).map fun r=>if r < k then .p (.list Int 1 E4 (N0 (H5 files) (files.getD r []))) else .p (.v (.slice none 0 0))
theorem K01 {files:List (List Str)} {k:Nat} (h:k < files.length):(P7 files k)[k]?=some (.p (.v (.slice none 0 0))):=by
 simp [P7,h]
theorem G78 (files:List (List Str)) (k m:Nat) (_h:k < files.length):((P7 files k).set k (.buf m Int 1 E4 (N0 (H5 files) (files.getD k [])))).map (TC.forget m)=P7 files (k+1):=by
 have e1:(P7 files k).map (TC.forget m)=P7 files k:=by
  unfold P7
  rw [L19]
  apply List.map_congr_left
  intro r _
  simp only [Function.comp]
  split<;>rfl
 rw [List.map_set,e1]
 have e2:(TC.buf m Int 1 E4 (N0 (H5 files) (files.getD k []))).forget m=.p (.list Int 1 E4 (N0 (H5 files) (files.getD k []))):=by simp [TC.forget]
 rw [e2]
 unfold P7
 refine G04 _ _ _ _ _ (fun _=>by simp) (fun q hq hne=>?_)
 simp only [show (q < k+1)=(q < k) from propext ⟨fun h=>by omega,fun h=>by omega⟩]
theorem I89 (files:List (List Str)):List.replicate files.length (TC.p (.v (.slice none 0 0)))=P7 files 0:=by
 unfold P7
 simp only [Nat.not_lt_zero,if_false,List.map_const',L15]
theorem I90 (files:List (List Str)):P7 files files.length=(files.map (N0 (H5 files))).map fun x=>TC.p (intsC x 0):=by
 unfold P7
 apply List.ext_getElem
 ·simp
 ·intro i h1 h2
  have hi:i < files.length:=by simpa using h1
  simp [hi,intsC]
end Go.AL
namespace Go.AL
open Go
theorem J35 (m n:Int):∀(l:List Change) (k0:Nat) (i j:Int),(∀k,k < l.length→O2 (cAt l k).Old∧O2 (cAt l k).OldLen∧O2 (cAt l k).New∧O2 (cAt l k).NewLen∧(cAt l k).OldLen+(cAt l k).NewLen≠0∧(cAt l k).Old - eoI i l k=(cAt l k).New - enI j l k∧eoI i l k≤(cAt l k).Old∧(0 < k0+k→eoI i l k < (cAt l k).Old)) →
  (m - eoI i l l.length=n - enI j l l.length∧eoI i l l.length≤m)→O3 k0 i j l m n=true
 | [],k0,i,j,_,h=>by
  have h1:m - i=n - j∧i≤m:=h
  simp only [O3,decide_eq_true_eq];omega
 | c::r,k0,i,j,h,he=>by
  simp only [O3,K83,decide_eq_true_eq]
  refine ⟨?_,J35 m n r (k0+1) _ _ (fun k hk=>?_) ?_⟩
  ·obtain ⟨h1,h2,h3,h4,h5,h6,h7,h8⟩:=h 0 (by simp)
   have h1:O2 c.Old:=h1
   have h2:O2 c.OldLen:=h2
   have h3:O2 c.New:=h3
   have h4:O2 c.NewLen:=h4
   have h5:c.OldLen+c.NewLen≠0:=h5
   have h6:c.Old - i=c.New - j:=h6
   have h7:i≤c.Old:=h7
   have h8:0 < k0+0→i < c.Old:=h8
   unfold badC
   rintro (((((((q | q) | q) | q) | q) | q) | q) | ⟨q,q2⟩)
   ·exact q h1
   ·exact q h2
   ·exact q h3
   ·exact q h4
   ·exact h5 q
   ·exact q h6
   ·omega
   ·have:=h8 (by omega);omega
  ·have:=h (k+1) (by simpa using hk)
   rw [D21,A10,A11] at this
   obtain ⟨e1,e2,e3,e4,e5,e6,e7,e8⟩:=this
   exact ⟨e1,e2,e3,e4,e5,e6,e7,fun h0=>e8 (by omega)⟩
  ·rw [K87,A10,A11] at he;exact he
theorem J36 (x y:List Str):∀(l:List Change) (i j:Int),(∀k,k < l.length→sub x (eoI i l k) (cAt l k).Old=sub y (enI j l k) (cAt l k).New)→sub x (eoI i l l.length) x.length=sub y (enI j l l.length) y.length→C09 x y i j l
 | [],_,_,_,h=>h
 | c::r,i,j,h,he=>by
  refine ⟨h 0 (by simp),J36 x y r _ _ (fun k hk=>?_) ?_⟩
  ·have:=h (k+1) (by simpa using hk)
   rw [D21,A10,A11] at this;exact this
  ·rw [K87,A10,A11] at he;exact he
theorem J37 {x:List Str} {p q:Int} {t:Nat} (h0:0≤p) (h:p+t < q):(sub x p q)[t]?=x[(p+t).toNat]?:=by
 unfold sub
 rw [List.getElem?_take,if_pos (by omega),L23]
 congr 1;omega
theorem G79 {x y:List Str} {p q p' q':Int} (h:sub x p q=sub y p' q') (h0:0≤p) (h0':0≤p') (hq:q≤x.length) (he:q - p=q' - p') {t:Nat} (ht:p+t < q):∃v,x[(p+t).toNat]?=some v∧y[(p'+t).toNat]?=some v:=by
 have h1:x[(p+t).toNat]?=some x[(p+t).toNat]:=K82 (by omega)
 refine ⟨_,h1,?_⟩
 rw [←J37 (q:=q') h0' (by omega),←h,J37 h0 ht];exact h1
theorem E11 {i j:Int} {n:Nat} {p:Span} (h:p∈Q5 i j n):∃t:Nat,t < n∧p=⟨i+t,j+t⟩:=by
 unfold Q5 at h
 obtain ⟨t,h1,h2⟩:=List.mem_map.1 h
 exact ⟨t,List.mem_range.1 h1,h2.symm⟩
theorem F24 {x y:List Str}:∀(l:List Change) (k0:Nat) (i j:Int),O3 k0 i j l x.length y.length=true→C09 x y i j l→0≤i→0≤j→∀p∈B18 i j l x.length,EqAt x y p
 | [],k0,i,j,hs,he,hi,hj,p,hp=>by
  simp only [O3,decide_eq_true_eq] at hs
  unfold B18 at hp
  obtain ⟨t,ht,rfl⟩:=E11 hp
  have he:sub x i x.length=sub y j y.length:=he
  exact ⟨by dsimp only;omega,by dsimp only;omega,G79 he hi hj (by omega) (by omega) (by omega)⟩
 | c::r,k0,i,j,hs,he,hi,hj,p,hp=>by
  have hok:=C06 _ _ _ _ _ _ hs
  have g:=A17 x.length y.length (c::r) k0 i j hs 0 (by simp)
  obtain ⟨g1,g2,g3,g4,g5,g6,g7,_⟩:=g
  have g1:O2 c.Old:=g1
  have g2:O2 c.OldLen:=g2
  have g3:O2 c.New:=g3
  have g4:O2 c.NewLen:=g4
  have g6:c.Old - i=c.New - j:=g6
  have g7:i≤c.Old:=g7
  simp only [O3,K83,decide_eq_true_eq] at hs
  unfold B18 at hp
  unfold O2 at g1 g2 g3 g4
  have hm:=hok.2.2.2.2.2.2.end_le
  rcases List.mem_append.1 hp with hp | hp
  ·obtain ⟨t,ht,rfl⟩:=E11 hp
   exact ⟨by dsimp only;omega,by dsimp only;omega,G79 he.1 hi hj (by omega) (by omega) (by omega)⟩
  ·rw [show max i c.Old+c.OldLen=c.Old+c.OldLen by omega,show j+((c.Old - i).toNat:Int)+c.NewLen=c.New+c.NewLen by omega] at hp
   exact F24 r (k0+1) _ _ hs.2 he.2 (by omega) (by omega) p hp
theorem ScFit.pairs {x y:List Str} {l:List Change} (h:ScFit x y l):∀p∈J95 l x.length,EqAt x y p:=F24 l 0 0 0 h.sc h.eq (Int.le_refl _) (Int.le_refl _)
def D68 (c:Change):Change:=⟨c.Old+1,c.OldLen,c.New+1,c.NewLen⟩
def B59 (l:List Change) (k:Nat):List Change:=l.set k (D68 (cAt l k))
def atI (t:List Int) (i:Int):Int:=t.getD i.toNat 0
def J38 (l:List Change) (k:Nat) (t:List Int) (f n:Int):Prop:=(f+n < t.length∧atI t f=atI t (f+n))∧(k+1=l.length∨(cAt l k).Old+(cAt l k).OldLen+1 < (cAt l (k+1)).Old)
instance (l:List Change) (k:Nat) (t:List Int) (f n:Int):Decidable (J38 l k t f n):=by unfold J38;exact inferInstance
def E38 (l:List Change) (a b:List Int) (k:Nat):Bool :=
 if (cAt l k).NewLen=0 then decide (J38 l k a (cAt l k).Old (cAt l k).OldLen) else if (cAt l k).OldLen=0 then decide (J38 l k b (cAt l k).New (cAt l k).NewLen) else false
theorem r9 (l:List Change) (k:Nat):(B59 l k).length=l.length:=by simp [B59]
theorem C31 (l:List Change) {k:Nat} (hk:k < l.length) (q:Nat):cAt (B59 l k) q=if q=k then D68 (cAt l k) else cAt l q:=by
 unfold B59
 by_cases h:q=k
 ·subst h
  have:∀z,cAt (l.set q z) q=z:=fun z=>by unfold cAt;simp [hk]
  rw [if_pos rfl,this]
 ·rw [if_neg h];unfold cAt
  simp only [K88]
  rw [List.getElem?_set_ne (Ne.symm h)]
theorem D25 (l:List Change) {k:Nat} (hk:k < l.length) (q:Nat):eoI 0 (B59 l k) q=eoI 0 l q+(if q=k+1 then 1 else 0):=by
 cases q with
 | zero=>simp [eoI]
 | succ q =>
  rw [C07,C07,C31 l hk]
  by_cases h:q=k
  ·subst h;rw [if_pos rfl,if_pos rfl];simp only [B72,D68];omega
  ·rw [if_neg h,if_neg (by omega)];omega
theorem D26 (l:List Change) {k:Nat} (hk:k < l.length) (q:Nat):enI 0 (B59 l k) q=enI 0 l q+(if q=k+1 then 1 else 0):=by
 cases q with
 | zero=>simp [enI]
 | succ q =>
  rw [C08,C08,C31 l hk]
  by_cases h:q=k
  ·subst h;rw [if_pos rfl,if_pos rfl];simp only [G74,D68];omega
  ·rw [if_neg h,if_neg (by omega)];omega
structure IdsOf (x:List Str) (a:List Int):Prop where
 len:a.length=x.length
 inj:∀(i j:Nat) (u v:Str) (z:Int),x[i]?=some u→x[j]?=some v→a[i]?=some z→a[j]?=some z→u=v
theorem ScFit.down {x y:List Str} {l:List Change} {a b:List Int} (h:ScFit x y l) (ha:IdsOf x a) (hb:IdsOf y b) {k:Nat} (hk:k < l.length) (hd:E38 l a b k=true):ScFit x y (B59 l k):=by
 have hlx:=h.lx
 have hly:=h.ly
 have hg:=A17 _ _ _ 0 0 0 h.sc
 have hge:=I86 _ _ _ 0 0 0 h.sc
 have hq:=G75 _ _ _ _ _ h.eq
 have hqe:=I87 _ _ _ _ _ h.eq
 have hok:=h.ok
 obtain ⟨c,hc⟩:∃c,c=cAt l k:=⟨_,rfl⟩
 obtain ⟨g1,g2,g3,g4,g5,g6,g7,g8⟩:=hg k hk
 have hb4:=hok.get k hk
 rw [←hc] at g1 g2 g3 g4 g5 g6 g7 g8 hb4
 unfold O2 at g1 g2 g3 g4
 have eo1:eoI 0 l (k+1)=c.Old+c.OldLen:=by rw [C07,←hc];rfl
 have en1:enI 0 l (k+1)=c.New+c.NewLen:=by rw [C08,←hc];rfl
 obtain ⟨E,E',hE1,hE2,hE3,hE4,hE5,hEn⟩:∃E E':Int,sub x (c.Old+c.OldLen) E=sub y (c.New+c.NewLen) E'∧E - (c.Old+c.OldLen)=E' - (c.New+c.NewLen)∧E≤x.length∧E'≤y.length∧(c.Old+c.OldLen < E)∧(k+1 < l.length→E=(cAt l (k+1)).Old∧E'=(cAt l (k+1)).New∧c.Old+c.OldLen+1 < E):=by
  by_cases hl:k+1=l.length
  ·rw [←hl,eo1,en1] at hge hqe
   refine ⟨x.length,y.length,hqe,by omega,by omega,by omega,?_,fun q=>absurd hl (by omega)⟩
   unfold E38 at hd
   rw [←hc] at hd
   split at hd
   ·have:=(A0 hd).1.1;rw [ha.len] at this;omega
   ·split at hd
    ·have:=(A0 hd).1.1;rw [hb.len] at this;omega
    ·cases hd
  ·have hl:k+1 < l.length:=by omega
   obtain ⟨f1,f2,f3,f4,f5,f6,f7,f8⟩:=hg (k+1) hl
   have f9:=hq (k+1) hl
   have f10:=hok.get (k+1) hl
   rw [eo1,en1] at f6 f9
   rw [eo1] at f7
   unfold O2 at f2 f4
   have hroom:c.Old+c.OldLen+1 < (cAt l (k+1)).Old:=by
    unfold E38 at hd
    rw [←hc] at hd
    split at hd
    ·have:=(A0 hd).2;rw [←hc] at this;omega
    ·split at hd
     ·have:=(A0 hd).2;rw [←hc] at this;omega
     ·cases hd
   exact ⟨_,_,f9,by omega,by omega,by omega,by omega,fun _=>⟨rfl,rfl,hroom⟩⟩
 have hv:∃v,x[c.Old.toNat]?=some v∧y[c.New.toNat]?=some v:=by
  obtain ⟨v,v1,v2⟩:=G79 (t:=0) hE1 (by omega) (by omega) (by omega) hE2 (by omega)
  simp only [Int.natCast_zero,Int.add_zero] at v1 v2
  unfold E38 at hd
  rw [←hc] at hd
  split at hd
  ·rename_i hn
   have:=(A0 hd).1.2
   rw [hn,Int.add_zero] at v2
   refine ⟨v,?_,v2⟩
   have l1:c.Old.toNat < a.length:=by rw [ha.len];omega
   have l2:(c.Old+c.OldLen).toNat < a.length:=by rw [ha.len];omega
   have hx:x[c.Old.toNat]?=some x[c.Old.toNat]:=K82 (by omega)
   have ea:a[c.Old.toNat]?=some (atI a c.Old):=by unfold atI;rw [K88,K82 l1];rfl
   have eb:a[(c.Old+c.OldLen).toNat]?=some (atI a (c.Old+c.OldLen)):=by unfold atI;rw [K88,K82 l2];rfl
   rw [←this] at eb
   have:=ha.inj _ _ _ _ _ hx v1 ea eb
   rw [hx,this]
  ·split at hd
   ·rename_i _ hn
    have:=(A0 hd).1.2
    rw [hn,Int.add_zero] at v1
    refine ⟨v,v1,?_⟩
    have l1:c.New.toNat < b.length:=by rw [hb.len];omega
    have l2:(c.New+c.NewLen).toNat < b.length:=by rw [hb.len];omega
    have hx:y[c.New.toNat]?=some y[c.New.toNat]:=K82 (by omega)
    have ea:b[c.New.toNat]?=some (atI b c.New):=by unfold atI;rw [K88,K82 l1];rfl
    have eb:b[(c.New+c.NewLen).toNat]?=some (atI b (c.New+c.NewLen)):=by unfold atI;rw [K88,K82 l2];rfl
    rw [←this] at eb
    have:=hb.inj _ _ _ _ _ hx v2 ea eb
    rw [hx,this]
   ·cases hd
 obtain ⟨v,v1,v2⟩:=hv
 have hen0:0≤eoI 0 l k∧0≤enI 0 l k:=by
  cases k with
  | zero=>simp [eoI,enI]
  | succ k =>
   obtain ⟨f1,f2,f3,f4,_⟩:=hg k (by omega)
   unfold O2 at f1 f2 f3 f4
   rw [C07,C08];unfold B72 G74;omega
 have htail:sub x (c.Old+c.OldLen+1) E=sub y (c.New+c.NewLen+1) E':=by
  have:=F13 (e:=E - (c.Old+c.OldLen) - 1) hE1 (by omega) (by omega) (by omega) (by omega) hE2
  rw [show E - (E - (c.Old+c.OldLen) - 1)=c.Old+c.OldLen+1 by omega,show E' - (E - (c.Old+c.OldLen) - 1)=c.New+c.NewLen+1 by omega] at this
  exact this
 refine ⟨hlx,hly,J35 _ _ _ 0 0 0 (fun q hql=>?_) ?_,J36 _ _ _ 0 0 (fun q hql=>?_) ?_⟩
 ·rw [r9] at hql
  rw [C31 l hk,D25 l hk,D26 l hk]
  by_cases e:q=k
  ·rw [if_pos e,if_neg (show ¬q=k+1 by omega),e,←hc]
   unfold O2
   simp only [D68]
   refine ⟨by omega,g2,by omega,g4,g5,by omega,by omega,fun _=>by omega⟩
  ·rw [if_neg e]
   obtain ⟨f1,f2,f3,f4,f5,f6,f7,f8⟩:=hg q hql
   refine ⟨f1,f2,f3,f4,f5,?_,?_,?_⟩
   ·by_cases e2:q=k+1
    ·rw [if_pos e2];omega
    ·rw [if_neg e2];omega
   ·by_cases e2:q=k+1
    ·rw [if_pos e2];have:=f8 (by omega);omega
    ·rw [if_neg e2];omega
   ·intro h0
    by_cases e2:q=k+1
    ·rw [if_pos e2,e2,eo1]
     have:=(hEn (by omega))
     omega
    ·rw [if_neg e2];have:=f8 h0;omega
 ·rw [r9,D25 l hk,D26 l hk]
  by_cases e2:l.length=k+1
  ·rw [if_pos e2,e2,eo1,en1]
   rw [e2,eo1,en1] at hge
   have h1:E≤x.length:=hE3
   omega
  ·rw [if_neg e2];omega
 ·rw [r9] at hql
  rw [C31 l hk,D25 l hk,D26 l hk]
  by_cases e:q=k
  ·rw [if_pos e,if_neg (show ¬q=k+1 by omega),e,←hc]
   simp only [D68,Int.add_zero]
   have:=hq k hk
   rw [←hc] at this
   rw [B20 hen0.1 g7 v1,B20 hen0.2 (by omega) v2,this]
  ·rw [if_neg e]
   by_cases e2:q=k+1
   ·rw [if_pos e2]
    subst e2
    obtain ⟨q1,q2,_⟩:=hEn hql
    rw [eo1,en1,←q1,←q2];exact htail
   ·rw [if_neg e2,Int.add_zero,Int.add_zero]
    exact hq q hql
 ·rw [r9,D25 l hk,D26 l hk]
  by_cases e2:l.length=k+1
  ·rw [if_pos e2]
   rw [e2,eo1,en1] at hqe hge ⊢
   have:=F13 (e:=x.length - (c.Old+c.OldLen) - 1) hqe (by omega) (by omega) (by omega) (by omega) (by omega)
   rw [show (x.length:Int) - (x.length - (c.Old+c.OldLen) - 1)=c.Old+c.OldLen+1 by omega,show (y.length:Int) - (x.length - (c.Old+c.OldLen) - 1)=c.New+c.NewLen+1 by omega] at this
   exact this
  ·rw [if_neg e2,Int.add_zero,Int.add_zero];exact hqe
section
variable {x y:List Str} {a b:List Int} (ha:IdsOf x a) (hb:IdsOf y b)
include ha hb
end
end Go.AL
namespace Go.AL
open Go
structure Made12 (on nn a b:Str) (l:List Change) (ctx:Int):Prop where
 chk:D20 ⟨on,nn,l0 l (F1 a) (F1 b) ctx⟩=0
 wr:(J32 ⟨on,nn,l0 l (F1 a) (F1 b) ctx⟩).length≤16777216
 fit:PFit ⟨on,nn,l0 l (F1 a) (F1 b) ctx⟩
 rg:∀h∈l0 l (F1 a) (F1 b) ctx,(-4611686018427387904≤h.Old∧h.Old≤4611686018427387904)∧(-4611686018427387904≤h.New∧h.New≤4611686018427387904)
 sz:szP (l0 l (F1 a) (F1 b) ctx)≤268435456
end Go.AL
namespace Go.AL
open Go
section
variable {x y:List Str} {l:List Change}
end
theorem G10:∀(a:List Int) (p q:Int),L4 p q a a=Q5 p q a.length
 | [],p,q=>by simp [L4,Q5]
 | c::r,p,q=>by
  rw [L4,if_pos rfl,G10 r,K87,B50]
theorem H83:∀(n:Nat) (i j:Int),V2 i j (Q5 i j n) (i+n) (j+n)=[]
 | 0,i,j=>by simp [Q5,V2]
 | n+1,i,j=>by
  rw [B50,V2]
  have:=H83 n (i+1) (j+1)
  rw [show i+1+(n:Int)=i+((n+1:Nat):Int) by omega,show j+1+(n:Int)=j+((n+1:Nat):Int) by omega] at this
  rw [if_neg (by simp)];exact this
theorem H84 (x:List Str):A46 x x=[]:=by
 unfold A46 B51 C05
 rw [G10]
 have:=H83 (N0 (H5 [x,x]) x).length 0 0
 simpa using this
end Go.AL
namespace Go.AL
open Go
end Go.AL
namespace Go.AL
open Go
end Go.AL
namespace Go.AL
open Go
theorem check12_good {p:Patch} (h:D20 p=0):D64 p.Hunks=true:=by
 unfold D20 at h
 split at h
 ·cases h
 ·split at h
  ·cases h
  ·rename_i h1;simpa using h1
end Go.AL
namespace Go.AL
open Go
structure CHunk where
 At:List Int
 Rows:List Row
 deriving DecidableEq
structure Comb where
 Path:Str
 Dense:Bool
 Parents:Int
 Hunks:List CHunk
 deriving DecidableEq
def colNum (n k:Nat):Int:=if k=n then -1 else k
def cntC (rows:List Row) (n k:Nat):Int:=(colOf rows (colNum n k)).length
structure CRead (n:Nat) (h:CHunk):Prop where
 len:h.At.length=n+1
 ne:h.Rows≠[]
 at0:∀k,k < n+1→0≤h.At.getD k 0∧h.At.getD k 0+cntC h.Rows n k≤4096
 rows:∀r∈h.Rows,markOk n r=true∧l8 r.Text=true
end Go.AL
namespace Go.AL
open Go
end Go.AL
namespace Go.AL
open Go
theorem getI {l:List Int} {i:Nat} (h:i < l.length):l[i]?=some (l.getD i 0):=by simp [h]
end Go.AL
namespace Go.AL
open Go
end Go.AL
namespace Go.AL
open Go
abbrev A12:Bool→Nat→Cell:=fun b _=>.v (.bool b)
abbrev G80 (l:List Bool):PV:=.one (.list Bool 1 A12 l)
end Go.AL
namespace Go.AL
open Go
def c6 (l:List Int) (i j:Nat):List Int:=(l.set i (atG l j)).set j (atG l i)
def upH (bf:Int→Int→Bool):Nat→List Int→Nat→List Int
 | 0,l,_=>l
 | f+1,l,j=>if (j - 1) / 2=j∨bf (atG l j) (atG l ((j - 1) / 2))=false then l else upH bf f (c6 l ((j - 1) / 2) j) ((j - 1) / 2)
def E29 (bf:Int→Int→Bool) (n:Nat) (l:List Int) (i:Nat):Nat:=if 2*i+2 < n∧bf (atG l (2*i+2)) (atG l (2*i+1))=true then 2*i+2 else 2*i+1
def A47 (bf:Int→Int→Bool) (n:Nat):Nat→List Int→Nat→List Int
 | 0,l,_=>l
 | f+1,l,i=>if n≤2*i+1 then l else if bf (atG l (E29 bf n l i)) (atG l i)=false then l else A47 bf n f (c6 l i (E29 bf n l i)) (E29 bf n l i)
def D27 (bf:Int→Int→Bool) (l:List Int) (x:Int):List Int:=upH bf (l.length+1) (l++[x]) l.length
def C83 (bf:Int→Int→Bool) (l:List Int):List Int:=A47 bf (l.length - 1) l.length (c6 l 0 (l.length - 1)) 0
theorem P0 (l:List Int) (i j:Nat):(c6 l i j).length=l.length:=by simp [c6]
theorem j5 {l:List Int} {i j:Nat} (hi:i < l.length) (hj:j < l.length) (k:Nat):atG (c6 l i j) k=if k=j then atG l i else if k=i then atG l j else atG l k:=by
 unfold c6
 rw [A72 (by rw [L06];exact hj),A72 hi]
 simp only [@eq_comm Nat j k,@eq_comm Nat i k]
theorem P9 {l:List Int} {k:Nat} (h:k < l.length):atG l k=l[k]:=by unfold atG;rw [K82 h];rfl
theorem G11 {l:List Int} {i j:Nat} (hi:i < l.length) (hj:j < l.length) (x:Int):x∈c6 l i j↔x∈l:=by
 have sub:∀{l:List Int} {i j:Nat},i < l.length→j < l.length→∀x,x∈c6 l i j→x∈l:=by
  intro l i j hi hj x hx
  obtain ⟨k,hk,e⟩:=List.getElem_of_mem hx
  rw [←P9 hk,j5 hi hj] at e
  rw [P0] at hk
  split at e
  ·rw [←e,P9 hi];exact K85 hi
  ·split at e
   ·rw [←e,P9 hj];exact K85 hj
   ·rw [←e,P9 hk];exact K85 hk
 refine ⟨sub hi hj x,fun hx=>?_⟩
 have e:c6 (c6 l i j) i j=l:=by
  refine List.ext_getElem (by rw [P0,P0]) fun k h1 h2=>?_
  rw [←P9 h1,←P9 h2,j5 (by rw [P0];exact hi) (by rw [P0];exact hj),j5 hi hj,j5 hi hj,j5 hi hj]
  by_cases h3:k=j
  ·subst h3
   rw [if_pos rfl]
   by_cases h4:i=k
   ·rw [if_pos h4,h4]
   ·rw [if_neg h4,if_pos rfl]
  ·rw [if_neg h3]
   by_cases h4:k=i
   ·rw [if_pos h4,if_pos rfl,h4]
   ·rw [if_neg h4,if_neg h3,if_neg h4]
 exact sub (by rw [P0];exact hi) (by rw [P0];exact hj) x (by rw [e];exact hx)
theorem K51 {l:List Int}:l.Nodup↔∀i j,i < l.length→j < l.length→atG l i=atG l j→i=j:=by
 constructor
 ·intro h i j hi hj e
  rw [P9 hi,P9 hj] at e
  exact (List.getElem_inj h).1 e
 ·intro h
  rw [List.Nodup,List.pairwise_iff_getElem]
  intro i j hi hj hlt e
  have:=h i j hi hj (by rw [P9 hi,P9 hj];exact e)
  omega
theorem H85 {l:List Int} {i j:Nat} (hi:i < l.length) (hj:j < l.length) (h:l.Nodup):(c6 l i j).Nodup:=by
 rw [K51] at h ⊢
 intro a b ha hb e
 rw [P0] at ha hb
 rw [j5 hi hj,j5 hi hj] at e
 by_cases a1:a=j<;>by_cases b1:b=j
 ·omega
 ·rw [if_pos a1,if_neg b1] at e
  by_cases b2:b=i
  ·rw [if_pos b2] at e;have:=h _ _ hi hj e;omega
  ·rw [if_neg b2] at e;have:=h _ _ hi hb e;omega
 ·rw [if_neg a1,if_pos b1] at e
  by_cases a2:a=i
  ·rw [if_pos a2] at e;have:=h _ _ hj hi e;omega
  ·rw [if_neg a2] at e;have:=h _ _ ha hi e;omega
 ·rw [if_neg a1,if_neg b1] at e
  by_cases a2:a=i<;>by_cases b2:b=i
  ·omega
  ·rw [if_pos a2,if_neg b2] at e;have:=h _ _ hj hb e;omega
  ·rw [if_neg a2,if_pos b2] at e;have:=h _ _ ha hj e;omega
  ·rw [if_neg a2,if_neg b2] at e;exact h _ _ ha hb e
structure SameL (l m:List Int):Prop where
 len:m.length=l.length
 mem:∀x,x∈m↔x∈l
 nodup:l.Nodup→m.Nodup
theorem SameL.refl (l:List Int):SameL l l:=⟨rfl,fun _=>Iff.rfl,id⟩
theorem SameL.trans {a b c:List Int} (h:SameL a b) (h2:SameL b c):SameL a c:=⟨h2.len.trans h.len,fun x=>(h2.mem x).trans (h.mem x),fun hn=>h2.nodup (h.nodup hn)⟩
theorem SameL.swap {l:List Int} {i j:Nat} (hi:i < l.length) (hj:j < l.length):SameL l (c6 l i j):=⟨P0 l i j,G11 hi hj,H85 hi hj⟩
structure Weak (bf:Int→Int→Bool):Prop where
 irr:∀a,bf a a=false
 asy:∀{a b},bf a b=true→bf b a=false
 ntr:∀{a b c},bf a b=false→bf b c=false→bf a c=false
def D28 (bf:Int→Int→Bool) (n:Nat) (l:List Int):Prop:=∀k,k < n→0 < k→bf (atG l k) (atG l ((k - 1) / 2))=false
theorem K02 {bf:Int→Int→Bool} (w:Weak bf) {n:Nat} {l:List Int} (h:D28 bf n l):∀k,k < n→bf (atG l k) (atG l 0)=false:=by
 intro k
 induction k using Nat.strongRecOn with
 | _ k ih =>
  intro hk
  by_cases h0:k=0
  ·subst h0;exact w.irr _
  ·exact w.ntr (h k hk (by omega)) (ih ((k - 1) / 2) (by omega) (by omega))
theorem H86 {bf:Int→Int→Bool} (w:Weak bf) {n:Nat}:∀(f j:Nat) (l:List Int),j < f→j < n→n≤l.length →
  (∀k,k < n→0 < k→k≠j→bf (atG l k) (atG l ((k - 1) / 2))=false)→(∀k,k < n→0 < k→(k - 1) / 2=j→0 < j→bf (atG l k) (atG l ((j - 1) / 2))=false) →
  D28 bf n (upH bf f l j)∧SameL l (upH bf f l j)
 | 0,j,l,hf,_,_,_,_=>by omega
 | f + 1,j,l,hf,hj,hl,h1,h2=>by
  unfold upH
  split
  ·rename_i h
   refine ⟨fun k hk h0=>?_,SameL.refl l⟩
   by_cases e:k=j
   ·subst e
    rcases h with h | h
    ·omega
    ·exact h
   ·exact h1 k hk h0 e
  ·rename_i h
   have hne:(j - 1) / 2≠j:=fun e=>h (.inl e)
   have hlt:bf (atG l j) (atG l ((j - 1) / 2))=true:=by
    cases hb:bf (atG l j) (atG l ((j - 1) / 2))
    ·exact absurd (.inr hb) h
    ·rfl
   have hi:(j - 1) / 2 < l.length:=by omega
   have hjl:j < l.length:=by omega
   have hsw:=j5 hi hjl
   obtain ⟨a,b⟩:=H86 (n:=n) w f ((j - 1) / 2) (c6 l ((j - 1) / 2) j) (by omega) (by omega) (by rw [P0];exact hl) (fun k hk h0 hne2=>by
    rw [hsw,hsw]
    by_cases e1:k=j
    ·rw [if_pos e1,e1,if_neg (by omega),if_pos rfl];exact w.asy hlt
    ·rw [if_neg e1,if_neg hne2]
     by_cases e2:(k - 1) / 2=j
     ·rw [if_pos e2];exact h2 k hk h0 e2 (by omega)
     ·rw [if_neg e2]
      by_cases e3:(k - 1) / 2=(j - 1) / 2
      ·rw [if_pos e3]
       have h3:=h1 k hk h0 e1
       rw [e3] at h3
       exact w.ntr h3 (w.asy hlt)
      ·rw [if_neg e3];exact h1 k hk h0 e1) (fun k hk h0 e h3=>by
    rw [hsw,hsw,if_neg (show ¬((j - 1) / 2 - 1) / 2=j by omega),if_neg (show ¬((j - 1) / 2 - 1) / 2=(j - 1) / 2 by omega)]
    have h4:=h1 ((j - 1) / 2) (by omega) h3 (by omega)
    by_cases e1:k=j
    ·rw [if_pos e1];exact h4
    ·rw [if_neg e1,if_neg (by omega)]
     have h5:=h1 k hk h0 e1
     rw [e] at h5
     exact w.ntr h5 h4)
   exact ⟨a,(SameL.swap hi hjl).trans b⟩
theorem H87 {bf:Int→Int→Bool} (w:Weak bf) {l:List Int} (x:Int) (h:D28 bf l.length l):D28 bf (l.length+1) (D27 bf l x)∧SameL (l++[x]) (D27 bf l x):=by
 unfold D27
 have hat:∀k,k < l.length→atG (l++[x]) k=atG l k:=fun k hk=>by unfold atG;rw [K97 hk]
 refine H86 w (n:=l.length+1) (l.length+1) l.length (l++[x]) (by omega) (by omega) (by simp) (fun k hk h0 hne=>?_) (fun k hk h0 e h1=>by omega)
 rw [hat k (by omega),hat _ (by omega)]
 exact h k (by omega) h0
theorem J39 {bf:Int→Int→Bool} {n:Nat} {l:List Int} {i:Nat} (h:2*i+1 < n):E29 bf n l i < n∧(E29 bf n l i - 1) / 2=i∧i < E29 bf n l i:=by
 unfold E29;split<;>omega
theorem K52 {bf:Int→Int→Bool} (w:Weak bf) {n:Nat} {l:List Int} {i k:Nat} (hk:k < n) (h0:0 < k) (e:(k - 1) / 2=i):bf (atG l k) (atG l (E29 bf n l i))=false:=by
 unfold E29
 split
 ·rename_i h
  by_cases e1:k=2*i+2
  ·rw [e1];exact w.irr _
  ·rw [show k=2*i+1 by omega];exact w.asy h.2
 ·rename_i h
  by_cases e1:k=2*i+1
  ·rw [e1];exact w.irr _
  ·have e2:k=2*i+2:=by omega
   rw [e2]
   cases hb:bf (atG l (2*i+2)) (atG l (2*i+1))
   ·rfl
   ·exact absurd ⟨by omega,hb⟩ h
theorem F25 {bf:Int→Int→Bool} (w:Weak bf) {n:Nat}:∀(f i:Nat) (l:List Int),n≤i+f→n≤l.length →
  (∀k,k < n→0 < k→(k - 1) / 2≠i→bf (atG l k) (atG l ((k - 1) / 2))=false)→(∀k,k < n→0 < k→(k - 1) / 2=i→0 < i→bf (atG l k) (atG l ((i - 1) / 2))=false) →
  D28 bf n (A47 bf n f l i)∧SameL l (A47 bf n f l i)∧∀k,n≤k→atG (A47 bf n f l i) k=atG l k
 | 0,i,l,hf,_,h1,h2=>by
  unfold A47
  exact ⟨fun k hk h0=>h1 k hk h0 (by omega),SameL.refl l,fun _ _=>rfl⟩
 | f + 1,i,l,hf,hl,h1,h2=>by
  unfold A47
  split
  ·exact ⟨fun k hk h0=>h1 k hk h0 (by omega),SameL.refl l,fun _ _=>rfl⟩
  ·rename_i hn
   obtain ⟨c1,c2,c3⟩:=J39 (bf:=bf) (l:=l) (show 2*i+1 < n by omega)
   have c4:=fun k hk h0 e=>K52 (bf:=bf) w (n:=n) (l:=l) (i:=i) (k:=k) hk h0 e
   generalize E29 bf n l i=j at c1 c2 c3 c4
   split
   ·rename_i h
    refine ⟨fun k hk h0=>?_,SameL.refl l,fun _ _=>rfl⟩
    by_cases e:(k - 1) / 2=i
    ·rw [e];exact w.ntr (c4 k hk h0 e) h
    ·exact h1 k hk h0 e
   ·rename_i h
    have hlt:bf (atG l j) (atG l i)=true:=by simpa using h
    have hi:i < l.length:=by omega
    have hj:j < l.length:=by omega
    have hsw:=j5 hi hj
    obtain ⟨a,b,c⟩:=F25 (n:=n) w f j (c6 l i j) (by omega) (by rw [P0];exact hl) (fun k hk h0 hne=>by
     rw [hsw,hsw]
     rw [if_neg (show ¬(k - 1) / 2=j from hne)]
     by_cases e1:k=j
     ·rw [if_pos e1]
      rw [e1,if_pos c2];exact w.asy hlt
     ·rw [if_neg e1]
      by_cases e2:(k - 1) / 2=i
      ·rw [if_pos e2,if_neg (by omega)];exact c4 k hk h0 e2
      ·rw [if_neg e2]
       by_cases e3:k=i
       ·rw [if_pos e3,e3]
        exact h2 j c1 (by omega) c2 (by omega)
       ·rw [if_neg e3];exact h1 k hk h0 e2) (fun k hk h0 e h3=>by
     rw [hsw,hsw,if_neg (by omega),if_neg (by omega),c2,if_neg (by omega),if_pos rfl]
     have:=h1 k hk h0 (by omega)
     rw [e] at this;exact this)
    refine ⟨a,(SameL.swap hi hj).trans b,fun k hk=>?_⟩
    rw [c k hk,hsw,if_neg (by omega),if_neg (by omega)]
theorem popH_ok {bf:Int→Int→Bool} (w:Weak bf) {l:List Int} (h:D28 bf l.length l) (hl:0 < l.length) :
  D28 bf (l.length - 1) (C83 bf l)∧SameL l (C83 bf l)∧atG (C83 bf l) (l.length - 1)=atG l 0:=by
 unfold C83
 have h0:0 < l.length:=hl
 have h1:l.length - 1 < l.length:=by omega
 have hsw:=j5 h0 h1
 obtain ⟨a,b,c⟩:=F25 w (n:=l.length - 1) l.length 0 (c6 l 0 (l.length - 1)) (by omega) (by rw [P0];omega) (fun k hk hk0 hne=>by
  rw [hsw,hsw,if_neg (by omega),if_neg (by omega),if_neg (by omega),if_neg hne]
  exact h k (by omega) hk0) (fun k hk hk0 e h3=>by omega)
 refine ⟨a,(SameL.swap h0 h1).trans b,?_⟩
 rw [c _ (Nat.le_refl _),hsw,if_pos rfl]
end Go.AL
namespace Go.AL
open Go
def W7 (g:Graph) (c:Nat):Int:=(g[c]?.map (·.Date)).getD 0
def S3 (g:Graph) (a b:Int):Bool:=decide (W7 g a.toNat > W7 g b.toNat∨(W7 g a.toNat=W7 g b.toNat∧a < b))
theorem C32 (g:Graph):Weak (S3 g) where
 irr:=fun a=>by unfold S3;rw [decide_eq_false_iff_not];omega
 asy:=fun {a b} h=>by unfold S3 at h ⊢;rw [decide_eq_true_eq] at h;rw [decide_eq_false_iff_not];omega
 ntr:=fun {a b c} h h2=>by unfold S3 at h h2 ⊢;rw [decide_eq_false_iff_not] at h h2 ⊢;omega
def X9 (g:Graph) (inn:List Bool) (L:List Int) (c:Nat):Bool:=J0 inn c&&decide ((c:Int)∉L)&&(List.range g.length).all fun k=>!(decide ((c:Int)∈E6 g k)&&J0 inn k&&decide ((k:Int)∉L))
def s6 (g:Graph) (inn:List Bool) (L:List Int):Nat→Int
 | 0 => -1
 | m+1=>if X9 g inn L m=true∧(s6 g inn L m < 0∨W7 g m > W7 g (s6 g inn L m).toNat) then m else s6 g inn L m
def A48 (g:Graph) (inn:List Bool) (L:List Int):Int:=s6 g inn L g.length
def C40 (g:Graph) (inn:List Bool):Nat→List Int→List Int
 | 0,L=>L
 | f+1,L=>if A48 g inn L < 0 then L else C40 g inn f (L++[A48 g inn L])
def y5 (g:Graph) (s:List Int):List Int:=C40 g (O7 g s) (g.length+1) []
theorem B21 (g:Graph) (inn:List Bool) (L:List Int):∀m,(s6 g inn L m = -1∧∀c,c < m→X9 g inn L c=false)∨∃b:Nat,b < m∧s6 g inn L m=b∧X9 g inn L b=true∧∀c,c < m→X9 g inn L c=true→c≠b→S3 g b c=true
 | 0=>.inl ⟨rfl,fun _ h=>by omega⟩
 | m + 1=>by
  rw [s6]
  rcases B21 g inn L m with ⟨h1,h2⟩ | ⟨b,h1,h2,h3,h4⟩
  ·rw [h1]
   cases hr:X9 g inn L m
   ·rw [if_neg (by simp)]
    exact .inl ⟨rfl,fun c hc=>by
     by_cases e:c=m
     ·rw [e];exact hr
     ·exact h2 c (by omega)⟩
   ·rw [if_pos ⟨rfl,.inl (by omega)⟩]
    exact .inr ⟨m,by omega,rfl,hr,fun c hc hcr hne=>by rw [h2 c (by omega)] at hcr;cases hcr⟩
  ·rw [h2]
   split
   ·rename_i h
    have hd:W7 g m > W7 g b:=by
     rcases h.2 with h | h
     ·omega
     ·simpa using h
    refine .inr ⟨m,by omega,rfl,h.1,fun c hc hcr hne=>?_⟩
    unfold S3
    rw [decide_eq_true_eq,K84,K84]
    by_cases e:c=b
    ·subst e;exact .inl hd
    ·have:=A0 (h4 c (by omega) hcr e)
     rw [K84,K84] at this
     omega
   ·rename_i h
    refine .inr ⟨b,by omega,rfl,h3,fun c hc hcr hne=>?_⟩
    by_cases e:c=m
    ·subst e
     unfold S3
     rw [decide_eq_true_eq,K84,K84]
     have:¬W7 g c > W7 g b:=fun hd=>h ⟨hcr,.inr (by simpa using hd)⟩
     omega
    ·exact h4 c (by omega) hcr hne
theorem I91 {g:Graph} {inn:List Bool} {L:List Int} (h:∀c,c < g.length→X9 g inn L c=false):A48 g inn L = -1:=by
 rcases B21 g inn L g.length with h1 | ⟨b,h1,_,h3,_⟩
 ·exact h1.1
 ·rw [h b h1] at h3;cases h3
theorem K53 {g:Graph} {inn:List Bool} {L:List Int} {b:Nat} (hb:b < g.length) (hr:X9 g inn L b=true) (h:∀c,c < g.length→X9 g inn L c=true→S3 g c b=false):A48 g inn L=b:=by
 rcases B21 g inn L g.length with h1 | ⟨b',h1,h2,h3,h4⟩
 ·rw [h1.2 b hb] at hr;cases hr
 ·unfold A48
  rw [h2]
  by_cases e:b=b'
  ·rw [e]
  ·have:=h4 b hb hr e
   rw [h b' h1 h3] at this;cases this
theorem G12 {g:Graph} {inn:List Bool} {L:List Int} (h:0≤A48 g inn L):∃b:Nat,b < g.length∧A48 g inn L=b∧J0 inn b=true∧(b:Int)∉L:=by
 rcases B21 g inn L g.length with h1 | ⟨b,h1,h2,h3,_⟩
 ·have:A48 g inn L = -1:=h1.1
  omega
 ·unfold X9 at h3
  rw [K83,K83,decide_eq_true_eq] at h3
  exact ⟨b,h1,h2,h3.1.1,h3.1.2⟩
theorem G13 {g:Graph} {inn:List Bool} {f:Nat} {L:List Int} (hf:0 < f) (h:0≤A48 g inn L):C40 g inn f L=C40 g inn (f - 1) (L++[A48 g inn L]):=by
 obtain ⟨f,rfl⟩:∃k,f=k+1:=⟨f - 1,by omega⟩
 rw [C40,if_neg (by omega)];rfl
theorem H88 {g:Graph} {inn:List Bool} {f:Nat} {L:List Int} (h:A48 g inn L < 0):C40 g inn f L=L:=by
 cases f with
 | zero=>rfl
 | succ f=>rw [C40,if_pos h]
theorem H89 {g:Graph} {inn:List Bool}:∀(f:Nat) (L:List Int),L.Nodup→(∀x∈L,0≤x∧x < g.length)→(C40 g inn f L).Nodup∧∀x∈C40 g inn f L,0≤x∧x < g.length
 | 0,L,h,h2=>⟨h,h2⟩
 | f+1,L,h,h2=>by
  rw [C40]
  split
  ·exact ⟨h,h2⟩
  ·rename_i hb
   obtain ⟨b,b1,b2,_,b4⟩:=G12 (g:=g) (inn:=inn) (L:=L) (by omega)
   rw [b2]
   refine H89 f _ (List.nodup_append.2 ⟨h,by simp,fun x hx y hy e=>by rw [List.mem_singleton.1 hy] at e;exact b4 (e ▸ hx)⟩) fun x hx=>?_
   rcases List.mem_append.1 hx with hx | hx
   ·exact h2 x hx
   ·rw [List.mem_singleton.1 hx];omega
theorem C11 (g:Graph) (s:List Int):(y5 g s).Nodup∧∀x∈y5 g s,0≤x∧x < g.length:=H89 _ [] List.nodup_nil fun _ h=>by cases h
def D69 (g:Graph) (inn:List Bool) (ex:List Int) (p:Nat):Nat:=(List.range g.length).countP fun c:Nat=>J0 inn c&&decide ((c:Int)∉ex∧(p:Int)∈E6 g c)
theorem G14 {g:Graph} {inn:List Bool} {ex:List Int} {x p:Nat} (hx:(x:Int)∉ex) (hlt:x < g.length) (hon:J0 inn x=true):D69 g inn ex p=D69 g inn (ex++[(x:Int)]) p+(if (p:Int)∈E6 g x then 1 else 0):=by
 unfold D69
 rw [C78 (q:=fun c=>J0 inn c&&decide ((c:Int)∉ex∧(p:Int)∈E6 g c)) (r:=fun c=>J0 inn c&&decide ((c:Int)∉ex++[(x:Int)]∧(p:Int)∈E6 g c)) x (fun y=>?_) List.nodup_range]
 ·congr 1
  simp only [List.mem_range,hlt,true_and,decide_eq_true_eq,hx,not_false_eq_true,hon,Bool.true_and]
 ·simp only [L07,List.mem_singleton]
  by_cases h1:(y:Int)∈ex<;>by_cases h2:y=x<;>by_cases h3:(p:Int)∈E6 g y<;>cases J0 inn y<;>simp [h1,h2,h3]<;>omega
theorem K03 {g:Graph} {inn:List Bool} {ex:List Int} {p:Nat}:D69 g inn ex p=0↔∀c,c < g.length→J0 inn c=true→(p:Int)∈E6 g c→(c:Int)∈ex:=by
 unfold D69
 rw [List.countP_eq_zero]
 constructor
 ·intro h c hc ho hp
  have:=h c (List.mem_range.2 hc)
  rw [ho,Bool.true_and,decide_eq_true_eq] at this
  apply Classical.byContradiction
  exact fun hn=>this ⟨hn,hp⟩
 ·intro h c hc hh
  rw [K83,decide_eq_true_eq] at hh
  exact hh.2.1 (h c (List.mem_range.1 hc) hh.1 hh.2.2)
theorem G81 (g:Graph) (inn:List Bool) (ex:List Int) (p:Nat):D69 g inn ex p≤g.length:=by
 unfold D69
 have:=List.countP_le_length (p:=fun c=>J0 inn c&&decide ((c:Int)∉ex∧(p:Int)∈E6 g c)) (l:=List.range g.length)
 rwa [L15] at this
structure OInv (g:Graph) (inn:List Bool) (k i:Nat) (ch hp out:List Int):Prop where
 len:ch.length=g.length
 cnt:∀p,p < g.length→J0 inn p=true→atG ch p+(if (p:Int)∈(E6 g (out.getD k 0).toNat).take i then 1 else 0)=D69 g inn (out.take k) p
 off:∀p,p < g.length→J0 inn p=false→atG ch p = -1
 hpm:∀p:Nat,(p:Int)∈hp↔p < g.length∧J0 inn p=true∧(p:Int)∉out∧atG ch p=0
 hpr:∀x∈hp,0≤x∧x < g.length
 hpn:hp.Nodup
 heap:D28 (S3 g) hp.length hp
 outn:out.Nodup
 outr:∀x∈out,0≤x∧x < g.length∧J0 inn x.toNat=true∧atG ch x.toNat=0
theorem OInv.ready {g:Graph} {inn:List Bool} {ch hp out:List Int} (h:OInv g inn out.length 0 ch hp out) {c:Nat} (hc:c < g.length):X9 g inn out c=true↔(c:Int)∈hp:=by
 rw [h.hpm]
 unfold X9
 rw [K83,K83,decide_eq_true_eq,List.all_eq_true]
 have key:J0 inn c=true→((∀x∈List.range g.length,(!(decide ((c:Int)∈E6 g x)&&J0 inn x&&decide ((x:Int)∉out)))=true)↔atG ch c=0):=by
  intro ho
  have h1:=h.cnt c hc ho
  rw [K89,List.take_zero,if_neg (by simp)] at h1
  have h2:=K03 (g:=g) (inn:=inn) (ex:=out) (p:=c)
  constructor
  ·intro hall
   have:D69 g inn out c=0:=h2.2 fun k hk hok hp=>by
    have:=hall k (List.mem_range.2 hk)
    simpa [hp,hok] using this
   omega
  ·intro h0 k hk
   cases hok:J0 inn k
   ·simp
   ·by_cases hp:(c:Int)∈E6 g k
    ·have:=h2.1 (by omega) k (List.mem_range.1 hk) hok hp
     simp [hp,this]
    ·simp [hp]
 constructor
 ·rintro ⟨⟨h1,h2⟩,h3⟩;exact ⟨hc,h1,h2,(key h1).1 h3⟩
 ·rintro ⟨_,h1,h2,h3⟩;exact ⟨⟨h1,h2⟩,(key h1).2 h3⟩
theorem OInv.fin {g:Graph} {inn:List Bool} {ch out:List Int} (h:OInv g inn out.length 0 ch [] out):A48 g inn out = -1 :=
 I91 fun c hc=>by
  cases hr:X9 g inn out c
  ·rfl
  ·have:=(h.ready hc).1 hr;cases this
theorem OInv.le {g:Graph} {inn:List Bool} {k i:Nat} {ch hp out:List Int} (h:OInv g inn k i ch hp out):out.length≤g.length∧hp.length≤g.length :=
 ⟨b8 h.outn fun x hx=>⟨(h.outr x hx).1,(h.outr x hx).2.1⟩,b8 h.hpn h.hpr⟩
theorem K04 {l m:List Int} {n:Nat} (hn:n+1=l.length) (hs:SameL l m) (hnd:l.Nodup) {x:Int} (hx:atG m n=x):(∀y,y∈m.take n↔y∈l∧y≠x)∧(m.take n).Nodup∧(m.take n).length=n:=by
 have hml:m.length=n+1:=by rw [hs.len,hn]
 have hmn:=hs.nodup hnd
 have hlt:n < m.length:=by omega
 have e:m=m.take n++[x]:=by
  have h1:m.take (n+1)=m:=L09 (by omega)
  rw [List.take_add_one,K82 hlt,Option.toList_some] at h1
  rw [P9 hlt] at hx
  rw [hx] at h1
  exact h1.symm
 have hnd2:=hmn
 rw [e,List.nodup_append] at hnd2
 refine ⟨fun y=>?_,hnd2.1,by rw [K92];omega⟩
 rw [←hs.mem y]
 constructor
 ·intro hy
  exact ⟨List.mem_of_mem_take hy,hnd2.2.2 y hy x (by simp)⟩
 ·rintro ⟨hy,hne⟩
  rw [e] at hy
  rcases List.mem_append.1 hy with hy | hy
  ·exact hy
  ·exact absurd (List.mem_singleton.1 hy) hne
theorem OInv.pop {g:Graph} {inn:List Bool} {ch hp out:List Int} (h:OInv g inn out.length 0 ch hp out) (h0:0 < hp.length) :
  A48 g inn out=atG hp 0∧OInv g inn out.length 0 ch ((C83 (S3 g) hp).take (hp.length - 1)) (out++[atG hp 0])∧atG (C83 (S3 g) hp) (hp.length - 1)=atG hp 0:=by
 have hm:atG hp 0∈hp:=by rw [P9 h0];exact K85 h0
 have hr:=h.hpr _ hm
 obtain ⟨c,hc⟩:∃c:Nat,atG hp 0=c:=⟨(atG hp 0).toNat,by omega⟩
 have hm2:=(h.hpm c).1 (by rw [←hc];exact hm)
 obtain ⟨p1,p2,p3⟩:=popH_ok (C32 g) h.heap h0
 obtain ⟨t1,t2,t3⟩:=K04 (n:=hp.length - 1) (by omega) p2 h.hpn p3
 have hb:A48 g inn out=c:=K53 hm2.1 ((h.ready hm2.1).2 (by rw [←hc];exact hm)) fun d hd hdr=>by
  obtain ⟨j,hj,e⟩:=List.getElem_of_mem ((h.ready hd).1 hdr)
  have:=K02 (C32 g) h.heap j hj
  rw [P9 hj,e,hc] at this
  exact this
 refine ⟨by rw [hb,hc],?_,p3⟩
 rw [hc] at t1 ⊢
 refine ⟨h.len,fun p hp ho=>?_,h.off,fun p=>?_,fun x hx=>h.hpr x ((t1 x).1 hx).1,t2,?_,?_,?_⟩
 ·have h1:=h.cnt p hp ho
  rw [List.take_zero,if_neg (by simp)] at h1 ⊢
  rw [A08 (Nat.le_refl _)]
  exact h1
 ·rw [t1,h.hpm,L07,List.mem_singleton,not_or]
  constructor
  ·rintro ⟨⟨a1,a2,a3,a4⟩,a5⟩;exact ⟨a1,a2,⟨a3,a5⟩,a4⟩
  ·rintro ⟨a1,a2,⟨a3,a5⟩,a4⟩;exact ⟨⟨a1,a2,a3,a4⟩,a5⟩
 ·rw [t3]
  intro k hk hk0
  have e:∀j,j < hp.length - 1→atG ((C83 (S3 g) hp).take (hp.length - 1)) j=atG (C83 (S3 g) hp) j:=fun j hj=>by
   unfold atG;rw [List.getElem?_take,if_pos hj]
  rw [e k hk,e _ (by omega)]
  exact p1 k hk hk0
 ·exact List.nodup_append.2 ⟨h.outn,by simp,fun x hx y hy e=>by rw [List.mem_singleton.1 hy] at e;exact hm2.2.2.1 (e ▸ hx)⟩
 ·intro x hx
  rcases List.mem_append.1 hx with hx | hx
  ·exact h.outr x hx
  ·rw [List.mem_singleton.1 hx,K84];exact ⟨by omega,by omega,hm2.2.1,hm2.2.2.2⟩
theorem OInv.step {g:Graph} {inn:List Bool} (hr:related g=true) (hcl:A71 g inn) {k i:Nat} {ch hp out:List Int} (h:OInv g inn k i ch hp out) (hk:k+1=out.length) {c p:Nat} (hc:out[k]?=some (c:Int)) (hi:i < (E6 g c).length) (hpp:(E6 g c)[i]=(p:Int)) :
  p < g.length∧1≤atG ch p∧atG ch p≤g.length∧hp.length < g.length∧OInv g inn k (i+1) (X2 ch p) (if atG ch p - 1=0 then D27 (S3 g) hp p else hp) out:=by
 have hkl:k < out.length:=by omega
 have hc:out[k]=(c:Int):=by rw [K82 hkl] at hc;exact Option.some.inj hc
 have hpr:=K6 hr c
 have hpm:(p:Int)∈E6 g c:=by rw [←hpp];exact K85 hi
 have hplt:p < g.length:=by have:=hpr.1 p hpm;omega
 have hco:=h.outr out[k] (K85 hkl)
 rw [hc,K84] at hco
 have hclt:c < g.length:=by omega
 have hon:J0 inn p=true:=by have:=hcl c hco.2.2.1 p hpm;rwa [K84] at this
 have hg0:out.getD k 0=(c:Int):=by rw [K88,K82 hkl];exact hc
 have hnt:(c:Int)∉out.take k:=by rw [←hc];exact X8 h.outn hkl
 have hnp:(p:Int)∉(E6 g c).take i:=by rw [←hpp];exact X8 hpr.2 hi
 have h1:=h.cnt p hplt hon
 rw [hg0,K84,if_neg hnp] at h1
 have h2:=G14 (g:=g) (inn:=inn) (ex:=out.take k) (x:=c) (p:=p) hnt hclt hco.2.2.1
 rw [if_pos hpm] at h2
 have hle:=G81 g inn (out.take k) p
 have hge:1≤atG ch p:=by omega
 have hnout:(p:Int)∉out:=fun hm=>by have:=(h.outr _ hm).2.2.2;rw [K84] at this;omega
 have hnhp:(p:Int)∉hp:=fun hm=>by have:=((h.hpm p).1 hm).2.2.2;omega
 have hst:∀q,atG (X2 ch p) q=if p=q then atG ch p - 1 else atG ch q:=fun q=>by
  unfold X2
  rw [K84,A72 (by rw [h.len];exact hplt)]
 have hlen:hp.length < g.length:=by
  have:=b8 (l:=(c:Int)::hp) (n:=g.length) (List.nodup_cons.2 ⟨fun hm=>((h.hpm c).1 hm).2.2.1 (by rw [←hc];exact K85 hkl),h.hpn⟩) fun x hx=>by
   rcases List.mem_cons.1 hx with rfl | hx
   ·omega
   ·exact h.hpr x hx
  rw [K87] at this;omega
 obtain ⟨u1,u2⟩:=H87 (C32 g) (p:Int) h.heap
 refine ⟨hplt,hge,by omega,hlen,⟨by unfold X2;rw [L06];exact h.len,?_,?_,?_,?_,?_,?_,h.outn,?_⟩⟩
 ·intro q hq ho
  rw [hg0,K84,hst q]
  by_cases e:p=q
  ·subst e
   rw [if_pos rfl,if_pos ((R9 hi).2 (.inr hpp.symm))];omega
  ·rw [if_neg e]
   have h3:=h.cnt q hq ho
   rw [hg0,K84] at h3
   have h4:((q:Int)∈(E6 g c).take (i+1))↔(q:Int)∈(E6 g c).take i:=by
    rw [R9 hi,hpp]
    exact ⟨fun h=>h.resolve_right (by omega),.inl⟩
   simp only [h4]
   exact h3
 ·intro q hq ho
  rw [hst q,if_neg (fun e=>by rw [e,ho] at hon;cases hon)]
  exact h.off q hq ho
 ·intro q
  rw [hst q]
  by_cases e:p=q
  ·subst e
   rw [if_pos rfl]
   split
   ·rename_i h0
    rw [u2.mem]
    exact ⟨fun _=>⟨hplt,hon,hnout,h0⟩,fun _=>by simp⟩
   ·rename_i h0
    exact ⟨fun hm=>absurd hm hnhp,fun hm=>absurd hm.2.2.2 h0⟩
  ·rw [if_neg e,←h.hpm q]
   split
   ·rw [u2.mem,L07,List.mem_singleton]
    exact ⟨fun hm=>hm.resolve_right (by omega),.inl⟩
   ·exact Iff.rfl
 ·intro x hx
  split at hx
  ·rw [u2.mem,L07,List.mem_singleton] at hx
   rcases hx with hx | rfl
   ·exact h.hpr x hx
   ·omega
  ·exact h.hpr x hx
 ·split
  ·exact u2.nodup (List.nodup_append.2 ⟨h.hpn,by simp,fun x hx y hy e=>by rw [List.mem_singleton.1 hy] at e;exact hnhp (e ▸ hx)⟩)
  ·exact h.hpn
 ·split
  ·rw [u2.len,K86,List.length_singleton];exact u1
  ·exact h.heap
 ·intro x hx
  have h3:=h.outr x hx
  refine ⟨h3.1,h3.2.1,h3.2.2.1,?_⟩
  rw [hst,if_neg (fun e=>hnout (by rw [show ((p:Nat):Int)=x by omega];exact hx))]
  exact h3.2.2.2
theorem OInv.next {g:Graph} {inn:List Bool} {k:Nat} {ch hp out:List Int} (hk:k+1=out.length) {c:Nat} (hc:out[k]?=some (c:Int)) (h:OInv g inn k (E6 g c).length ch hp out):OInv g inn out.length 0 ch hp out:=by
 refine { h with cnt:=fun p hp ho=>?_ }
 have hkl:k < out.length:=by omega
 have hc:out[k]=(c:Int):=by rw [K82 hkl] at hc;exact Option.some.inj hc
 have h1:=h.cnt p hp ho
 have hg0:out.getD k 0=(c:Int):=by rw [K88,K82 hkl];exact hc
 have hco:=h.outr out[k] (K85 hkl)
 rw [hc,K84] at hco
 rw [hg0,K84,K89] at h1
 have h2:=G14 (g:=g) (inn:=inn) (ex:=out.take k) (x:=c) (p:=p) (by rw [←hc];exact X8 h.outn hkl) (by omega) hco.2.2.1
 have e:out.take (k+1)=out.take k++[(c:Int)]:=by rw [List.take_add_one,K82 hkl,Option.toList_some,hc]
 rw [←hk,e,List.take_zero,if_neg (by simp)]
 split at h1
 ·rename_i hm;rw [if_pos hm] at h2;omega
 ·rename_i hm;rw [if_neg hm] at h2;omega
structure HInv (g:Graph) (ch hp:List Int) (i:Nat):Prop where
 mem:∀p:Nat,(p:Int)∈hp↔p < i∧atG ch p=0
 rng:∀x∈hp,0≤x∧x < i
 nodup:hp.Nodup
 heap:D28 (S3 g) hp.length hp
theorem HInv.nil (g:Graph) (ch:List Int):HInv g ch [] 0:=⟨fun p=>by simp,(fun _ h=>by cases h),List.nodup_nil,fun k hk=>by simp at hk⟩
theorem HInv.le {g:Graph} {ch hp:List Int} {i:Nat} (h:HInv g ch hp i):hp.length≤i:=b8 h.nodup h.rng
theorem HInv.step {g:Graph} {ch hp:List Int} {i:Nat} (h:HInv g ch hp i):HInv g ch (if atG ch i=0 then D27 (S3 g) hp (i:Int) else hp) (i+1):=by
 obtain ⟨u1,u2⟩:=H87 (C32 g) (i:Int) h.heap
 split
 ·rename_i h0
  refine ⟨fun p=>?_,fun x hx=>?_,u2.nodup (List.nodup_append.2 ⟨h.nodup,by simp,fun x hx y hy e=>by rw [List.mem_singleton.1 hy] at e;have:=h.rng x hx;omega⟩),by rw [u2.len,K86,List.length_singleton];exact u1⟩
  ·rw [u2.mem,L07,List.mem_singleton,h.mem]
   constructor
   ·rintro (⟨a,b⟩ | e)
    ·exact ⟨by omega,b⟩
    ·have e:p=i:=by omega
     subst e;exact ⟨by omega,h0⟩
   ·rintro ⟨a,b⟩
    by_cases e:p=i
    ·right;omega
    ·exact .inl ⟨by omega,b⟩
  ·rw [u2.mem,L07,List.mem_singleton] at hx
   rcases hx with hx | rfl
   ·have:=h.rng x hx;omega
   ·omega
 ·rename_i h0
  refine ⟨fun p=>?_,fun x hx=>by have:=h.rng x hx;omega,h.nodup,h.heap⟩
  rw [h.mem]
  constructor
  ·rintro ⟨a,b⟩;exact ⟨by omega,b⟩
  ·rintro ⟨a,b⟩
   refine ⟨?_,b⟩
   apply Classical.byContradiction
   intro hn
   have:p=i:=by omega
   subst this;exact h0 b
def cntD (g:Graph) (D:List Int) (p:Nat):Nat:=D.countP fun x=>decide ((p:Int)∈E6 g x.toNat)
structure DInv (g:Graph) (inn:List Bool) (st:List Int) (k i:Nat) (ch opn D:List Int):Prop where
 len:ch.length=g.length
 nodup:(D++opn).Nodup
 on:∀x∈D++opn,0≤x∧x < g.length∧J0 inn x.toNat=true
 cnt:∀p:Nat,(p:Int)∈D++opn→atG ch p=cntD g (D.take k) p+(if (p:Int)∈(E6 g (D.getD k 0).toNat).take i then 1 else 0)
 off:∀p,p < g.length→(p:Int)∉D++opn→atG ch p = -1
 clo:∀x∈D.take k,∀p∈E6 g x.toNat,p∈D++opn
 clo2:∀p∈(E6 g (D.getD k 0).toNat).take i,p∈D++opn
 sts:∀f∈st,f∈D++opn
theorem DInv.start (g:Graph) (inn:List Bool):DInv g inn [] 0 0 (List.replicate g.length (-1)) [] [] where
 len:=by simp
 nodup:=List.nodup_nil
 on:=fun _ h=>by cases h
 cnt:=fun _ h=>by cases h
 off:=fun p hp _=>by unfold atG;rw [List.getElem?_replicate,if_pos hp];rfl
 clo:=fun _ h=>by cases h
 clo2:=fun _ h=>by simp at h
 sts:=fun _ h=>by cases h
theorem DInv.le {g:Graph} {inn:List Bool} {st:List Int} {k i:Nat} {ch opn D:List Int} (h:DInv g inn st k i ch opn D):D.length+opn.length≤g.length:=by
 have:=b8 h.nodup fun x hx=>⟨(h.on x hx).1,(h.on x hx).2.1⟩
 rwa [K86] at this
theorem DInv.mem {g:Graph} {inn:List Bool} {st:List Int} {k i:Nat} {ch opn D:List Int} (h:DInv g inn st k i ch opn D) {p:Nat} (hp:p < g.length):atG ch p < 0↔(p:Int)∉D++opn:=by
 by_cases hm:(p:Int)∈D++opn
 ·have:=h.cnt p hm
  constructor
  ·intro hl;split at this<;>omega
  ·exact fun hn=>absurd hm hn
 ·have:=h.off p hp hm
  exact ⟨fun _=>hm,fun _=>by omega⟩
theorem DInv.reach {g:Graph} {inn:List Bool} {st:List Int} {k i:Nat} {ch opn D:List Int} (h:DInv g inn st k i ch opn D) (_hk:k≤D.length) {p:Nat} (hp:p < g.length) (ho:J0 inn p=true) (st':List Int) (hst:∀f∈st',f∈st∨f=p) :
  DInv g inn st' k i (if atG ch p < 0 then ch.set p 0 else ch) (if atG ch p < 0 then opn++[(p:Int)] else opn) D∧(p:Int)∈D++(if atG ch p < 0 then opn++[(p:Int)] else opn):=by
 split
 ·rename_i hl
  have hnm:=(h.mem hp).1 hl
  refine ⟨⟨by rw [L06];exact h.len,?_,?_,?_,?_,?_,?_,?_⟩,by simp⟩
  ·rw [←K96]
   exact List.nodup_append.2 ⟨h.nodup,by simp,fun x hx y hy e=>by rw [List.mem_singleton.1 hy] at e;exact hnm (e ▸ hx)⟩
  ·intro x hx
   rw [←K96] at hx
   rcases List.mem_append.1 hx with hx | hx
   ·exact h.on x hx
   ·rw [List.mem_singleton.1 hx,K84];exact ⟨by omega,by omega,ho⟩
  ·intro q hq
   rw [A72 (by rw [h.len];exact hp)]
   by_cases e:p=q
   ·subst e
    rw [if_pos rfl,if_neg (fun hm=>hnm (h.clo2 _ hm))]
    have:cntD g (D.take k) p=0:=by
     unfold cntD
     rw [List.countP_eq_zero]
     intro x hx hm
     exact hnm (h.clo x hx _ (A0 hm))
    rw [this];rfl
   ·rw [if_neg e]
    rw [←K96] at hq
    rcases List.mem_append.1 hq with hq | hq
    ·exact h.cnt q hq
    ·exact absurd (List.mem_singleton.1 hq) (by omega)
  ·intro q hq hn
   rw [←K96,L07,not_or,List.mem_singleton] at hn
   rw [A72 (by rw [h.len];exact hp),if_neg (by omega)]
   exact h.off q hq hn.1
  ·intro x hx q hq
   rw [←K96];exact List.mem_append_left _ (h.clo x hx q hq)
  ·intro q hq
   rw [←K96];exact List.mem_append_left _ (h.clo2 q hq)
  ·intro f hf
   rw [←K96]
   rcases hst f hf with hf | rfl
   ·exact List.mem_append_left _ (h.sts f hf)
   ·simp
 ·rename_i hl
  have hm:(p:Int)∈D++opn:=by
   apply Classical.byContradiction
   intro hn;exact hl ((h.mem hp).2 hn)
  refine ⟨{ h with sts:=fun f hf=>?_ },hm⟩
  rcases hst f hf with hf | rfl
  ·exact h.sts f hf
  ·exact hm
theorem DInv.count {g:Graph} {inn:List Bool} {st:List Int} {k i:Nat} {ch opn D:List Int} (h:DInv g inn st k i ch opn D) {c p:Nat} (hr:related g=true) (hc:D.getD k 0=(c:Int)) (hi:i < (E6 g c).length) (hpp:(E6 g c)[i]=(p:Int)) (hm:(p:Int)∈D++opn) :
  0≤atG ch p∧atG ch p≤g.length∧DInv g inn st k (i+1) (bump ch p) opn D:=by
 have hpr:=K6 hr c
 have hplt:p < g.length:=by have:=hpr.1 p (by rw [←hpp];exact K85 hi);omega
 have h1:=h.cnt p hm
 have hnp:(p:Int)∉(E6 g c).take i:=by rw [←hpp];exact X8 hpr.2 hi
 rw [hc,K84,if_neg hnp] at h1
 have hle:cntD g (D.take k) p≤g.length:=by
  unfold cntD
  have h2:=List.countP_le_length (p:=fun x:Int=>decide ((p:Int)∈E6 g x.toNat)) (l:=D.take k)
  rw [K92] at h2
  have:=h.le;omega
 have hst:∀q,atG (bump ch p) q=if p=q then atG ch p+1 else atG ch q:=fun q=>by
  unfold bump
  rw [K84,A72 (by rw [h.len];exact hplt)]
 refine ⟨by omega,by omega,{ h with len:=by unfold bump;rw [L06];exact h.len,cnt:=fun q hq=>?_,off:=fun q hq hn=>?_,clo2:=fun q hq=>?_ }⟩
 ·rw [hst q,hc,K84]
  by_cases e:p=q
  ·subst e
   rw [if_pos rfl,if_pos ((R9 hi).2 (.inr hpp.symm))];omega
  ·rw [if_neg e]
   have h3:=h.cnt q hq
   rw [hc,K84] at h3
   have h4:((q:Int)∈(E6 g c).take (i+1))↔(q:Int)∈(E6 g c).take i:=by
    rw [R9 hi,hpp]
    exact ⟨fun h=>h.resolve_right (by omega),.inl⟩
   simp only [h4]
   exact h3
 ·rw [hst q,if_neg (show ¬p=q from fun e=>hn (by rw [←e];exact hm))]
  exact h.off q hq hn
 ·rw [hc,K84] at hq
  rcases (R9 hi).1 hq with hq | rfl
  ·exact h.clo2 q (by rw [hc,K84];exact hq)
  ·rw [hpp];exact hm
theorem DInv.pop {g:Graph} {inn:List Bool} {st:List Int} {ch opn D:List Int} {c:Int} (h:DInv g inn st D.length 0 ch (opn++[c]) D):DInv g inn st D.length 0 ch opn (D++[c]):=by
 have hmem:∀x,x∈(D++[c])++opn↔x∈D++(opn++[c]):=fun x=>by
  simp only [L07,List.mem_singleton]
  constructor
  ·rintro ((h | h) | h)
   ·exact .inl h
   ·exact .inr (.inr h)
   ·exact .inr (.inl h)
  ·rintro (h | h | h)
   ·exact .inl (.inl h)
   ·exact .inr h
   ·exact .inl (.inr h)
 have ht:(D++[c]).take D.length=D:=by rw [A08 (Nat.le_refl _),K89]
 refine ⟨h.len,?_,fun x hx=>h.on x ((hmem x).1 hx),fun p hp=>?_,fun p hp hn=>h.off p hp fun hm=>hn ((hmem _).2 hm),fun x hx p hp=>?_,fun p hp=>by simp at hp,fun f hf=>(hmem f).2 (h.sts f hf)⟩
 ·have h1:=h.nodup
  rw [List.nodup_append,List.nodup_append] at h1
  rw [K96,List.nodup_append,List.nodup_append]
  refine ⟨h1.1,⟨by simp,h1.2.1.1,fun x hx y hy e=>?_⟩,fun x hx y hy=>?_⟩
  ·exact h1.2.1.2.2 y hy x hx e.symm
  ·refine h1.2.2 x hx y ?_
   rcases List.mem_append.1 hy with hy | hy
   ·exact List.mem_append_right _ hy
   ·exact List.mem_append_left _ hy
 ·have h1:=h.cnt p ((hmem _).1 hp)
  rw [List.take_zero,if_neg (by simp),K89] at h1
  rw [ht,List.take_zero,if_neg (by simp)]
  exact h1
 ·rw [ht] at hx
  exact (hmem p).2 (h.clo x (by rw [K89];exact hx) p hp)
theorem DInv.next {g:Graph} {inn:List Bool} {st:List Int} {k:Nat} {ch opn D:List Int} {c:Nat} (hk:k+1=D.length) (hc:D.getD k 0=(c:Int)) (h:DInv g inn st k (E6 g c).length ch opn D):DInv g inn st D.length 0 ch opn D:=by
 have hkl:k < D.length:=by omega
 have hc2:D[k]?=some (c:Int):=by
  rw [K88,K82 hkl] at hc
  rw [K82 hkl];exact congrArg some hc
 have e:D.take D.length=D.take k++[(c:Int)]:=by rw [←hk,List.take_add_one,hc2,Option.toList_some]
 refine { h with cnt:=fun p hp=>?_,clo:=fun x hx p hp=>?_,clo2:=fun p hp=>by simp at hp }
 ·have h1:=h.cnt p hp
  rw [hc,K84,K89] at h1
  rw [List.take_zero,if_neg (show ¬(p:Int)∈([]:List Int) by simp),h1,e]
  unfold cntD
  rw [List.countP_append,List.countP_singleton,K84]
  by_cases hm:(p:Int)∈E6 g c<;>simp [hm]
 ·rw [e] at hx
  rcases List.mem_append.1 hx with hx | hx
  ·exact h.clo x hx p hp
  ·rw [List.mem_singleton.1 hx,K84] at hp
   exact h.clo2 p (by rw [hc,K84,K89];exact hp)
theorem H90 {q:Int→Bool} {l m:List Int} (hl:l.Nodup) (hm:m.Nodup) (h:∀x,x∈l↔x∈m):l.countP q=m.countP q:=by
 rw [List.countP_eq_length_filter,List.countP_eq_length_filter]
 have key:∀{l m:List Int},l.Nodup→(∀x,x∈l↔x∈m)→(l.filter q).length≤(m.filter q).length:=fun hl h =>
  C27 (hl.filter _) fun x hx=>by
   rw [List.mem_filter] at hx ⊢
   exact ⟨(h x).1 hx.1,hx.2⟩
 have h1:=key hl h
 have h2:=key hm fun x=>(h x).symm
 omega
theorem DInv.fin {g:Graph} {s ch D:List Int} (hr:related g=true) (hs:∀f∈s,0≤f∧f < g.length) (h:DInv g (O7 g s) s D.length 0 ch [] D) :
  ∀p,p < g.length→atG ch p=if J0 (O7 g s) p=true then (D69 g (O7 g s) [] p:Int) else -1:=by
 have hiff:∀p:Nat,J0 (O7 g s) p=true↔(p:Int)∈D:=by
  intro p
  constructor
  ·intro ho
   obtain ⟨f,hf,h2⟩:=(C30 hr hs p).1 ho
   clear ho
   have h0:(f:Int)∈D:=by simpa using h.sts f hf
   have hcl:∀x:Nat,(x:Int)∈D→∀q:Nat,(q:Int)∈E6 g x→(q:Int)∈D:=fun x hx q hq=>by
    have:=h.clo x (by rw [K89];exact hx) q (by rw [K84];exact hq)
    simpa using this
   rcases h2 with rfl | h2
   ·exact h0
   ·induction h2 with
    | one h=>exact hcl _ h0 _ h
    | more _ h2 ih=>exact hcl _ ih _ h2
  ·intro hm
   have:=(h.on p (by simpa using hm)).2.2
   rwa [K84] at this
 intro p hp
 split
 ·rename_i ho
  have h1:=h.cnt p (by simpa using (hiff p).1 ho)
  rw [K89,List.take_zero,if_neg (by simp)] at h1
  rw [h1,Int.add_zero]
  congr 1
  have hD:D.Nodup:=by have:=h.nodup;rwa [L10] at this
  have h2:∀x∈D,0≤x∧x < g.length:=fun x hx=>by
   have:=h.on x (by simpa using hx);exact ⟨this.1,this.2.1⟩
  unfold cntD D69
  have e:(List.range g.length).countP (fun c=>J0 (O7 g s) c&&decide ((c:Int)∉([]:List Int)∧(p:Int)∈E6 g c))=(((List.range g.length).filter fun c=>J0 (O7 g s) c).map fun c:Nat=>(c:Int)).countP fun x=>decide ((p:Int)∈E6 g x.toNat):=by
   rw [List.countP_map,List.countP_filter]
   refine List.countP_congr fun c _=>?_
   simp only [List.not_mem_nil,not_false_eq_true,true_and,Function.comp_def,K84,K83,decide_eq_true_eq]
   exact And.comm
  rw [e]
  refine H90 hD ((List.nodup_range.filter _).map (fun i:Nat=>(i:Int)) fun _ _ hne e=>hne (Int.ofNat.inj e)) fun x=>?_
  rw [List.mem_map]
  constructor
  ·intro hx
   have:=h2 x hx
   refine ⟨x.toNat,List.mem_filter.2 ⟨List.mem_range.2 (by omega),(hiff _).2 (by rw [Int.toNat_of_nonneg this.1];exact hx)⟩,by omega⟩
  ·rintro ⟨c,hc,rfl⟩
   exact (hiff c).1 (List.mem_filter.1 hc).2
 ·rename_i ho
  exact h.off p hp fun hm=>ho ((hiff p).2 (by simpa using hm))
theorem OInv.start {g:Graph} {inn:List Bool} {ch hp:List Int} (hl:ch.length=g.length) (_hin:inn.length=g.length) (hc:∀p,p < g.length→atG ch p=if J0 inn p=true then (D69 g inn [] p:Int) else -1) (h:HInv g ch hp g.length):OInv g inn 0 0 ch hp [] where
 len:=hl
 cnt:=fun p hp ho=>by rw [hc p hp,if_pos ho,List.take_zero,List.take_zero];simp
 off:=fun p hp ho=>by rw [hc p hp,ho];rfl
 hpm:=fun p=>by
  rw [h.mem]
  constructor
  ·rintro ⟨a,b⟩
   refine ⟨a,?_,by simp,b⟩
   cases ho:J0 inn p
   ·rw [hc p a,ho] at b;simp at b
   ·rfl
  ·rintro ⟨a,_,_,b⟩;exact ⟨a,b⟩
 hpr:=h.rng
 hpn:=h.nodup
 heap:=h.heap
 outn:=List.nodup_nil
 outr:=fun _ h=>by cases h
end Go.AL
namespace Go.AL
open Go
def Y0 (nd s:Str) (p:Nat):Option Nat:=if nd=[]∨p > s.length∨Lib.index (s.drop p) nd < 0 then none else some (p+(Lib.index (s.drop p) nd).toNat)
def A49 (nd s:Str):Nat→Nat→List Int→List Int
 | 0,_,out=>out
 | f+1,p,out=>match Y0 nd s p with
  | none=>out
  | some i=>A49 nd s f (i+nd.length) (out++[(i:Int)])
def c7 (nd s:Str):List Int:=A49 nd s (s.length+2) 0 []
def Z4 (nd s:Str):Int:=(c7 nd s).length
theorem A77 {nd s:Str} {p i:Nat} (h:Y0 nd s p=some i):nd≠[]∧p≤s.length∧p≤i∧i+nd.length≤s.length:=by
 unfold Y0 at h
 split at h
 ·cases h
 ·rename_i hn
  simp only [not_or] at hn
  have h1:=Lib.index_room (s.drop p) nd (by omega)
  rw [K99] at h1
  have e:=Option.some.inj h
  exact ⟨hn.1,by omega,by omega,by omega⟩
theorem C84 {nd s:Str} {f p i:Nat} {out:List Int} (hf:s.length < f+p) (h:Y0 nd s p=some i):A49 nd s f p out=A49 nd s (f - 1) (i+nd.length) (out++[(i:Int)]):=by
 have:=A77 h
 obtain ⟨f,rfl⟩:∃k,f=k+1:=⟨f - 1,by omega⟩
 rw [A49,h];rfl
theorem B22 {nd s:Str} {f p:Nat} {out:List Int} (h:Y0 nd s p=none):A49 nd s f p out=out:=by
 cases f with
 | zero=>rfl
 | succ f=>rw [A49,h]
theorem F26 {nd s:Str}:∀(f f' p:Nat) (out:List Int),s.length < f+p→s.length < f'+p→A49 nd s f p out=A49 nd s f' p out
 | 0,f',p,out,h,_=>by
  have:Y0 nd s p=none:=by
   cases hn:Y0 nd s p with
   | none=>rfl
   | some i=>have:=A77 hn;omega
  rw [B22 this,B22 this]
 | f+1,f',p,out,h,h'=>by
  cases hn:Y0 nd s p with
  | none=>rw [B22 hn,B22 hn]
  | some i =>
   have hr:=A77 hn
   have hl:0 < nd.length:=List.length_pos_iff.2 hr.1
   rw [C84 h hn,C84 h' hn]
   exact F26 f (f' - 1) _ _ (by omega) (by omega)
theorem B01 (nd s:Str):(c7 nd s).length≤s.length+2:=by
 have key:∀(f p:Nat) (out:List Int),(A49 nd s f p out).length≤out.length+f:=by
  intro f
  induction f with
  | zero=>intro p out;exact Nat.le_refl _
  | succ f ih =>
   intro p out
   rw [A49]
   split
   ·omega
   ·rename_i i _
    have:=ih (i+nd.length) (out++[(i:Int)])
    rw [K86,List.length_singleton] at this
    omega
 have:=key (s.length+2) 0 []
 unfold c7
 simpa using this
def L1 (g:Graph) (c:Nat):List File:=(g[c]?.map (·.Files)).getD []
def L9 (g:Graph) (c:Nat):List (List File):=if E6 g c=[] then [[]] else (E6 g c).map fun p=>L1 g p.toNat
def N3 (l:List File) (p:Str):Str:=(I5 l p).getD []
def G82 (t u:List File) (d:Delta):Str × Str:=(N3 t d.Path,N3 u d.Path)
def A78 (t u:List File):List (Str × Str):=(U4 t u).map (G82 t u)
def M8 (g:Graph) (c:Nat):List (List (Str × Str)):=(L9 g c).map fun t=>A78 t (L1 g c)
def differs (nd:Str) (x:Str × Str):Bool:=decide (Z4 nd x.1≠Z4 nd x.2)
def T0 (f:Str × Str→Bool) (g:Graph) (c:Nat):Bool:=(M8 g c).any fun l=>l.any f
def U6 (g:Graph) (c:Int):Prop:=0≤c∧c < g.length
instance (g:Graph) (c:Int):Decidable (U6 g c):=inferInstanceAs (Decidable (_∧_))
def Q4 (g:Graph) (s:Int):List Int × Int:=if K7 g≠0 then ([],K7 g) else if U6 g s then (y5 g [s],0) else ([],5)
def L5 (f:Str × Str→Bool) (g:Graph) (s:Int):List Int × Int:=if (Q4 g s).2≠0 then ([],(Q4 g s).2) else ((Q4 g s).1.filter fun c=>T0 f g c.toNat,0)
def x2 (g:Graph) (s:Int) (nd:Str):List Int × Int:=if nd=[] then ([],2) else if nd.length > 256 then ([],1) else L5 (differs nd) g s
def c8 (nd:Str) (l:List (Str × Str)):Int:=(l.map fun x=>Z4 nd x.2 - Z4 nd x.1).sum
def m3 (g:Graph) (c:Int):Int:=if K7 g≠0 then K7 g else if U6 g c then 0 else 5
def x3 (g:Graph) (c:Int) (nd:Str):List Int × Int:=if m3 g c≠0 then ([],m3 g c) else ((M8 g c.toNat).map (c8 nd),0)
def A50:Str × Str→Nat→Cell:=fun x j=>match j with
 | 0=>.v (.string ⟨x.1.toArray⟩)
 | _=>.v (.string ⟨x.2.toArray⟩)
abbrev B02:List (Str × Str)→Nat→Cell:=fun l _=>.list (Str × Str) 2 A50 l
abbrev pPairs (l:List (Str × Str)):PV:=.one (.list (Str × Str) 2 A50 l)
abbrev G83 (l:List (List (Str × Str))):PV:=.one (.list (List (Str × Str)) 1 B02 l)
end Go.AL
namespace Go.AL
open Go
structure Set4 where
 a:Int
 b:Int
 c:Int
 d:Int
 deriving DecidableEq
def orI (x y:Int):Int:=((x.toNat ||| y.toNat:Nat):Int)
def set0:Set4:=⟨0,0,0,0⟩
def Set4.with_ (s:Set4) (c:Nat):Set4:=match c / 64 with
 | 0=>{ s with a:=orI s.a (2 ^ (c % 64)) }
 | 1=>{ s with b:=orI s.b (2 ^ (c % 64)) }
 | 2=>{ s with c:=orI s.c (2 ^ (c % 64)) }
 | _=>{ s with d:=orI s.d (2 ^ (c % 64)) }
def T7:Nat→Nat→Set4→Set4
 | 0,_,s=>s
 | n+1,c,s=>T7 n (c+1) (s.with_ c)
def Set4.through (s:Set4) (a b:Nat):Set4:=T7 (b+1 - a) a s
def Set4.compl (s:Set4):Set4:=⟨18446744073709551615 - s.a,18446744073709551615 - s.b,18446744073709551615 - s.c,18446744073709551615 - s.d⟩
def namedS (s:Set4) (name:Str):Option Set4 :=
 if name=[97,108,112,104,97] then some ((s.through 97 122).through 65 90)
 else if name=[100,105,103,105,116] then some (s.through 48 57)
 else if name=[97,108,110,117,109] then some (((s.through 97 122).through 65 90).through 48 57)
 else if name=[117,112,112,101,114] then some (s.through 65 90)
 else if name=[108,111,119,101,114] then some (s.through 97 122)
 else if name=[115,112,97,99,101] then some ((s.through 9 13).with_ 32)
 else if name=[112,117,110,99,116] then some ((((s.through 33 47).through 58 64).through 91 96).through 123 126)
 else none
def A79 (s:Set4):Prop:=(0≤s.a∧s.a < 18446744073709551616)∧(0≤s.b∧s.b < 18446744073709551616)∧(0≤s.c∧s.c < 18446744073709551616)∧(0≤s.d∧s.d < 18446744073709551616)
theorem D29 {x:Int} (hx:0≤x∧x < 18446744073709551616) (k:Nat) (hk:k < 64):0≤orI x (2 ^ k)∧orI x (2 ^ k) < 18446744073709551616:=by
 unfold orI
 have h1:x.toNat < 2 ^ 64:=by omega
 have h2:((2:Int) ^ k).toNat < 2 ^ 64:=by
  have:((2:Int) ^ k).toNat=2 ^ k:=by
   rw [show ((2:Int) ^ k)=((2 ^ k:Nat):Int) by simp];exact K84 _
  rw [this];exact Nat.pow_lt_pow_right (by decide) hk
 have:=Nat.or_lt_two_pow h1 h2
 omega
theorem K05 {s:Set4} (h:A79 s) (c:Nat):A79 (s.with_ c):=by
 obtain ⟨h1,h2,h3,h4⟩:=h
 have hk:c % 64 < 64:=Nat.mod_lt _ (by decide)
 unfold Set4.with_
 split
 ·exact ⟨D29 h1 _ hk,h2,h3,h4⟩
 ·exact ⟨h1,D29 h2 _ hk,h3,h4⟩
 ·exact ⟨h1,h2,D29 h3 _ hk,h4⟩
 ·exact ⟨h1,h2,h3,D29 h4 _ hk⟩
theorem C12:∀(n c:Nat) {s:Set4},A79 s→A79 (T7 n c s)
 | 0,_,_,h=>h
 | n+1,c,_,h=>C12 n (c+1) (K05 h c)
theorem C13:∀(n c:Nat) (s:Set4),T7 (n+1) c s=(T7 n c s).with_ (c+n)
 | 0,_,_=>rfl
 | n+1,c,s=>by
  rw [T7,C13 n (c+1),T7,show c+1+n=c+(n+1) by omega]
structure Node where
 Kind:Int
 Set:Set4
 Min:Int
 Max:Int
 Kids:List Int
 deriving DecidableEq
def s7:Node→Nat→Cell:=fun n j=>match j with
 | 0=>.v (.int .i64 n.Kind)
 | 1=>.v (.int .u64 n.Set.a)
 | 2=>.v (.int .u64 n.Set.b)
 | 3=>.v (.int .u64 n.Set.c)
 | 4=>.v (.int .u64 n.Set.d)
 | 5=>.v (.int .i64 n.Min)
 | 6=>.v (.int .i64 n.Max)
 | _=>.list Int 1 E4 n.Kids
abbrev A13 (s:Set4):PV:=.agg [.v (.int .u64 s.a),.v (.int .u64 s.b),.v (.int .u64 s.c),.v (.int .u64 s.d)]
abbrev E12 (n:Node):PV:=.agg [.v (.int .i64 n.Kind),.v (.int .u64 n.Set.a),.v (.int .u64 n.Set.b),.v (.int .u64 n.Set.c),.v (.int .u64 n.Set.d),.v (.int .i64 n.Min),.v (.int .i64 n.Max),.list Int 1 E4 n.Kids]
abbrev s8 (l:List Node):PV:=.one (.list Node 8 s7 l)
def B69:Node:=⟨0,set0,0,0,[]⟩
structure PSt where
 at_:Nat
 depth:Nat
 nodes:List Node
abbrev Ps (α:Type):=Except Int (PSt × α)
section
variable (s:Str)
def F27 (c:UInt8) (st:PSt):Bool:=decide (s[st.at_]?=some c)
def PSt.skip (st:PSt) (n:Nat):PSt:={ st with at_:=st.at_+n }
def hasSt (c:UInt8) (st:PSt):PSt:=if F27 s c st=true then st.skip 1 else st
def takeP (st:PSt):Ps UInt8:=match s[st.at_]? with
 | none=>.error 40
 | some c=>.ok (st.skip 1,c)
def addP (n:Node) (st:PSt):PSt × Int:=({ st with nodes:=st.nodes++[n] },st.nodes.length)
def I92 (kind:Int) (kids:List Int) (st:PSt):PSt × Int:=match kids with
 | []=>addP B69 st
 | [k]=>(st,k)
 | _=>addP { B69 with Kind:=kind,Kids:=kids } st
def setP (t:Set4) (st:PSt):PSt × Int:=addP { B69 with Kind:=1,Set:=t } st
def starts2 (a b:UInt8) (l:Str):Bool:=decide (l[0]?=some a∧l[1]?=some b)
def itemP (t:Set4) (st:PSt):Ps Set4 :=
 let rest:=s.drop st.at_
 if starts2 91 58 rest=true then
  let r:=rest.drop 2
  if Lib.index r [58,93] < 0 then .error 40
  else match namedS t (r.take (Lib.index r [58,93]).toNat) with
   | none=>.error 40
   | some t'=>.ok (st.skip (4+(Lib.index r [58,93]).toNat),t')
 else match s[st.at_]? with
  | none=>.error 40
  | some c =>
   let r:=s.drop (st.at_+1)
   if r.length < 2∨r[0]?≠some 45∨r[1]?=some 93 then .ok (st.skip 1,t.with_ c.toNat)
   else if (r.getD 1 0).toNat < c.toNat then .error 40
   else .ok (st.skip 3,t.through c.toNat (r.getD 1 0).toNat)
def itemsP:Nat→Set4→PSt→Ps Set4
 | 0,_,_=>.error 0
 | f+1,t,st=>if F27 s 93 st=true then .ok (st.skip 1,t) else match itemP s t st with
  | .error e=>.error e
  | .ok (st',t')=>itemsP f t' st'
def classP (f:Nat) (st:PSt):Ps Int :=
 let st1:=st.skip 1
 let st2:=hasSt s 94 st1
 match itemP s set0 st2 with
 | .error e=>.error e
 | .ok (st3,t)=>match itemsP s f t st3 with
  | .error e=>.error e
  | .ok (st4,t')=>.ok (setP (if F27 s 94 st1=true then t'.compl else t') st4)
def J40 (kind:Int) (st:PSt):Ps Int :=
 let r:=addP { B69 with Kind:=kind } (st.skip 1)
 match s[r.1.at_]? with
 | some c=>if c∈([42,43,63,123]:Str) then .error 40 else .ok r
 | none=>.ok r
def numP (num:Str→Nat→Option (Int × Nat)) (st:PSt):Ps Int:=match num s st.at_ with
 | none=>.error 40
 | some (n,e)=>if n > 100 then .error 40 else .ok ({ st with at_:=e },n)
def boundsP (num:Str→Nat→Option (Int × Nat)) (st:PSt):Ps (Int × Int):=match numP s num st with
 | .error e=>.error e
 | .ok (st1,least) =>
  let fin:=fun (st:PSt) (most:Int)=>(if F27 s 125 st=false∨(0≤most∧most < least) then .error 40 else .ok (st.skip 1,(least,most)):Ps (Int × Int))
  if F27 s 44 st1=true then
   let st2:=st1.skip 1
   match s[st2.at_]? with
   | none=>fin st2 (-1)
   | some c=>if c=125 then fin st2 (-1) else match numP s num st2 with
    | .error e=>.error e
    | .ok (st3,most)=>fin st3 most
  else fin st1 least
def quantP (num:Str→Nat→Option (Int × Nat)) (st:PSt):Ps (Option (Int × Int)) :=
 if F27 s 42 st=true then .ok (st.skip 1,some (0,-1))
 else if F27 s 43 st=true then .ok (st.skip 1,some (1,-1))
 else if F27 s 63 st=true then .ok (st.skip 1,some (0,1))
 else if F27 s 123 st=true then match boundsP s num (st.skip 1) with
  | .error e=>.error e
  | .ok (st',b)=>.ok (st',some b)
 else .ok (st,none)
def J41 (st:PSt):Ps Int:=match takeP s st with
 | .error e=>.error e
 | .ok (st',c)=>.ok (setP (set0.with_ c.toNat) st')
def escapeP (st:PSt):Ps Int:=J41 s (st.skip 1)
def anyP (st:PSt):PSt × Int:=setP set0.compl (st.skip 1)
def D30 (num:Str→Nat→Option (Int × Nat)) (r:Ps Int):Ps Int:=match r with
 | .error e=>.error e
 | .ok (st,atom)=>match quantP s num st with
  | .error e=>.error e
  | .ok (st',none)=>.ok (st',atom)
  | .ok (st',some (least,most))=>.ok (addP { B69 with Kind:=6,Min:=least,Max:=most,Kids:=[atom] } st')
mutual
def patP (num:Str→Nat→Option (Int × Nat)):Nat→PSt→Ps Int
 | 0,_=>.error 0
 | f+1,st=>match altP num f st [] with
  | .error e=>.error e
  | .ok (st',k)=>J42 num f st' [k]
def J42 (num:Str→Nat→Option (Int × Nat)):Nat→PSt→List Int→Ps Int
 | 0,_,_=>.error 0
 | f+1,st,kids=>if F27 s 124 st=true then match altP num f (st.skip 1) [] with
   | .error e=>.error e
   | .ok (st',k)=>J42 num f st' (kids++[k])
  else .ok (I92 5 kids st)
def altP (num:Str→Nat→Option (Int × Nat)):Nat→PSt→List Int→Ps Int
 | 0,_,_=>.error 0
 | f+1,st,kids=>match s[st.at_]? with
  | none=>.ok (I92 4 kids st)
  | some c=>if c=124∨c=41 then .ok (I92 4 kids st) else match pieceP num f st c with
   | .error e=>.error e
   | .ok (st',k)=>altP num f st' (kids++[k])
def pieceP (num:Str→Nat→Option (Int × Nat)):Nat→PSt→UInt8→Ps Int
 | 0,_,_=>.error 0
 | f+1,st,c =>
  if c=94 then J40 s 2 st
  else if c=36 then J40 s 3 st
  else if c=40 then D30 s num (parenP num f st)
  else if c=91 then D30 s num (classP s (s.length+2) st)
  else if c=46 then D30 s num (.ok (anyP st))
  else if c=92 then D30 s num (escapeP s st)
  else if c∈([42,43,63,123]:Str) then .error 40
  else D30 s num (J41 s st)
def parenP (num:Str→Nat→Option (Int × Nat)):Nat→PSt→Ps Int
 | 0,_=>.error 0
 | f+1,st=>if st.depth=50 then .error 1 else match patP num f { st with at_:=st.at_+1,depth:=st.depth+1 } with
  | .error e=>.error e
  | .ok (st',n)=>if F27 s 41 st'=true then .ok ({ st' with at_:=st'.at_+1,depth:=st'.depth - 1 },n) else .error 40
end
end
def E13 (n:Node) (i:Int):Bool:=n.Kids.all (fun k=>decide (0≤k∧k < i)) &&
 (if n.Kind=0∨n.Kind=1∨n.Kind=2∨n.Kind=3 then decide (n.Kids.length=0)
 else if n.Kind=4∨n.Kind=5 then decide (2≤n.Kids.length)
 else if n.Kind=6 then decide (n.Kids.length=1∧0≤n.Min∧n.Min≤100∧(n.Max = -1∨n.Min≤n.Max∧n.Max≤100)) else false)
def B60 (l:List Node):Int:=if l.length=0∨l.length > 4000 then 2 else if (List.range l.length).all (fun i=>E13 (l.getD i B69) i)=true then 0 else 2
def A80 (a b:Int):Int:=if b < a then b else a
def G84 (w:List Int):Int→List Int→Int
 | acc,[]=>acc
 | acc,k::r=>G84 w (A80 (acc+atG w k.toNat) 4001) r
def A81 (n:Node) (w:List Int):Int :=
 let sum:=G84 w 0 n.Kids
 if n.Kind=4 then sum
 else if n.Kind=5 then A80 (sum+n.Kids.length - 1) 4001
 else if n.Kind=6 then (if n.Max < 0 then A80 (n.Min*sum+sum+1) 4001 else A80 (n.Min*sum+(n.Max - n.Min)*(sum+1)) 4001)
 else 1
def W8:List Node→Nat→List Int→List Int
 | [],_,w=>w
 | n::r,i,w=>W8 r (i+1) (w.set i (A81 n w))
def Y7 (l:List Node):List Int:=W8 l 0 (List.replicate l.length 0)
structure State where
 Kind:Int
 Set:Set4
 Next:Int
 Other:Int
 deriving DecidableEq
def A51:State→Nat→Cell:=fun n j=>match j with
 | 0=>.v (.int .i64 n.Kind)
 | 1=>.v (.int .u64 n.Set.a)
 | 2=>.v (.int .u64 n.Set.b)
 | 3=>.v (.int .u64 n.Set.c)
 | 4=>.v (.int .u64 n.Set.d)
 | 5=>.v (.int .i64 n.Next)
 | _=>.v (.int .i64 n.Other)
structure Auto where
 States:List State
 Start:Int
 deriving DecidableEq
abbrev I93 (n:State):PV:=.agg [.v (.int .i64 n.Kind),.v (.int .u64 n.Set.a),.v (.int .u64 n.Set.b),.v (.int .u64 n.Set.c),.v (.int .u64 n.Set.d),.v (.int .i64 n.Next),.v (.int .i64 n.Other)]
abbrev J43 (l:List State):PV:=.one (.list State 7 A51 l)
abbrev A52 (a:Auto):PV:=.agg [.list State 7 A51 a.States,.v (.int .i64 a.Start)]
def x4:State:=⟨0,set0,0,0⟩
abbrev Bld:=List State × Int
def addS (q:State) (st:List State):Bld:=(st++[q],st.length)
section
variable (ns:List Node) (w:List Int)
mutual
def V3:Nat→Int→Int→List State→Option Bld
 | 0,_,_,_=>none
 | f + 1,i,next,st =>
  if atG w i.toNat=0 then some (st,next)
  else
   let n:=ns.getD i.toNat B69
   if n.Kind=1 then some (addS { x4 with Kind:=0,Set:=n.Set,Next:=next } st)
   else if n.Kind=2 then some (addS { x4 with Kind:=2,Next:=next } st)
   else if n.Kind=3 then some (addS { x4 with Kind:=3,Next:=next } st)
   else if n.Kind=4 then catB f n.Kids.reverse next st
   else if n.Kind=5 then match n.Kids.reverse with
    | []=>none
    | k::r=>match V3 f k next st with
     | none=>none
     | some (st',start)=>G85 f r next start st'
   else if n.Kind=6 then
    let kid:=n.Kids.getD 0 0
    if n.Max < 0 then
     let loop:Int:=st.length
     match V3 f kid loop (st++[{ x4 with Kind:=1,Other:=next }]) with
     | none=>none
     | some (st',start)=>F29 f kid n.Min.toNat loop (st'.set loop.toNat { (st'.getD loop.toNat x4) with Next:=start })
    else match F28 f kid (n.Max - n.Min).toNat next next st with
     | none=>none
     | some (st',next')=>F29 f kid n.Min.toNat next' st'
   else some (st,next)
def catB:Nat→List Int→Int→List State→Option Bld
 | 0,_,_,_=>none
 | _+1,[],next,st=>some (st,next)
 | f+1,k::r,next,st=>match V3 f k next st with
  | none=>none
  | some (st',next')=>catB f r next' st'
def G85:Nat→List Int→Int→Int→List State→Option Bld
 | 0,_,_,_,_=>none
 | _+1,[],_,start,st=>some (st,start)
 | f+1,k::r,next,start,st=>match V3 f k next st with
  | none=>none
  | some (st',b)=>G85 f r next st'.length (st'++[{ x4 with Kind:=1,Next:=b,Other:=start }])
def F28:Nat→Int→Nat→Int→Int→List State→Option Bld
 | 0,_,_,_,_,_=>none
 | _+1,_,0,_,next,st=>some (st,next)
 | f+1,kid,m+1,last,next,st=>match V3 f kid next st with
  | none=>none
  | some (st',b)=>F28 f kid m last st'.length (st'++[{ x4 with Kind:=1,Next:=b,Other:=last }])
def F29:Nat→Int→Nat→Int→List State→Option Bld
 | 0,_,_,_,_=>none
 | _+1,_,0,next,st=>some (st,next)
 | f+1,kid,m+1,next,st=>match V3 f kid next st with
  | none=>none
  | some (st',next')=>F29 f kid m next' st'
end
end
end Go.AL
namespace Go.AL
open Go
def U7 (q:State) (start fin:Bool):List Int :=
 if q.Kind=1 then [q.Next,q.Other] else if q.Kind=2 then (if start=true then [q.Next] else []) else if q.Kind=3 then (if fin=true then [q.Next] else []) else []
def B23 (n:Int) (q:State):Bool :=
 if q.Kind=0∨q.Kind=2∨q.Kind=3 then decide (0≤q.Next∧q.Next < n)
 else if q.Kind=1 then decide (0≤q.Next∧q.Next < n∧0≤q.Other∧q.Other < n)
 else decide (q.Kind=4)
def G86 (a:Auto):Int:=if a.States.length < 1∨a.States.length > 8000∨a.Start < 0∨a.Start≥a.States.length then 2 else if a.States.all (B23 a.States.length)=true then 0 else 2
structure Thread where
 state:Int
 from_:Int
 deriving DecidableEq
def d7:Thread→Nat→Cell:=fun t j=>match j with
 | 0=>.v (.int .i64 t.state)
 | _=>.v (.int .i64 t.from_)
abbrev Mach:=List Thread × List Bool
section
variable (a:Auto) (s:Str)
def T3 (i:Int):State:=a.States.getD i.toNat x4
def A22 (at_:Nat) (fr:Int):Nat→List Int→Mach→Mach
 | 0,_,m=>m
 | f+1,opn,m=>match opn.getLast? with
  | none=>m
  | some i=>if J0 m.2 i.toNat=true then A22 at_ fr f opn.dropLast m
   else A22 at_ fr f (opn.dropLast++U7 (T3 a i) (decide (at_=0)) (decide (at_=s.length))) (m.1++[⟨i,fr⟩],m.2.set i.toNat true)
def D31 (at_:Nat) (t:Thread) (m:Mach):Mach:=A22 a s at_ t.from_ (3*a.States.length+2) [t.state] m
def Q9:List Thread→Int
 | [] => -1
 | t::r=>if (T3 a t.state).Kind=4 then t.from_ else Q9 r
def x5 (q:Set4) (c:Nat):Int:=match c / 64 with
 | 0=>q.a.fdiv (2 ^ (c % 64)) % 2
 | 1=>q.b.fdiv (2 ^ (c % 64)) % 2
 | 2=>q.c.fdiv (2 ^ (c % 64)) % 2
 | _=>q.d.fdiv (2 ^ (c % 64)) % 2
def B03 (at_:Nat) (c:Nat):List Thread→Mach→Mach
 | [],m=>m
 | t::r,m=>B03 at_ c r (if (T3 a t.state).Kind=0∧x5 (T3 a t.state).Set c=1 then D31 a s at_ ⟨(T3 a t.state).Next,t.from_⟩ m else m)
def D32 (at_:Nat) (m:Mach):Mach:=B03 a s (at_+1) (s.getD at_ 0).toNat m.1 ([],List.replicate a.States.length false)
def A53 (fr:Int):List Thread→List Thread
 | []=>[]
 | t::r=>if t.from_ > fr then [] else t::A53 fr r
def B04:Nat→Nat→Mach→(Int × Int)→Bool→(Int × Int) × Bool
 | 0,_,_,b,fd=>(b,fd)
 | f+1,at_,m,b,fd =>
  let m1:=if fd=true then m else D31 a s at_ ⟨a.Start,at_⟩ m
  let i:=Q9 a m1.1
  let b':=if 0≤i then (i,(at_:Int)) else b
  let fd':=if 0≤i then true else fd
  let m2:Mach:=if 0≤i then (A53 i m1.1,m1.2) else m1
  if at_=s.length∨(fd'=true∧m2.1=[]) then (b',fd') else B04 f (at_+1) (D32 a s at_ m2) b' fd'
def B24 (from_:Nat):(Int × Int) × Bool:=B04 a s (s.length+1 - from_) from_ ([],List.replicate a.States.length false) (0,0) false
end
end Go.AL
namespace Go.AL
open Go
structure AG (A:Auto):Prop where
 len:1≤A.States.length∧A.States.length≤8000
 start:0≤A.Start∧A.Start < A.States.length
 good:∀q∈A.States,B23 A.States.length q=true
theorem AG.check {A:Auto} (h:AG A):G86 A=0:=by
 obtain ⟨h1,h2⟩:=h.len
 obtain ⟨h3,h4⟩:=h.start
 unfold G86
 rw [if_neg (by omega),if_pos (List.all_eq_true.2 h.good)]
theorem D33 {A:Auto} {i:Int} (h:0≤i∧i < A.States.length):A.States[i.toNat]?=some (T3 A i):=by
 rw [T3,K88,K82 (show i.toNat < A.States.length by omega)];rfl
theorem B25 {A:Auto} (hA:AG A) {i:Int} (h:0≤i∧i < A.States.length):B23 A.States.length (T3 A i)=true:=hA.good _ (K93 (D33 h))
theorem x6 {n:Int} {q:State} (h:B23 n q=true) :
  ((q.Kind=0∨q.Kind=2∨q.Kind=3)∧0≤q.Next∧q.Next < n)∨(q.Kind=1∧(0≤q.Next∧q.Next < n)∧0≤q.Other∧q.Other < n)∨q.Kind=4:=by
 unfold B23 at h
 split at h
 ·rename_i hk;exact .inl ⟨hk,A0 h⟩
 ·split at h
  ·rename_i hk
   have:=A0 h
   exact .inr (.inl ⟨hk,⟨this.1,this.2.1⟩,this.2.2⟩)
  ·exact .inr (.inr (A0 h))
theorem D34 {A:Auto} (hA:AG A) {i:Int} (h:0≤i∧i < A.States.length) (b e:Bool):(U7 (T3 A i) b e).length≤2∧∀k∈U7 (T3 A i) b e,0≤k∧k < A.States.length:=by
 have hg:=x6 (B25 hA h)
 unfold U7
 repeat' split
 all_goals refine ⟨by simp,fun k hk=>?_⟩
 all_goals simp only [L11,List.not_mem_nil,or_false] at hk
 ·rcases hk with rfl | rfl
  ·omega
  ·omega
 ·subst hk;omega
 ·subst hk;omega
structure MG (A:Auto) (m:Mach):Prop where
 sl:m.2.length=A.States.length
 cnt:m.1.length+m.2.count false≤A.States.length
 st:∀t∈m.1,0≤t.state∧t.state < A.States.length
theorem G15 {sn:List Bool}:∀{i:Nat},sn[i]?=some false→(sn.set i true).count false+1=sn.count false:=by
 induction sn with
 | nil=>intro i h;cases h
 | cons b r ih =>
  intro i h
  cases i with
  | zero =>
   rw [List.getElem?_cons_zero] at h
   cases h
   simp
  | succ i =>
   rw [List.getElem?_cons_succ] at h
   have:=ih h
   rw [List.set_cons_succ,List.count_cons,List.count_cons]
   omega
theorem MG.first (A:Auto):MG A ([],List.replicate A.States.length false):=⟨by simp,by simp,fun _ h=>by cases h⟩
theorem I94 {sn:List Bool} {i:Nat} (h:i < sn.length):sn[i]?=some (J0 sn i):=by
 unfold J0;rw [K82 h];rfl
theorem MG.push {A:Auto} {m:Mach} (h:MG A m) {i:Int} (hi:0≤i∧i < A.States.length) (fr:Int) (ho:J0 m.2 i.toNat=false):MG A (m.1++[⟨i,fr⟩],m.2.set i.toNat true):=by
 have h1:=h.sl
 have h2:=G15 (sn:=m.2) (i:=i.toNat) (by rw [←ho];exact I94 (by omega))
 have h3:=h.cnt
 refine ⟨by dsimp only;rw [L06];exact h1,by dsimp only;rw [K86,List.length_singleton];omega,fun t ht=>?_⟩
 rcases List.mem_append.1 ht with ht | ht
 ·exact h.st t ht
 ·rw [List.mem_singleton.1 ht];exact hi
section
variable (A:Auto) (s:Str)
def muA (opn:List Int) (m:Mach):Nat:=3*m.2.count false+opn.length
theorem G16 (a:Nat) (fr:Int) (f:Nat) (m:Mach):A22 A s a fr f [] m=m:=by
 cases f<;>rfl
theorem F30 {a:Nat} {fr:Int} {f:Nat} {opn:List Int} {i:Int} {m:Mach} (h:opn.getLast?=some i) (ho:J0 m.2 i.toNat=true):A22 A s a fr (f+1) opn m=A22 A s a fr f opn.dropLast m:=by
 rw [A22,h]
 simp only [ho,if_true]
theorem G17 {a:Nat} {fr:Int} {f:Nat} {opn:List Int} {i:Int} {m:Mach} (h:opn.getLast?=some i) (ho:J0 m.2 i.toNat=false) :
  A22 A s a fr (f+1) opn m=A22 A s a fr f (opn.dropLast++U7 (T3 A i) (decide (a=0)) (decide (a=s.length))) (m.1++[⟨i,fr⟩],m.2.set i.toNat true):=by
 rw [A22,h]
 simp only [ho,Bool.false_eq_true,if_false]
theorem D35 {opn:List Int} {i:Int} (h:opn.getLast?=some i):opn≠[]∧opn[opn.length - 1]?=some i∧i∈opn:=by
 have hne:opn≠[]:=fun e=>by rw [e] at h;cases h
 rw [List.getLast?_eq_getElem?] at h
 exact ⟨hne,h,K93 h⟩
variable {A}
theorem C85 (hA:AG A) {a:Nat} {fr:Int}:∀(f:Nat) (opn:List Int) (m:Mach),(∀k∈opn,0≤k∧k < A.States.length)→MG A m→MG A (A22 A s a fr f opn m)
 | 0,_,_,_,h=>h
 | f+1,opn,m,ho,h=>by
  cases hl:opn.getLast? with
  | none=>rw [A22,hl];exact h
  | some i =>
   have hi:=ho i (D35 hl).2.2
   have hd:∀k∈opn.dropLast,0≤k∧k < A.States.length:=fun k hk=>ho k (List.dropLast_subset _ hk)
   cases hs:J0 m.2 i.toNat
   ·rw [G17 A s hl hs]
    refine C85 hA f _ _ (fun k hk=>?_) (h.push hi fr hs)
    rcases List.mem_append.1 hk with hk | hk
    ·exact hd k hk
    ·exact (D34 hA hi _ _).2 k hk
   ·rw [F30 A s hl hs]
    exact C85 hA f _ _ hd h
theorem D70 (hA:AG A) {a:Nat} {t:Thread} (ht:0≤t.state∧t.state < A.States.length) {m:Mach} (h:MG A m):MG A (D31 A s a t m) :=
 C85 s hA _ _ _ (fun k hk=>by rw [List.mem_singleton.1 hk];exact ht) h
theorem E14 (hA:AG A) {a:Nat} {fr:Int} {f:Nat} {opn:List Int} {m R:Mach} (hm:MG A m) (ho:∀k∈opn,0≤k∧k < A.States.length) (hf:muA opn m < f) (hR:A22 A s a fr f opn m=R) {i:Int} (hl:opn.getLast?=some i) :
  ∃f' opn' m',f=f'+1∧A22 A s a fr f' opn' m'=R∧muA opn' m' < f'∧muA opn' m' < muA opn m∧MG A m'∧(∀k∈opn',0≤k∧k < A.States.length) ∧
   (J0 m.2 i.toNat=true→opn'=opn.dropLast∧m'=m)∧(J0 m.2 i.toNat=false→opn'=opn.dropLast++U7 (T3 A i) (decide (a=0)) (decide (a=s.length))∧m'=(m.1++[⟨i,fr⟩],m.2.set i.toNat true)):=by
 obtain ⟨hne,hg,hi0⟩:=D35 hl
 have hi:=ho i hi0
 have hpos:0 < opn.length:=List.length_pos_iff.2 hne
 have hdl:opn.dropLast.length=opn.length - 1:=List.length_dropLast
 have hd:∀k∈opn.dropLast,0≤k∧k < A.States.length:=fun k hk=>ho k (List.dropLast_subset _ hk)
 obtain ⟨f',rfl⟩:∃f',f=f'+1:=⟨f - 1,by omega⟩
 unfold muA at hf
 cases hs:J0 m.2 i.toNat
 ·have hc:=G15 (sn:=m.2) (i:=i.toNat) (by rw [←hs];exact I94 (by rw [hm.sl];omega))
  have h2:=D34 hA hi (decide (a=0)) (decide (a=s.length))
  rw [G17 A s hl hs] at hR
  refine ⟨f',_,_,rfl,hR,?_,?_,hm.push hi fr hs,(fun k hk=>?_),⟨(fun h=>by cases h),fun _=>⟨rfl,rfl⟩⟩⟩
  ·unfold muA;rw [K86,hdl];dsimp only;omega
  ·unfold muA;rw [K86,hdl];dsimp only;omega
  ·rcases List.mem_append.1 hk with hk | hk
   ·exact hd k hk
   ·exact h2.2 k hk
 ·rw [F30 A s hl hs] at hR
  refine ⟨f',_,_,rfl,hR,?_,?_,hm,hd,⟨(fun _=>⟨rfl,rfl⟩),fun h=>by cases h⟩⟩
  ·unfold muA;rw [hdl];omega
  ·unfold muA;rw [hdl];omega
theorem E15 (hA:AG A) {a c:Nat}:∀(th:List Thread) (m:Mach),(∀t∈th,0≤t.state∧t.state < A.States.length)→MG A m→MG A (B03 A s a c th m)
 | [],_,_,h=>h
 | t::r,m,ht,h=>by
  rw [B03]
  refine E15 hA r _ (fun x hx=>ht x (List.mem_cons_of_mem _ hx)) ?_
  split
  ·rename_i hk
   refine D70 s hA ?_ h
   have:=x6 (B25 hA (ht t (List.mem_cons_self ..)))
   dsimp only
   omega
  ·exact h
theorem F31 (hA:AG A) {a:Nat} {m:Mach} (h:MG A m):MG A (D32 A s a m):=E15 s hA _ _ h.st (MG.first A)
theorem C86 {fr:Int}:∀{th:List Thread} {i:Nat},(∀t∈th.take i,t.from_≤fr)→(∀t,th[i]?=some t→t.from_ > fr)→A53 fr th=th.take i
 | [],i,_,_=>by simp [A53]
 | t::r,0,_,h2=>by
  have:=h2 t rfl
  unfold A53;rw [if_pos this];rfl
 | t::r,i+1,h1,h2=>by
  have h3:=h1 t (by simp)
  have ih:=C86 (fr:=fr) (th:=r) (i:=i) (fun x hx=>h1 x (by rw [List.take_succ_cons];exact List.mem_cons_of_mem _ hx)) (fun x hx=>h2 x hx)
  rw [A53,if_neg (by omega),List.take_succ_cons,ih]
theorem H91 (fr:Int):∀th:List Thread,(A53 fr th).length≤th.length∧∀t∈A53 fr th,t∈th
 | []=>⟨Nat.le_refl _,fun _ h=>h⟩
 | t::r=>by
  have ih:=H91 fr r
  unfold A53
  split
  ·exact ⟨Nat.zero_le _,fun _ h=>by cases h⟩
  ·refine ⟨by rw [K87,K87];omega,fun x hx=>?_⟩
   rcases List.mem_cons.1 hx with rfl | hx
   ·simp
   ·exact List.mem_cons_of_mem _ (ih.2 x hx)
theorem MG.keep {m:Mach} (h:MG A m) (fr:Int):MG A (A53 fr m.1,m.2):=by
 have h1:=H91 fr m.1
 have h2:=h.cnt
 exact ⟨h.sl,by dsimp only;omega,fun t ht=>h.st t (h1.2 t ht)⟩
end
end Go.AL
namespace Go.AL
open Go
end Go.AL
attribute [local semireducible] Go.AL.Neu Go.AL.Eff Go.AL.EffV Go.AL.WpL Go.AL.WpC Go.AL.FnOk Go.AL.LexD Go.AL.Sees Go.AL.RetOk Go.AL.FnIo Go.AL.Met Go.AL.RetS
namespace Go.AL
open Go Go.RowKit
set_option linter.unusedVariables false
section
variable {P:Program} {dst:Option Tmp} {ty:TypeId} {pos:String} {af:Array Edge} {gd:Option (Nat × Bool)} {fr:Fr} {ob:Obs} {nt:Nat}
theorem s9 {x y:Operand} {t e:TypeId} {n es k off m:Nat} {ki:IntKind} {i:Int} [ht:TyArr P t e n es] (hx:opv fr x=some (.s (.one (.ref k off)))) (hy:opv fr y=some (I7 (.int ki i))) (hi:i=(m:Int)) (h1:m < n) :
  Neu P ⟨dst,.indexAddr t x y,ty,pos,af,gd⟩ fr ob (fun s'=>s'=.s (.one (.ref k (off+m*es)))):=by
 subst hi
 exact N1 hx hy (by omega) (by omega)
theorem C33 {ops:Array Oper} {rest:List Oper} {Q:Post} {d:Nat} {op:Op} {ty:TypeId} {pos:String} {af:Array Edge} {j t:Nat} {b:Bool} (ht:(ops[j]?).bind (·.dst)=some t) (htn:Nat.blt t nt=true) (hx:F6 fr t=some .un) (hd:Nat.blt d nt=true)
  (k:WpL P nt ops rest ((d,.un)::fr) ob Q):WpL P nt ops (⟨some d,op,ty,pos,af,some (j,b)⟩::rest) fr ob Q:=by
 intro S G a w hn hs
 have hlt:d < S.nt:=by rw [hn];simpa using hd
 have hk:=k S G _ w hn (hs.put (s:=.un) (v:=undef) hlt rfl)
 have hts:t < a.tmps.size:=by rw [hs.nt,hn];simpa using htn
 have hy:=(Wants.un (b:=b)).yields (hs.fact (by rw [←hs.nt];exact hts) hx) ht hts rfl
 unfold wpList
 rw [if_neg (by unfold Region.wanted;simp only;rw [hy];simp)]
 exact hk
end
theorem quo64 {c m:Nat} (hc:c < 256) (h:c / 64=m):IntKind.u8.wrap ((c:Int).tdiv 64)=(m:Int):=by
 rw [Int.tdiv_eq_ediv_of_nonneg (by omega)]
 simp [IntKind.wrap,IntKind.signed,IntKind.bits]
 omega
theorem rem64 (c:Nat):min ((c:Int).tmod 64).toNat IntKind.u64.bits=c % 64:=by
 rw [Int.tmod_eq_emod_of_nonneg (by omega)]
 simp only [IntKind.bits]
 omega
theorem H92 (x:Int):IntKind.u64.wrap ((BitVec.ofInt IntKind.u64.bits x &&& BitVec.ofInt IntKind.u64.bits 1).toNat:Int)=x % 2:=by
 have h1:(BitVec.ofInt IntKind.u64.bits 1).toNat=1:=by decide
 rw [BitVec.toNat_and,h1,Nat.and_one_is_mod,BitVec.toNat_ofInt,show ((2 ^ IntKind.u64.bits:Nat):Int)=18446744073709551616 by rfl]
 simp [IntKind.wrap,IntKind.signed,IntKind.bits]
 omega
end Go.AL
namespace Go.AL
open Go
def Y8 (x y:List Str) (c:Change):List Str:=((x.drop c.Old.toNat).take ((c.Old+c.OldLen).toNat - c.Old.toNat))++((y.drop c.New.toNat).take ((c.New+c.NewLen).toNat - c.New.toNat))
def A82 (x y:List Str):List Change:=B51 (N0 (H5 [x,y]) x) (N0 (H5 [x,y]) y)
def t6 (h:Str→Bool) (l:List Str):List Str:=(l.map f0).filter h
def V6 (h:Str→Bool) (x y:List Str) (l:List Change):List Str:=l.flatMap fun c=>t6 h (Y8 x y c)
def y6 (h:Str→Bool) (a b:Str):List Str:=V6 h (F1 a) (F1 b) (A82 (F1 a) (F1 b))
theorem A54 (names:List Str) (file:List Str):(N0 names file).length=file.length:=by unfold N0;rw [L04]
theorem G18 (x y:List Str):(A82 x y).length≤x.length+1∧∀c∈A82 x y,0≤c.Old∧0≤c.New∧0≤c.OldLen∧0≤c.NewLen∧c.Old+c.OldLen≤x.length∧c.New+c.NewLen≤y.length:=by
 constructor
 ·have h1:=F59 (L4 0 0 (N0 (H5 [x,y]) x) (N0 (H5 [x,y]) y)) 0 0 (N0 (H5 [x,y]) x).length (N0 (H5 [x,y]) y).length
  have h2:=C58 0 0 (N0 (H5 [x,y]) x) (N0 (H5 [x,y]) y)
  rw [A54] at h2
  exact Nat.le_trans h1 (by omega)
 ·intro c hc
  have:=G71 _ _ c hc
  rw [A54,A54] at this
  exact this
theorem E16 (x y:List Str) (c:Change):(Y8 x y c).length≤x.length+y.length:=by
 unfold Y8
 rw [K86,K92,K92,K99,K99];omega
theorem E17 {x y:List Str} {c:Change} {s:Str} (h:s∈Y8 x y c):s∈x∨s∈y:=by
 rcases List.mem_append.1 h with h | h
 ·exact .inl (List.mem_of_mem_drop (List.mem_of_mem_take h))
 ·exact .inr (List.mem_of_mem_drop (List.mem_of_mem_take h))
theorem H93 (h:Str→Bool) (l:List Str):(t6 h l).length≤l.length:=by
 unfold t6;exact Nat.le_trans (List.length_filter_le ..) (by rw [L04];exact Nat.le_refl _)
theorem E18 (h:Str→Bool) (x y:List Str):∀l:List Change,(V6 h x y l).length≤l.length*(x.length+y.length)
 | []=>by simp [V6]
 | c::r=>by
  have ih:=E18 h x y r
  have h1:=H93 h (Y8 x y c)
  have h2:=E16 x y c
  unfold V6 at ih ⊢
  rw [List.flatMap_cons,K86,K87,L03];omega
end Go.AL
namespace Go.AL
open Go
abbrev names4:List Str:=[[97],[98,47,120],[98,47,121],[99,32,100]]
theorem names4_asc:names4.Pairwise (fun x y=>ltS x y=true):=by decide
theorem H94:∀p∈names4,N2 p=0∧p.length≤3:=by decide
theorem G87:∀p∈names4,∀q∈names4,above p q=false:=by decide
def NoDig (b:Str):Prop:=∀c∈b,c.toNat < 48∨57 < c.toNat
theorem NoDig.app {a b:Str} (ha:NoDig a) (hb:NoDig b):NoDig (a++b):=fun c hc=>(List.mem_append.1 hc).elim (ha c) (hb c)
theorem NoDig.sub {a b:Str} (h:NoDig b) (hs:∀c∈a,c∈b):NoDig a:=fun c hc=>h c (hs c hc)
structure GN (L:Nat) (l:List File):Prop where
 sub:(l.map (·.Path)).Sublist names4
 cnt:∀f∈l,f.Blob.count 10≤L
 dig:∀f∈l,NoDig f.Blob
theorem GN.name {L:Nat} {l:List File} (h:GN L l):∀f∈l,f.Path∈names4:=fun _ hf=>h.sub.subset (List.mem_map_of_mem hf)
theorem GN.mono {L L':Nat} {l:List File} (h:GN L l) (hL:L≤L'):GN L' l:=⟨h.sub,fun f hf=>Nat.le_trans (h.cnt f hf) hL,h.dig⟩
theorem G19:∀{l:List File},F06 (l.map (·.Path))→ascend l=true
 | [],_=>rfl
 | [_],_=>rfl
 | f::g::r,h=>by
  rw [L01] at h
  have h1:=List.pairwise_cons.1 h
  unfold ascend
  rw [h1.1 g.Path (by simp),G19 h1.2];rfl
theorem GN.asc {L:Nat} {l:List File} (h:GN L l):ascend l=true:=G19 (names4_asc.sublist h.sub)
theorem GN.tree {L:Nat} {l:List File} (h:GN L l) (hL:L+1≤4096) (hB:∀f∈l,f.Blob.length≤1048576):F8 l=0:=by
 have hlen:l.length≤4:=by have:=h.sub.length_le;simpa using this
 unfold F8
 rw [if_neg (by omega),if_neg (fun h1=>by
  obtain ⟨f,hf,h2⟩:=List.any_eq_true.1 h1
  exact A0 h2 (H94 _ (h.name f hf)).1),if_neg (fun h1=>by
  rw [C77 h.asc fun x hx y hy=>G87 _ (h.name x hx) _ (h.name y hy)] at h1;cases h1),if_neg (fun h1=>by
  obtain ⟨f,hf,h2⟩:=List.any_eq_true.1 h1
  refine A0 h2 ?_
  unfold M2
  have h3:=h.cnt f hf
  have h4:=hB f hf
  have h5:=A99 f.Blob
  rw [if_neg]
  rintro (h6 | h6)
  ·omega
  ·split at h5<;>omega)]
theorem H95 {n:Int}:∀{ps seen:List Int},(∀p∈ps,0≤p∧p < n∧p∉seen)→ps.Nodup→A21 n seen ps=true
 | [],_,_,_=>rfl
 | p::r,seen,h,hn=>by
  have h1:=List.nodup_cons.1 hn
  unfold A21
  rw [decide_eq_true (h p (by simp)),Bool.true_and]
  refine H95 (fun q hq=>?_) h1.2
  have h2:=h q (by simp [hq])
  refine ⟨h2.1,h2.2.1,fun h3=>?_⟩
  rcases List.mem_append.1 h3 with h3 | h3
  ·exact h2.2.2 h3
  ·rw [List.mem_singleton.1 h3] at hq;exact h1.1 hq
def OneWay (g:Graph):Prop:=(∀c p:Nat,(p:Int)∈E6 g c→p < c)∨(∀c p:Nat,(p:Int)∈E6 g c→c < p)
theorem OneWay.acyc {g:Graph} (h:OneWay g) (c:Nat):¬Reaches g c c:=by
 rcases h with h | h
 ·have key:∀{a b:Nat},Reaches g a b→b < a:=fun {a b} hr=>by
   induction hr with
   | one h2=>exact h _ _ h2
   | more _ h2 ih=>have:=h _ _ h2;omega
  exact fun hr=>Nat.lt_irrefl _ (key hr)
 ·have key:∀{a b:Nat},Reaches g a b→a < b:=fun {a b} hr=>by
   induction hr with
   | one h2=>exact h _ _ h2
   | more _ h2 ih=>have:=h _ _ h2;omega
  exact fun hr=>Nat.lt_irrefl _ (key hr)
theorem E19:∀{g:List Commit},(∀c∈g,F8 c.Files=0)→W5 g=0
 | [],_=>rfl
 | c::r,h=>by
  unfold W5
  rw [if_neg (fun h1=>h1 (h c (by simp)))]
  exact E19 fun d hd=>h d (by simp [hd])
structure GV (g:Graph):Prop where
 len:g.length≤16
 pars:∀c∈g,c.Parents.length≤3∧(∀p∈c.Parents,0≤p∧p < (g.length:Int))∧c.Parents.Nodup∧0≤c.Date∧c.Date≤5
 way:OneWay g
 files:∀c∈g,GN 2111 c.Files∧∀f∈c.Files,f.Blob.length≤1048576
theorem GV.check {g:Graph} (h:GV g):K7 g=0:=by
 have hr:related g=true:=by
  unfold related
  rw [List.all_eq_true]
  exact fun c hc=>H95 (fun p hp=>⟨((h.pars c hc).2.1 p hp).1,((h.pars c hc).2.1 p hp).2,by simp⟩) (h.pars c hc).2.2.1
 have hcy:¬cyclic g=true:=fun h1=>by
  obtain ⟨c,hc⟩:=(B49 hr).1 h1
  exact h.way.acyc c hc
 have hl:=h.len
 have hlim:W6 g=true:=by
  unfold W6
  rw [decide_eq_true (by omega),Bool.true_and]
  cases ha:g.any fun c=>decide (c.Parents.length > 32)
  ·rfl
  obtain ⟨c,hc,h2⟩:=List.any_eq_true.1 ha
  have:=A0 h2
  have:=(h.pars c hc).1
  omega
 have hbd:¬A73 g=true:=fun h1=>by
  obtain ⟨c,hc,h2⟩:=List.any_eq_true.1 h1
  have:=A0 h2
  have:=(h.pars c hc).2.2.2
  omega
 unfold K7
 rw [hlim,hr,if_neg (by simp),if_neg (by simp),if_neg hcy,if_neg hbd]
 exact E19 fun c hc=>(h.files c hc).1.tree (by omega) (h.files c hc).2
theorem K06 {t u:List File} {p:Str} (h:I5 t p≠I5 u p):∃d∈U4 t u,d.Path=p:=by
 have hm:p∈A15 (t.map (·.Path)) (u.map (·.Path)):=by
  rw [l9]
  by_cases h1:p∈t.map (·.Path)
  ·exact .inl h1
  ·by_cases h2:p∈u.map (·.Path)
   ·exact .inr h2
   ·exact absurd ((findF_none.2 h1).trans (findF_none.2 h2).symm) h
 have hd:∃d,A28 t u p=some d:=by
  unfold A28
  cases h1:I5 t p with
  | none=>exact ⟨_,rfl⟩
  | some x =>
   cases h2:I5 u p with
   | none=>exact ⟨_,rfl⟩
   | some y =>
    have:x≠y:=fun e=>h (by rw [h1,h2,e])
    exact ⟨_,if_pos this⟩
 obtain ⟨d,hd⟩:=hd
 exact ⟨d,List.mem_filterMap.2 ⟨p,hm,hd⟩,B47 hd⟩
theorem I95 {t u:List File} {d:Delta} (h:d∈U4 t u):d.Path∈t.map (·.Path)∨d.Path∈u.map (·.Path):=by
 obtain ⟨p,hp,hd⟩:=List.mem_filterMap.1 h
 rw [B47 hd]
 exact (l9 _ _ _).1 hp
def A83 (f:Str × Str→Bool) (t u:List File):Bool:=names4.any fun p=>f (N3 t p,N3 u p)
theorem H96 {f:Str × Str→Bool} (hf:∀x,f (x,x)=false) {t u:List File} (ht:∀x∈t,x.Path∈names4) (hu:∀x∈u,x.Path∈names4):(A78 t u).any f=A83 f t u:=by
 rw [Bool.eq_iff_iff,A83,List.any_eq_true,List.any_eq_true]
 constructor
 ·rintro ⟨x,hx,hfx⟩
  obtain ⟨d,hd,rfl⟩:=List.mem_map.1 hx
  refine ⟨d.Path,?_,hfx⟩
  rcases I95 hd with h | h<;>obtain ⟨y,hy,e⟩:=List.mem_map.1 h<;>rw [←e]
  ·exact ht y hy
  ·exact hu y hy
 ·rintro ⟨p,_,hfp⟩
  have hne:I5 t p≠I5 u p:=fun e=>by
   have:N3 t p=N3 u p:=by unfold N3;rw [e]
   rw [this,hf] at hfp;cases hfp
  obtain ⟨d,hd,e⟩:=K06 hne
  exact ⟨_,List.mem_map.2 ⟨d,hd,rfl⟩,by unfold G82;rw [e];exact hfp⟩
def D36 (f:Str × Str→Bool) (g:Graph) (c:Nat):Bool:=(L9 g c).any fun t=>A83 f t (L1 g c)
theorem E20 {g:Graph} (h:GV g) (c:Nat):∀x∈L1 g c,x.Path∈names4:=by
 unfold L1
 by_cases hc:c < g.length
 ·rw [K82 hc]
  exact (h.files _ (K85 hc)).1.name
 ·rw [K98 (by omega)];exact fun x hx=>by cases hx
theorem B61 {α:Type} {f g:α→Bool}:∀{l:List α},(∀x∈l,f x=g x)→l.any f=l.any g
 | [],_=>rfl
 | x::r,h=>by rw [List.any_cons,List.any_cons,h x (by simp),B61 fun y hy=>h y (by simp [hy])]
theorem F62 {f:Str × Str→Bool} (hf:∀x,f (x,x)=false) {g:Graph} (h:GV g) (c:Nat):T0 f g c=D36 f g c:=by
 unfold T0 D36 M8
 rw [List.any_map]
 refine B61 fun t ht=>?_
 refine H96 hf (fun x hx=>?_) (E20 h c)
 unfold L9 at ht
 split at ht
 ·rw [List.mem_singleton.1 ht] at hx;cases hx
 ·obtain ⟨p,_,rfl⟩:=List.mem_map.1 ht
  exact E20 h _ x hx
theorem G88 {f:Str × Str→Bool} (hf:∀x,f (x,x)=false) {g:Graph} (h:GV g) {s:Int} (hs:U6 g s):L5 f g s=((y5 g [s]).filter fun c=>D36 f g c.toNat,0):=by
 have hE:Q4 g s=(y5 g [s],0):=by unfold Q4;rw [h.check,if_neg (fun e=>e rfl),if_pos hs]
 unfold L5
 rw [hE,if_neg (fun e=>e rfl)]
 congr 1
 exact List.filter_congr fun c _=>F62 hf h c.toNat
end Go.AL
namespace Go.AL
open Go
section
variable (A:Auto) (s:Str)
abbrev F32 (p:Nat) (k:Int):List Int:=U7 (T3 A k) (decide (p=0)) (decide (p=s.length))
def reads (p:Nat) (k:Int):Prop:=(T3 A k).Kind=0∧x5 (T3 A k).Set (s.getD p 0).toNat=1
inductive Run:Int→Nat→Prop
 | start {i:Nat} (hi:i≤s.length):Run A.Start i
 | eps {k j:Int} {p:Nat} (h:Run k p) (hj:j∈F32 A s p k):Run j p
 | read {k:Int} {p:Nat} (h:Run k p) (hp:p < s.length) (hr:reads A s p k):Run (T3 A k).Next (p+1)
abbrev inA (k:Int):Prop:=0≤k∧k < A.States.length
variable {A s}
theorem Run.in_ (hA:AG A) {k:Int} {p:Nat} (h:Run A s k p):inA A k∧p≤s.length:=by
 induction h with
 | start hi=>exact ⟨hA.start,hi⟩
 | eps _ hj ih=>exact ⟨(D34 hA ih.1 _ _).2 _ hj,ih.2⟩
 | read _ hp hr ih =>
  refine ⟨?_,hp⟩
  have:=x6 (B25 hA ih.1)
  have h0:=hr.1
  omega
variable (A s)
def onM (m:Mach) (k:Int):Prop:=inA A k∧J0 m.2 k.toNat=true
structure Sy (p:Nat) (m:Mach):Prop where
 mg:MG A m
 fr:∀t∈m.1,0≤t.from_
 sync:∀k,onM A m k↔∃t∈m.1,t.state=k
variable {A s}
theorem K07 {sn:List Bool} {i c:Nat} (hi:i < sn.length):J0 (sn.set i true) c=(J0 sn c||decide (i=c)):=by
 unfold J0
 rw [L36]
 by_cases e:i=c
 ·subst e
  rw [if_pos rfl,if_pos hi];simp
 ·rw [if_neg e];simp [e]
theorem H97 {m:Mach} (hm:MG A m) {i:Int} (hi:inA A i) {fr:Int} (k:Int):onM A (m.1++[⟨i,fr⟩],m.2.set i.toNat true) k↔onM A m k∨k=i:=by
 unfold onM
 rw [K07 (by rw [hm.sl];have:=hi.2;have:=hi.1;omega),L02,decide_eq_true_eq]
 constructor
 ·rintro ⟨h1,h2 | h2⟩
  ·exact .inl ⟨h1,h2⟩
  ·right;have:=hi.1;have:=h1.1;omega
 ·rintro (⟨h1,h2⟩ | rfl)
  ·exact ⟨h1,.inl h2⟩
  ·exact ⟨hi,.inr rfl⟩
theorem Sy.push {p:Nat} {m:Mach} (h:Sy A p m) {i:Int} (hi:inA A i) {fr:Int} (hfr:0≤fr) (ho:J0 m.2 i.toNat=false):Sy A p (m.1++[⟨i,fr⟩],m.2.set i.toNat true) where
 mg:=h.mg.push hi fr ho
 fr:=fun t ht=>by
  rcases List.mem_append.1 ht with ht | ht
  ·exact h.fr t ht
  ·rw [List.mem_singleton.1 ht];exact hfr
 sync:=fun k=>by
  rw [H97 h.mg hi,h.sync k]
  constructor
  ·rintro (⟨t,ht,e⟩ | rfl)
   ·exact ⟨t,List.mem_append_left _ ht,e⟩
   ·exact ⟨⟨k,fr⟩,by simp,rfl⟩
  ·rintro ⟨t,ht,e⟩
   rcases List.mem_append.1 ht with ht | ht
   ·exact .inl ⟨t,ht,e⟩
   ·right;rw [←e,List.mem_singleton.1 ht]
theorem D71 (hA:AG A) {p:Nat} {fr:Int} (hfr:0≤fr):∀(f:Nat) (opn:List Int) (m:Mach),muA opn m < f→Sy A p m→(∀k∈opn,inA A k)→(∀k,onM A m k→∀j∈F32 A s p k,onM A m j∨j∈opn) →
  let R:=A22 A s p fr f opn m
  Sy A p R∧(∀k,onM A R k→∀j∈F32 A s p k,onM A R j)∧(∀k,onM A m k→onM A R k)∧(∀k∈opn,onM A R k) ∧
   ∀P:Int→Prop,(∀k,P k→∀j∈F32 A s p k,P j)→(∀k,onM A m k→P k)→(∀k∈opn,P k)→∀k,onM A R k→P k
 | 0,_,_,h,_,_,_=>absurd h (Nat.not_lt_zero _)
 | f + 1,opn,m,hf,hm,ho,hc=>by
  dsimp only
  cases hl:opn.getLast? with
  | none =>
   have h0:opn=[]:=List.getLast?_eq_none_iff.1 hl
   subst h0
   rw [G16]
   exact ⟨hm,fun k hk j hj=>(hc k hk j hj).resolve_right (by simp),fun _ h=>h,(fun k hk=>by cases hk),fun P _ h1 _ k hk=>h1 k hk⟩
  | some i =>
   obtain ⟨f',opn',m',hff,hR',hf',hmu',hm',hop',hseen,hnew⟩:=E14 s hA (a:=p) (fr:=fr) hm.mg ho hf rfl hl
   obtain rfl:f=f':=by omega
   obtain ⟨hne,hg,hi0⟩:=D35 hl
   have hi:=ho i hi0
   have hsplit:opn=opn.dropLast++[i]:=by
    rw [List.dropLast_eq_take]
    have hpos:0 < opn.length:=List.length_pos_iff.2 hne
    have h1:=List.take_add_one (l:=opn) (i:=opn.length - 1)
    rw [hg,show opn.length - 1+1=opn.length by omega,K89] at h1
    exact h1
   have hmem:∀k,k∈opn↔k∈opn.dropLast∨k=i:=fun k=>by
    conv=>lhs;rw [hsplit]
    rw [L07,List.mem_singleton]
   cases hs:J0 m.2 i.toNat
   ·obtain ⟨e1,e2⟩:=hnew hs
    subst e1 e2
    have hsy:=hm.push hi hfr hs
    have hon:=H97 (fr:=fr) hm.mg hi
    have ih:=D71 hA hfr f _ _ hf' hsy hop' (fun k hk j hj=>by
     rw [hon,L07]
     rcases (hon k).1 hk with hk | rfl
     ·rcases hc k hk j hj with h | h
      ·exact .inl (.inl h)
      ·rcases (hmem j).1 h with h | h
       ·exact .inr (.inl h)
       ·exact .inl (.inr h)
     ·exact .inr (.inr hj))
    dsimp only at ih
    rw [hR'] at ih
    obtain ⟨a1,a2,a3,a4,a5⟩:=ih
    refine ⟨a1,a2,fun k hk=>a3 k ((hon k).2 (.inl hk)),fun k hk=>?_,fun P hP h1 h2 k hk=>?_⟩
    ·rcases (hmem k).1 hk with hk | rfl
     ·exact a4 k (List.mem_append_left _ hk)
     ·exact a3 _ ((hon _).2 (.inr rfl))
    ·have hPi:=h2 i hi0
     refine a5 P hP (fun k hk=>?_) (fun k hk=>?_) k hk
     ·rcases (hon k).1 hk with hk | rfl
      ·exact h1 k hk
      ·exact hPi
     ·rcases List.mem_append.1 hk with hk | hk
      ·exact h2 k ((hmem k).2 (.inl hk))
      ·exact hP i hPi k hk
   ·obtain ⟨e1,e2⟩:=hseen hs
    subst e1 e2
    have hoi:onM A m' i:=⟨hi,hs⟩
    have ih:=D71 hA hfr f _ _ hf' hm hop' (fun k hk j hj=>by
     rcases hc k hk j hj with h | h
     ·exact .inl h
     ·rcases (hmem j).1 h with h | rfl
      ·exact .inr h
      ·exact .inl hoi)
    dsimp only at ih
    rw [hR'] at ih
    obtain ⟨a1,a2,a3,a4,a5⟩:=ih
    refine ⟨a1,a2,a3,fun k hk=>?_,fun P hP h1 h2 k hk=>a5 P hP h1 (fun k hk=>h2 k ((hmem k).2 (.inl hk))) k hk⟩
    rcases (hmem k).1 hk with hk | rfl
    ·exact a4 k hk
    ·exact a3 _ hoi
def Shut (A:Auto) (s:Str) (p:Nat) (m:Mach):Prop:=∀k,onM A m k→∀j∈F32 A s p k,onM A m j
theorem H98 (hA:AG A) {p:Nat} {q fr:Int} (hfr:0≤fr) (hq:inA A q) {m:Mach} (hm:Sy A p m) (hc:Shut A s p m) :
  Sy A p (D31 A s p ⟨q,fr⟩ m)∧Shut A s p (D31 A s p ⟨q,fr⟩ m)∧(∀k,onM A m k→onM A (D31 A s p ⟨q,fr⟩ m) k)∧onM A (D31 A s p ⟨q,fr⟩ m) q ∧
   ∀P:Int→Prop,(∀k,P k→∀j∈F32 A s p k,P j)→(∀k,onM A m k→P k)→P q→∀k,onM A (D31 A s p ⟨q,fr⟩ m) k→P k:=by
 have hcn:=hm.mg.cnt
 obtain ⟨a1,a2,a3,a4,a5⟩:=D71 (s:=s) hA hfr (3*A.States.length+2) [q] m (by unfold muA;simp only [List.length_singleton];omega) hm (fun k hk=>by rw [List.mem_singleton.1 hk];exact hq) (fun k hk j hj=>.inl (hc k hk j hj))
 exact ⟨a1,a2,a3,a4 q (by simp),fun P hP h1 h2=>a5 P hP h1 fun k hk=>by rw [List.mem_singleton.1 hk];exact h2⟩
theorem C87 (hA:AG A) {p c:Nat}:∀(th:List Thread) (m:Mach),(∀t∈th,inA A t.state∧0≤t.from_)→Sy A p m→Shut A s p m →
  let R:=B03 A s p c th m
  Sy A p R∧Shut A s p R∧(∀k,onM A m k→onM A R k)∧(∀t∈th,(T3 A t.state).Kind=0→x5 (T3 A t.state).Set c=1→onM A R (T3 A t.state).Next) ∧
   ∀P:Int→Prop,(∀k,P k→∀j∈F32 A s p k,P j)→(∀k,onM A m k→P k)→(∀t∈th,(T3 A t.state).Kind=0→x5 (T3 A t.state).Set c=1→P (T3 A t.state).Next)→∀k,onM A R k→P k
 | [],m,_,hm,hc=>⟨hm,hc,fun _ h=>h,(fun t ht=>by cases ht),fun P _ h1 _ k hk=>h1 k hk⟩
 | t::r,m,ht,hm,hc=>by
  dsimp only
  rw [B03]
  have htr:∀x∈r,inA A x.state∧0≤x.from_:=fun x hx=>ht x (List.mem_cons_of_mem _ hx)
  obtain ⟨ht1,ht2⟩:=ht t (List.mem_cons_self ..)
  by_cases hk:(T3 A t.state).Kind=0∧x5 (T3 A t.state).Set c=1
  ·rw [if_pos hk]
   have hn:inA A (T3 A t.state).Next:=by have:=x6 (B25 hA ht1);have:=hk.1;unfold inA;omega
   obtain ⟨a1,a2,a3,a4,a5⟩:=H98 hA (q:=(T3 A t.state).Next) ht2 hn hm hc
   obtain ⟨b1,b2,b3,b4,b5⟩:=C87 hA r _ htr a1 a2
   refine ⟨b1,b2,fun k h=>b3 k (a3 k h),fun x hx h1 h2=>?_,fun P hP h1 h2 k h3=>?_⟩
   ·rcases List.mem_cons.1 hx with rfl | hx
    ·exact b3 _ a4
    ·exact b4 x hx h1 h2
   ·exact b5 P hP (a5 P hP h1 (h2 t (List.mem_cons_self ..) hk.1 hk.2)) (fun x hx=>h2 x (List.mem_cons_of_mem _ hx)) k h3
  ·rw [if_neg hk]
   obtain ⟨b1,b2,b3,b4,b5⟩:=C87 hA r _ htr hm hc
   refine ⟨b1,b2,b3,fun x hx h1 h2=>?_,fun P hP h1 h2 k h3=>b5 P hP h1 (fun x hx=>h2 x (List.mem_cons_of_mem _ hx)) k h3⟩
   rcases List.mem_cons.1 hx with rfl | hx
   ·exact absurd ⟨h1,h2⟩ hk
   ·exact b4 x hx h1 h2
theorem Sy.first (A:Auto) (p:Nat):Sy A p ([],List.replicate A.States.length false) where
 mg:=MG.first A
 fr:=fun _ h=>by cases h
 sync:=fun k=>by
  constructor
  ·rintro ⟨h1,h2⟩
   unfold J0 at h2
   rw [List.getElem?_replicate] at h2
   split at h2<;>cases h2
  ·rintro ⟨_,h,_⟩;cases h
theorem B62 (A:Auto) (k:Int):¬onM A ([],List.replicate A.States.length false) k:=fun h=>by
 obtain ⟨_,h,_⟩:=((Sy.first A 0).sync k).1 h
 cases h
theorem G89 {m:Mach} (h:∀t∈m.1,0≤t.from_):0≤Q9 A m.1↔∃t∈m.1,(T3 A t.state).Kind=4:=by
 obtain ⟨th,sn⟩:=m
 dsimp only at h ⊢
 induction th with
 | nil=>simp [Q9]
 | cons t r ih =>
  unfold Q9
  split
  ·rename_i hk;exact ⟨fun _=>⟨t,List.mem_cons_self ..,hk⟩,fun _=>h t (List.mem_cons_self ..)⟩
  ·rename_i hk
   rw [ih fun x hx=>h x (List.mem_cons_of_mem _ hx)]
   constructor
   ·rintro ⟨x,hx,e⟩;exact ⟨x,List.mem_cons_of_mem _ hx,e⟩
   ·rintro ⟨x,hx,e⟩
    rcases List.mem_cons.1 hx with rfl | hx
    ·exact absurd e hk
    ·exact ⟨x,hx,e⟩
theorem ite_snd {α:Type} {c:Prop} [Decidable c] {x y:α × Bool} (hx:x.2=true) (hy:y.2=true):(if c then x else y).2=true:=by split<;>assumption
theorem E21:∀(f a:Nat) (m:Mach) (b:Int × Int),(B04 A s f a m b true).2=true
 | 0,_,_,_=>rfl
 | f+1,a,m,b=>by
  rw [B04]
  (try dsimp only)
  have e:(if 0≤Q9 A (if true=true then m else D31 A s a ⟨A.Start,a⟩ m).1 then true else true)=true:=ite_self _
  rw [e]
  exact ite_snd rfl (E21 f _ _ _)
structure NI (A:Auto) (s:Str) (a:Nat) (m:Mach):Prop where
 sy:Sy A a m
 shut:Shut A s a m
 sound:∀k,onM A m k→Run A s k a
 all:∀p k,p+1=a→Run A s k p→reads A s p k→onM A m (T3 A k).Next
 no:∀p k,p < a→Run A s k p→(T3 A k).Kind≠4
theorem F33 (hA:AG A):∀(f a:Nat) (m:Mach) (b:Int × Int),f=s.length+1 - a→a≤s.length→NI A s a m→((B04 A s f a m b false).2=true↔∃k p,Run A s k p∧(T3 A k).Kind=4)
 | 0,a,m,b,hf,ha,_=>by omega
 | f + 1,a,m,b,hf,ha,h=>by
  obtain ⟨a1,a2,a3,a4,a5⟩:=H98 (s:=s) hA (q:=A.Start) (fr:=(a:Int)) (by omega) hA.start h.sy h.shut
  obtain ⟨m1,hm1⟩:∃m1,m1=D31 A s a ⟨A.Start,a⟩ m:=⟨_,rfl⟩
  rw [←hm1] at a1 a2 a3 a4 a5
  have hon:∀k,onM A m1 k↔Run A s k a:=fun k=>by
   constructor
   ·exact a5 (fun k=>Run A s k a) (fun k hk j hj=>.eps hk hj) h.sound (.start ha) k
   ·have key:∀k p,Run A s k p→p=a→onM A m1 k:=fun k p hr=>by
     induction hr with
     | start _=>exact fun _=>a4
     | eps _ hj ih=>intro e;subst e;exact a2 _ (ih rfl) _ hj
     | read hr' _ hrd _=>intro e;exact a3 _ (h.all _ _ e hr' hrd)
    exact fun hr=>key k a hr rfl
  have hacc:0≤Q9 A m1.1↔∃k,Run A s k a∧(T3 A k).Kind=4:=by
   rw [G89 a1.fr]
   constructor
   ·rintro ⟨t,ht,e⟩;exact ⟨t.state,(hon _).1 ((a1.sync _).2 ⟨t,ht,rfl⟩),e⟩
   ·rintro ⟨k,hr,e⟩
    obtain ⟨t,ht,rfl⟩:=(a1.sync k).1 ((hon k).2 hr)
    exact ⟨t,ht,e⟩
  rw [B04]
  (try dsimp only)
  rw [if_neg (show ¬false=true by decide),←hm1]
  by_cases hac:0≤Q9 A m1.1
  ·rw [if_pos hac,if_pos hac,if_pos hac]
   obtain ⟨k,hr,e⟩:=hacc.1 hac
   refine ⟨fun _=>⟨k,a,hr,e⟩,fun _=>?_⟩
   split
   ·rfl
   ·exact E21 _ _ _ _
  ·rw [if_neg hac,if_neg hac,if_neg hac]
   have hno:∀p k,p≤a→Run A s k p→(T3 A k).Kind≠4:=fun p k hp hr e=>by
    rcases Nat.lt_or_ge p a with h1 | h1
    ·exact h.no p k h1 hr e
    ·obtain rfl:p=a:=by omega
     exact hac (hacc.2 ⟨k,hr,e⟩)
   by_cases hal:a=s.length
   ·rw [if_pos (.inl hal)]
    refine ⟨(fun h=>by cases h),fun ⟨k,p,hr,e⟩=>?_⟩
    have:=(hr.in_ hA).2
    exact absurd e (hno p k (by omega) hr)
   ·rw [if_neg (fun h=>h.elim hal fun h=>by cases h.1)]
    obtain ⟨b1,b2,b3,b4,b5⟩:=C87 (s:=s) hA (p:=a+1) (c:=(s.getD a 0).toNat) m1.1 ([],List.replicate A.States.length false) (fun t ht=>⟨a1.mg.st t ht,a1.fr t ht⟩) (Sy.first A _) (fun k hk=>absurd hk (B62 A k))
    refine F33 hA f (a+1) _ b (by omega) (by omega) ⟨b1,b2,?_,?_,fun p k hp hr=>hno p k (by omega) hr⟩
    ·refine b5 (fun k=>Run A s k (a+1)) (fun k hk j hj=>.eps hk hj) (fun k hk=>absurd hk (B62 A k)) fun t ht h1 h2=>?_
     exact .read ((hon _).1 ((a1.sync _).2 ⟨t,ht,rfl⟩)) (by omega) ⟨h1,h2⟩
    ·intro p k hp hr hrd
     obtain rfl:p=a:=by omega
     obtain ⟨t,ht,rfl⟩:=(a1.sync k).1 ((hon k).2 hr)
     exact b4 t ht hrd.1 hrd.2
theorem H99 (hA:AG A):(B24 A s 0).2=true↔∃k p,Run A s k p∧(T3 A k).Kind=4:=by
 unfold B24
 exact F33 hA _ 0 _ _ rfl (Nat.zero_le _) ⟨Sy.first A 0,fun k hk=>absurd hk (B62 A k),fun k hk=>absurd hk (B62 A k),fun p k h=>by omega,fun p k h=>by omega⟩
end
end Go.AL
namespace Go.AL
open Go
structure ChainA (A:Auto) (w:Str):Prop where
 ag:AG A
 start:A.Start=(w.length:Int)+2
 s0:(T3 A ((w.length:Int)+2)).Kind=2∧(T3 A ((w.length:Int)+2)).Next=(w.length:Int)+1
 lt:∀(j:Nat) (c:UInt8),w[j]?=some c→(T3 A ((w.length:Int)+1 - j)).Kind=0∧(T3 A ((w.length:Int)+1 - j)).Next=(w.length:Int) - j∧∀x:UInt8,x5 (T3 A ((w.length:Int)+1 - j)).Set x.toNat=1↔x=c
 en:(T3 A 1).Kind=3∧(T3 A 1).Next=0
 ac:(T3 A 0).Kind=4
theorem I00 {A:Auto} (h:G86 A=0):AG A:=by
 unfold G86 at h
 split at h
 ·cases h
 ·split at h
  ·rename_i h1 h2
   exact ⟨by omega,by omega,List.all_eq_true.1 h2⟩
  ·cases h
theorem I96 {q:State} {b e:Bool} {j:Int} (h:j∈U7 q b e):(q.Kind=1)∨(q.Kind=2∧b=true∧j=q.Next)∨(q.Kind=3∧e=true∧j=q.Next):=by
 unfold U7 at h
 split at h
 ·rename_i hk;exact .inl hk
 split at h
 ·rename_i hk
  split at h
  ·rename_i hb;exact .inr (.inl ⟨hk,hb,List.mem_singleton.1 h⟩)
  ·cases h
 split at h
 ·rename_i hk
  split at h
  ·rename_i hb;exact .inr (.inr ⟨hk,hb,List.mem_singleton.1 h⟩)
  ·cases h
 ·cases h
theorem I97 (h:Str→Bool) (l:List Str):(t6 h l).length=l.countP fun s=>h (f0 s):=by
 unfold t6
 rw [←List.countP_eq_length_filter,List.countP_map];rfl
theorem G20 (x:List Str):sub x 0 x.length=x:=by unfold sub;simp
end Go.AL
namespace Go.AL
open Go
theorem K08 {A:Auto} (hA:AG A) (h4:(T3 A A.Start).Kind=4) (t:Str):(B24 A t 0).2=true:=(H99 hA).2 ⟨A.Start,0,.start (Nat.zero_le _),h4⟩
theorem G90 (b:Str):(F1 b).flatten=b:=by unfold F1;rw [F18];rfl
theorem K09 {a b:Str} (h:F1 a=F1 b):a=b:=by rw [←G90 a,h,G90]
theorem I01 {x y:List Str} (hx:x.length≤4096) (hy:y.length≤4096) {c:Change} (hc:c∈A82 x y):Y8 x y c≠[]:=by
 have hf:=F17 x y hx hy
 obtain ⟨k,hk,rfl⟩:=List.getElem_of_mem hc
 have hg:=A17 x.length y.length _ 0 0 0 hf.sc k hk
 have hb:=(G18 x y).2 _ (K85 hk)
 have e:cAt (A46 x y) k=(A82 x y)[k]:=by
  unfold cAt
  show (A82 x y).getD k _=_
  rw [K88,K82 hk];rfl
 rw [e] at hg
 obtain ⟨b1,b2,b3,b4,b5,b6⟩:=hb
 obtain ⟨c',hc'⟩:∃c',c'=(A82 x y)[k]:=⟨_,rfl⟩
 rw [←hc'] at hg b1 b2 b3 b4 b5 b6 ⊢
 have l1:=x1 x (a:=c'.Old) (b:=c'.Old+c'.OldLen) b1 (by omega) b5
 have l2:=x1 y (a:=c'.New) (b:=c'.New+c'.NewLen) b2 (by omega) b6
 intro h0
 have h1:sub x c'.Old (c'.Old+c'.OldLen)++sub y c'.New (c'.New+c'.NewLen)=[]:=h0
 rw [List.append_eq_nil_iff] at h1
 rw [h1.1] at l1
 rw [h1.2] at l2
 simp only [K90] at l1 l2
 omega
theorem K10 {h:Str→Bool} (hh:∀t,h t=true) {a b:Str} (ha:(F1 a).length≤4096) (hb:(F1 b).length≤4096):decide (0 < (y6 h a b).length)=decide (a≠b):=by
 rw [decide_eq_decide]
 unfold y6
 constructor
 ·intro hl e
  subst e
  rw [show A82 (F1 a) (F1 a)=[] from H84 (F1 a)] at hl
  simp [V6] at hl
 ·intro hne
  cases hs:A82 (F1 a) (F1 b) with
  | nil =>
   exfalso
   have hf:=(F17 (F1 a) (F1 b) ha hb).eq
   rw [show A46 (F1 a) (F1 b)=[] from hs] at hf
   have hf:sub (F1 a) 0 (F1 a).length=sub (F1 b) 0 (F1 b).length:=hf
   rw [G20,G20] at hf
   exact hne (K09 hf)
  | cons c r =>
   have hp:=I01 ha hb (c:=c) (by rw [hs];simp)
   unfold V6
   rw [List.flatMap_cons,K86]
   have:0 < (t6 h (Y8 (F1 a) (F1 b) c)).length:=by
    rw [I97,List.countP_eq_length.2 (fun s _=>hh _)]
    exact List.length_pos_iff.2 hp
   omega
abbrev A18 (z:Set4):Auto:=⟨[⟨4,set0,0,0⟩,⟨0,z,0,0⟩],1⟩
theorem I02 {z:Set4} (hz:((List.range 256).all fun x=>!decide (x5 z x=1)||decide (48≤x∧x≤57))=true) {t:Str} (ht:NoDig t):(B24 (A18 z) t 0).2=false:=by
 have hA:AG (A18 z):=I00 (by rfl)
 cases hf:(B24 (A18 z) t 0).2
 ·rfl
 obtain ⟨k,p,hr,hk⟩:=(H99 hA).1 hf
 have key:∀k p,Run (A18 z) t k p→k=1:=by
  intro k p hr
  induction hr with
  | start _=>rfl
  | eps _ hj ih =>
   subst ih
   rcases I96 hj with h1 | ⟨h1,_⟩ | ⟨h1,_⟩<;>cases h1
  | @read k p hr hp hrd ih =>
   subst ih
   exfalso
   have h2:x5 z (t.getD p 0).toNat=1:=hrd.2
   have h3:=List.all_eq_true.1 hz (t.getD p 0).toNat (List.mem_range.2 (t.getD p 0).toNat_lt)
   rw [decide_eq_true h2,Bool.not_true,Bool.false_or,decide_eq_true_eq] at h3
   have h4:=ht (t.getD p 0) (by rw [K88,K82 hp];exact K85 hp)
   omega
 rw [key k p hr] at hk
 cases hk
theorem I03 {b:Str} (h:NoDig b) {s:Str} (hs:s∈F1 b):NoDig (f0 s):=h.sub fun c hc=>by
 rw [←G90 b]
 refine List.mem_flatten.2 ⟨s,hs,?_⟩
 unfold f0 at hc
 split at hc
 ·exact List.dropLast_subset _ hc
 ·exact hc
theorem K54 {h:Str→Bool} {a b:Str} (ha:∀s∈F1 a,h (f0 s)=false) (hb:∀s∈F1 b,h (f0 s)=false):y6 h a b=[]:=by
 unfold y6 V6
 rw [List.flatMap_eq_nil_iff]
 intro c _
 unfold t6
 rw [List.filter_eq_nil_iff]
 intro t ht
 obtain ⟨s,hs,rfl⟩:=List.mem_map.1 ht
 rcases E17 hs with hs | hs
 ·rw [ha s hs];decide
 ·rw [hb s hs];decide
theorem F63 {f f':Str × Str→Bool} {g:Graph} {c:Nat} (h:∀x∈(M8 g c).flatten,f x=f' x):T0 f g c=T0 f' g c:=by
 unfold T0
 exact B61 fun l hl=>B61 fun x hx=>h x (List.mem_flatten.2 ⟨l,hl,hx⟩)
theorem F64 {f f':Str × Str→Bool} {g:Graph} (h:∀c,∀x∈(M8 g c).flatten,f x=f' x) (s:Int):L5 f g s=L5 f' g s:=by
 unfold L5
 split
 ·rfl
 ·congr 1
  exact List.filter_congr fun c _=>F63 (h c.toNat)
theorem I04 {f:Str × Str→Bool} {g:Graph} (h:∀c,∀x∈(M8 g c).flatten,f x=false) (s:Int):(L5 f g s).1=[]:=by
 unfold L5
 split
 ·rfl
 ·rw [List.filter_eq_nil_iff]
  intro c _ ha
  unfold T0 at ha
  obtain ⟨l,hl,h2⟩:=List.any_eq_true.1 ha
  obtain ⟨x,hx,h3⟩:=List.any_eq_true.1 h2
  rw [h c.toNat x (List.mem_flatten.2 ⟨l,hl,hx⟩)] at h3
  cases h3
theorem G21 {l:List File} (h:∀f∈l,NoDig f.Blob) (p:Str):NoDig (N3 l p):=by
 unfold N3
 cases hf:I5 l p with
 | none=>exact fun c hc=>by cases hc
 | some x =>
  obtain ⟨y,hy,_,rfl⟩:=A06 hf
  exact h y hy
theorem G22 {g:Graph} (h:GV g) (c:Nat):∀f∈L1 g c,NoDig f.Blob:=by
 unfold L1
 by_cases hc:c < g.length
 ·rw [K82 hc]
  exact (h.files _ (K85 hc)).1.dig
 ·rw [K98 (by omega)];exact fun x hx=>by cases hx
theorem K11 {g:Graph} (h:GV g) {c:Nat} {x:Str × Str} (hx:x∈(M8 g c).flatten):NoDig x.1∧NoDig x.2:=by
 obtain ⟨l,hl,hxl⟩:=List.mem_flatten.1 hx
 obtain ⟨t,ht,rfl⟩:=List.mem_map.1 hl
 obtain ⟨d,_,rfl⟩:=List.mem_map.1 hxl
 refine ⟨G21 ?_ _,G21 (G22 h c) _⟩
 unfold L9 at ht
 split at ht
 ·rw [List.mem_singleton.1 ht];exact fun f hf=>by cases hf
 ·obtain ⟨p,_,rfl⟩:=List.mem_map.1 ht
  exact G22 h _
end Go.AL
