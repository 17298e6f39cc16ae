/- Plain facts about data; no project text. -/
import Derived.Test.YtgppobpengmbkaaGreatDoorD
import Derived.Lib.Strings
import Derived.Lib.Bytealg
import Derived.Lib.Join
import Derived.Lib.ItoaNum
import Derived.Test.YtgppobpengmbkaaGreatDoorAn
import Derived.Lib.IndexMore
set_option linter.unusedSimpArgs false
namespace Go.AL
open Go
theorem u8_lf (c:UInt8):((c.toNat:Int)=10)↔c=10:=by
 constructor
 ·intro h
  have:c.toNat=10:=by omega
  exact UInt8.toNat_inj.1 (by simpa using this)
 ·rintro rfl;rfl
def J8 (cur:Str):Str→List Str
 | []=>if cur=[] then [] else [cur]
 | c::r=>if c=10 then (cur++[c])::J8 [] r else J8 (cur++[c]) r
def K3 (b:Str):List Str:=J8 [] b
theorem B09 (cur:Str) (s:Str):(J8 cur s).length≤s.length+1:=by
 induction s generalizing cur with
 | nil=>unfold J8;split<;>simp
 | cons c r ih=>unfold J8;split<;>simp<;>(have:=ih [];have:=ih (cur++[c]);omega)
theorem B76 (s:Str):(J8 [] s).length≤s.length:=by
 have key:∀(s cur:Str),cur≠[]→(J8 cur s).length≤s.length+1:=fun s cur _=>B09 cur s
 induction s with
 | nil=>simp [J8]
 | cons c r ih=>unfold J8;split<;>simp<;>(have:=B09 ([]++[c]) r;simp at this;omega)
theorem B41 (b:Str):(K3 b).length≤b.length:=B76 b
theorem B91 (cur r:Str) (c:UInt8):J8 cur (c::r)=if c=10 then (cur++[c])::J8 [] r else J8 (cur++[c]) r:=rfl
theorem F44 (cur:Str) (h:cur≠[]):J8 cur []=[cur]:=by simp [J8,h]
theorem or_pick {p q:Prop} [Decidable p] [Decidable q]:(if decide p=true then true else decide q)=decide (p∨q):=by by_cases p<;>simp [*]
theorem and_pick {p q:Prop} [Decidable p] [Decidable q]:(if decide p=true then decide q else false)=decide (p∧q):=by by_cases p<;>simp [*]
theorem A28 {α:Type} (l:List (List α)) (i:Nat) (h:i < l.length):(l.take (i+1)).flatten=(l.take i).flatten++l[i]:=by
 rw [List.take_add_one,J15 h,Option.toList_some,J51];simp
theorem B10 {α:Type} (l:List (List α)) (i:Nat):(l.take i).flatten.length≤l.flatten.length:=by
 conv=>rhs;rw [←J53 i l,J51,J20]
 omega
theorem H20 (i:Nat):((i:Int)+1).toNat=i+1:=by omega
theorem E87 {α:Type} (b:List α) (f i:Nat) (hf:f≤i) (hi:i < b.length):(b.drop f).take (i - f)++[b[i]]=(b.drop f).take (i+1 - f):=by
 rw [show i+1 - f=(i - f)+1 by omega,List.take_add_one,J55,show f+(i - f)=i by omega,J15 hi]
 rfl
def ended (s:Str):Bool:=s.getLast? == some 10
def Q5:List Str→Str→Int→Int
 | [],_,_ => -1
 | x::r,s,i=>if x=s then i else Q5 r s (i+1)
def f0 (s:Str):Bool:=s.dropLast.all (·≠10)&&s != []
def Q6 (b:Str):Int:=if b.length > 1048576∨(K3 b).length > 4096 then 1 else 0
def O9 (out:List Str) (s:Str):List Str:=if s∈out then out else out++[s]
def N5 (files:List (List Str)):List Str:=files.flatten.foldl O9 []
def x6 (names:List Str) (file:List Str):List Int:=file.map (fun s=>Q5 names s 0)
theorem C86 (out:List Str) (s:Str):(O9 out s).length≤out.length+1:=by unfold O9;split<;>simp
theorem C12 (l out:List Str):(l.foldl O9 out).length≤out.length+l.length:=by
 induction l generalizing out with
 | nil=>simp
 | cons s r ih=>have h1:=ih (O9 out s);have h2:=C86 out s;simp only [J43,J19];omega
theorem E09 (fs:List (List Str)):(N5 fs).length≤fs.flatten.length:=by have:=C12 fs.flatten [];simpa [N5] using this
end Go.AL
namespace Go.AL
open Go
structure File where
 Path:Str
 Blob:Str
 deriving DecidableEq
structure Delta where
 Path:Str
 Kind:Int
 deriving DecidableEq
structure Commit where
 Parents:List Int
 Date:Int
 Files:List File
 deriving DecidableEq
def R9:File→Nat→Cell:=fun f j=>match j with
 | 0=>.v (.string ⟨f.Path.toArray⟩)
 | _=>.v (.string ⟨f.Blob.toArray⟩)
def A89:Delta→Nat→Cell:=fun d j=>match j with
 | 0=>.v (.string ⟨d.Path.toArray⟩)
 | _=>.v (.int .i64 d.Kind)
def G1:Commit→Nat→Cell:=fun c j=>match j with
 | 0=>.list Int 1 E3 c.Parents
 | 1=>.v (.int .i64 c.Date)
 | _=>.list File 2 R9 c.Files
abbrev l8:List File→Nat→Cell:=fun l _=>.list File 2 R9 l
abbrev l9:List Delta→Nat→Cell:=fun l _=>.list Delta 2 A89 l
abbrev H58 (f:File):PV:=.agg [.v (.string ⟨f.Path.toArray⟩),.v (.string ⟨f.Blob.toArray⟩)]
abbrev pDelta (d:Delta):PV:=.agg [.v (.string ⟨d.Path.toArray⟩),.v (.int .i64 d.Kind)]
abbrev C45 (c:Commit):PV:=.agg [.list Int 1 E3 c.Parents,.v (.int .i64 c.Date),.list File 2 R9 c.Files]
abbrev T9 (l:List File):PV:=.one (.list File 2 R9 l)
abbrev F45 (l:List Delta):PV:=.one (.list Delta 2 A89 l)
abbrev I7 (l:List Commit):PV:=.one (.list Commit 3 G1 l)
abbrev B66 (l:List (List File)):PV:=.one (.list (List File) 1 l8 l)
theorem n6 (a b:Bool):(if a=true then b else false)=(a&&b):=by cases a<;>rfl
theorem F46 (a b:Bool):(if a=true then true else b)=(a||b):=by cases a<;>rfl
abbrev ltS (a b:Str):Bool:=Op.bytesLess a b
theorem H59 (a:Str):ltS a []=false:=by cases a<;>rfl
theorem A70 (a b:UInt8) (x y:Str):ltS (a::x) (b::y)=(decide (a < b)||(a == b&&ltS x y)):=rfl
theorem Y5:∀a:Str,ltS a a=false
 | []=>rfl
 | c::r=>by
  rw [A70,Y5 r]
  have:¬c < c:=by rw [UInt8.lt_iff_toNat_lt];omega
  simp [this]
theorem o9:∀{a b c:Str},ltS a b=true→ltS b c=true→ltS a c=true
 | _,[],_,h,_=>by rw [H59] at h;cases h
 | _,_::_,[],_,h=>by rw [H59] at h;cases h
 | [],_::_,_::_,_,_=>rfl
 | a::x,b::y,c::z,h1,h2=>by
  rw [A70,J35,J16,decide_eq_true_eq,UInt8.lt_iff_toNat_lt,beq_iff_eq] at h1 h2
  rw [A70,J35,J16,decide_eq_true_eq,UInt8.lt_iff_toNat_lt,beq_iff_eq]
  rcases h1 with h1 | ⟨rfl,h1⟩
  ·rcases h2 with h2 | ⟨rfl,h2⟩
   ·left;omega
   ·left;omega
  ·rcases h2 with h2 | ⟨rfl,h2⟩
   ·left;omega
   ·right;exact ⟨rfl,o9 h1 h2⟩
theorem B67:∀{a b:Str},ltS a b=false→ltS b a=false→a=b
 | [],[],_,_=>rfl
 | [],_::_,h,_=>by cases h
 | _::_,[],_,h=>by cases h
 | a::x,b::y,h1,h2=>by
  rw [A70,J45,decide_eq_false_iff_not,UInt8.lt_iff_toNat_lt] at h1 h2
  have e:a=b:=UInt8.toNat_inj.1 (by omega)
  subst e
  simp only [beq_self_eq_true,Bool.true_and] at h1 h2
  rw [B67 h1.2 h2.2]
theorem I27 {a b:Str} (h:ltS a b=true):ltS b a=false:=by
 cases h2:ltS b a
 ·rfl
 ·have:=o9 h h2;rw [Y5] at this;cases this
theorem H60:∀(a:Str) (c:UInt8) (t:Str),ltS a (a++c::t)=true
 | [],_,_=>rfl
 | x::r,c,t=>by rw [J37,A70,H60 r c t];simp
def O4 (s:Str):Bool:=decide (s≠[]∧s≠[46]∧s≠[46,46])
def J9 (cur:Str):Str→List Str
 | []=>[cur]
 | c::r=>if c=47 then cur::J9 [] r else J9 (cur++[c]) r
def A50 (cur:Str):Str→Bool
 | []=>O4 cur
 | c::r=>if c=0 then false else if c=47 then O4 cur&&A50 [] r else A50 (cur++[c]) r
def L4 (p:Str):Int:=if p.length < 1∨p.length > 200∨A50 [] p=false then 210 else 0
theorem C13:∀(s cur:Str),A50 cur s=(!s.contains 0&&(J9 cur s).all O4)
 | [],cur=>by simp [A50,J9]
 | c::r,cur=>by
  rw [A50,J9]
  by_cases h0:c=0
  ·subst h0;simp
  ·rw [if_neg h0]
   have hc:(c::r).contains 0=r.contains 0:=by
    rw [List.contains_cons]
    have:((0:UInt8) == c)=false:=by simpa using fun e=>h0 e.symm
    rw [this,Bool.false_or]
   rw [hc]
   split
   ·rw [C13 r [],List.all_cons]
    cases O4 cur<;>cases r.contains 0<;>rfl
   ·rw [C13 r]
theorem F47 (p:Str):L4 p=if p.length > 200∨p.contains 0=true then 210 else if (J9 [] p).all O4=true then 0 else 210:=by
 unfold L4
 rw [C13]
 by_cases h1:p.length > 200
 ·rw [if_pos (.inr (.inl h1)),if_pos (.inl h1)]
 ·cases h2:p.contains 0
  ·rw [if_neg (show ¬(p.length > 200∨false=true) by simp [h1])]
   cases h3:(J9 [] p).all O4
   ·simp
   ·have:¬p.length < 1:=by
     intro h
     have:p=[]:=List.length_eq_zero_iff.1 (by omega)
     subst this
     simp [J9,O4] at h3
    rw [if_neg (fun h=>by
     rcases h with h | h | h
     ·exact this h
     ·exact h1 h
     ·cases h)];rfl
  ·rw [if_pos (show p.length > 200∨true=true from .inr rfl),if_pos (.inr (.inr (by simp)))]
def above (a b:Str):Bool:=decide (b.length > a.length∧b.take a.length=a∧b[a.length]?=some 47)
theorem I81 {a b:Str} (h:above a b=true):ltS a b=true:=by
 obtain ⟨h1,h2,h3⟩:=A0 h
 have e:b=a++47::b.drop (a.length+1):=by
  conv=>lhs;rw [←J53 a.length b,h2]
  rw [J24 h1]
  rw [J15 h1] at h3
  rw [Option.some.inj h3]
 rw [e];exact H60 _ _ _
def M2:List File→Bool
 | []=>true
 | f::r=>r.all (fun x=>ltS f.Path x.Path&&!above f.Path x.Path)&&M2 r
def F5 (l:List File):Int:=if l.length > 200 then 1 else if l.any (fun f=>decide (L4 f.Path≠0))=true then 210 else if M2 l=false then 211 else if l.any (fun f=>decide (Q6 f.Blob≠0))=true then 1 else 0
def Q1 (p:Str) (ps:List Str):Bool:=(List.range p.length).any fun i=>decide (p.take i∈ps)&&decide (p[i]?=some 47)
def ascend:List File→Bool
 | []=>true
 | [_]=>true
 | f::g::r=>ltS f.Path g.Path&&ascend (g::r)
def t8 (l:List File):Bool:=ascend l&&l.all fun f=>!Q1 f.Path (l.map (·.Path))
theorem E10 (p:Str) (ps:List Str):Q1 p ps=true↔∃a∈ps,above a p=true:=by
 unfold Q1
 rw [List.any_eq_true]
 constructor
 ·rintro ⟨i,hi,h⟩
  rw [J16,decide_eq_true_eq,decide_eq_true_eq] at h
  have hlt:i < p.length:=List.mem_range.1 hi
  have hl:(p.take i).length=i:=by rw [J25];omega
  exact ⟨_,h.1,decide_eq_true ⟨by rw [hl];exact hlt,by rw [hl],by rw [hl];exact h.2⟩⟩
 ·rintro ⟨a,ha,h⟩
  obtain ⟨h1,h2,h3⟩:=A0 h
  exact ⟨a.length,List.mem_range.2 h1,by rw [J16,decide_eq_true_eq,decide_eq_true_eq,h2];exact ⟨ha,h3⟩⟩
theorem j5:∀{f:File} {r:List File},ascend (f::r)=true→∀x∈r,ltS f.Path x.Path=true
 | _,[],_,_,hx=>by cases hx
 | f,g::r,h,x,hx=>by
  unfold ascend at h
  rw [J16] at h
  rcases List.mem_cons.1 hx with rfl | hx
  ·exact h.1
  ·exact o9 h.1 (j5 h.2 x hx)
theorem A29 {f:File} {r:List File} (h:ascend (f::r)=true):ascend r=true:=by
 cases r with
 | nil=>rfl
 | cons g r=>unfold ascend at h;rw [J16] at h;exact h.2
theorem m3:∀{l:List File},M2 l=true→ascend l=true
 | [],_=>rfl
 | [_],_=>rfl
 | f::g::r,h=>by
  unfold M2 at h
  rw [J16,List.all_eq_true] at h
  have h1:=h.1 g (by simp)
  rw [J16] at h1
  unfold ascend
  rw [h1.1,m3 h.2];rfl
theorem B92:∀{l:List File},M2 l=true→∀x∈l,∀y∈l,above x.Path y.Path=false
 | [],_,x,hx,_,_=>by cases hx
 | f::r,h,x,hx,y,hy=>by
  have ha:=m3 h
  unfold M2 at h
  rw [J16,List.all_eq_true] at h
  cases hab:above x.Path y.Path
  ·rfl
  have hlt:=I81 hab
  rcases List.mem_cons.1 hx with rfl | hx0
  ·rcases List.mem_cons.1 hy with rfl | hy
   ·rw [Y5] at hlt;cases hlt
   ·have:=h.1 y hy;rw [hab,Bool.not_true,Bool.and_false] at this;cases this
  ·have hx2:=hx0
   rcases List.mem_cons.1 hy with hyf | hy2
   ·have:=j5 ha x hx2;rw [←hyf,I27 hlt] at this;cases this
   ·rw [B92 h.2 x hx2 y hy2] at hab;cases hab
theorem C14:∀{l:List File},ascend l=true→(∀x∈l,∀y∈l,above x.Path y.Path=false)→M2 l=true
 | [],_,_=>rfl
 | f::r,h,ha=>by
  unfold M2
  rw [J16,List.all_eq_true]
  refine ⟨fun x hx=>?_,C14 (A29 h) fun x hx y hy=>ha x (by simp [hx]) y (by simp [hy])⟩
  rw [j5 h x hx,ha f (by simp) x (by simp [hx])];rfl
theorem H21 (l:List File):t8 l=M2 l:=by
 cases h:M2 l
 ·cases hp:t8 l
  ·rfl
  unfold t8 at hp
  rw [J16,List.all_eq_true] at hp
  have:M2 l=true:=C14 hp.1 fun x hx y hy=>by
   cases hab:above x.Path y.Path
   ·rfl
   have h1:=hp.2 y hy
   rw [(E10 _ _).2 ⟨x.Path,List.mem_map_of_mem hx,hab⟩] at h1;cases h1
  rw [this] at h;cases h
 ·unfold t8
  rw [J16,List.all_eq_true]
  refine ⟨m3 h,fun y hy=>?_⟩
  cases hn:Q1 y.Path (l.map (·.Path))
  ·rfl
  obtain ⟨a,ha,hab⟩:=(E10 _ _).1 hn
  obtain ⟨x,hx,rfl⟩:=List.mem_map.1 ha
  rw [B92 h x hx y hy] at hab;cases hab
def H8:List File→Str→Option Str
 | [],_=>none
 | f::r,p=>if f.Path=p then some f.Blob else H8 r p
def q9 (a:Str) (k:List Str→List Str):List Str→List Str
 | []=>a::k []
 | b::bs=>if ltS a b=true then a::k (b::bs) else if ltS b a=true then b::q9 a k bs else a::k bs
def x1:List Str→List Str→List Str
 | [],bs=>bs
 | a::as,bs=>q9 a (x1 as) bs
def y7 (a b:List File) (p:Str):Option Delta:=match H8 a p,H8 b p with
 | none,_=>some ⟨p,1⟩
 | some _,none=>some ⟨p,2⟩
 | some x,some y=>if x≠y then some ⟨p,3⟩ else none
def T0 (a b:List File):List Delta:=(x1 (a.map (·.Path)) (b.map (·.Path))).filterMap (y7 a b)
def A51 (b:List File) (f:File):Option Delta:=match H8 b f.Path with
 | none=>some ⟨f.Path,2⟩
 | some y=>if y≠f.Blob then some ⟨f.Path,3⟩ else none
def B77 (a:List File) (f:File):Option Delta:=match H8 a f.Path with
 | none=>some ⟨f.Path,1⟩
 | some _=>none
def r5 (a b:List File):List Delta:=a.filterMap (A51 b)++b.filterMap (B77 a)
def B78 (x:Delta):List Delta→List Delta
 | []=>[x]
 | y::r=>if ltS x.Path y.Path=true then y::B78 x r else x::y::r
def n7:List Delta→List Delta→List Delta
 | acc,[]=>acc
 | acc,x::r=>n7 (B78 x acc) r
def B93 (l:List Delta):List Delta:=(n7 [] l).reverse
def diffOf (a b:List File):List Delta:=B93 (r5 a b)
theorem C46 (x:Delta):∀(l:List Delta) (y:Delta),y∈B78 x l↔y=x∨y∈l
 | [],y=>by simp [B78]
 | z::r,y=>by
  unfold B78
  split
  ·rw [J44,C46 x r,J44]
   constructor
   ·rintro (h | h | h)
    ·exact .inr (.inl h)
    ·exact .inl h
    ·exact .inr (.inr h)
   ·rintro (h | h | h)
    ·exact .inr (.inl h)
    ·exact .inl h
    ·exact .inr (.inr h)
  ·rw [J44]
theorem D18 (x:Delta):∀l:List Delta,(B78 x l).length=l.length+1
 | []=>rfl
 | y::r=>by
  unfold B78
  split
  ·rw [J19,D18 x r,J19]
  ·rfl
theorem E88:∀(l acc:List Delta) (y:Delta),y∈n7 acc l↔y∈acc∨y∈l
 | [],acc,y=>by simp [n7]
 | x::r,acc,y=>by
  unfold n7
  rw [E88 r,C46,J44]
  constructor
  ·rintro ((h | h) | h)
   ·exact .inr (.inl h)
   ·exact .inl h
   ·exact .inr (.inr h)
  ·rintro (h | h | h)
   ·exact .inl (.inr h)
   ·exact .inl (.inl h)
   ·exact .inr h
abbrev G29 (l:List Delta):Prop:=l.Pairwise fun x y=>ltS y.Path x.Path=true
abbrev AscD (l:List Delta):Prop:=l.Pairwise fun x y=>ltS x.Path y.Path=true
theorem E89 {x:Delta}:∀{l:List Delta},G29 l→(∀y∈l,y.Path≠x.Path)→G29 (B78 x l)
 | [],_,_=>by simp [B78,G29]
 | y::r,h,hn=>by
  unfold B78
  have h1:=List.pairwise_cons.1 h
  split
  ·rename_i hlt
   refine List.pairwise_cons.2 ⟨fun z hz=>?_,E89 h1.2 fun z hz=>hn z (by simp [hz])⟩
   rcases (C46 x r z).1 hz with rfl | hz
   ·exact hlt
   ·exact h1.1 z hz
  ·rename_i hlt
   have hyx:ltS y.Path x.Path=true:=by
    cases hc:ltS y.Path x.Path
    ·exact absurd (B67 (by simpa using hlt) hc) fun e=>hn y (by simp) e.symm
    ·rfl
   refine List.pairwise_cons.2 ⟨fun z hz=>?_,h⟩
   rcases List.mem_cons.1 hz with rfl | hz
   ·exact hyx
   ·exact o9 (h1.1 z hz) hyx
theorem E11:∀(l acc:List Delta),G29 acc→(l.map (·.Path)).Nodup→(∀x∈l,∀y∈acc,y.Path≠x.Path)→G29 (n7 acc l)
 | [],acc,h,_,_=>h
 | x::r,acc,h,hn,hd=>by
  unfold n7
  rw [J33,List.nodup_cons] at hn
  refine E11 r _ (E89 h (hd x (by simp))) hn.2 fun z hz y hy=>?_
  rcases (C46 x acc y).1 hy with rfl | hy
  ·intro e;exact hn.1 (by rw [e];exact List.mem_map_of_mem hz)
  ·exact hd z (by simp [hz]) y hy
theorem I28 {l:List Delta} (h:(l.map (·.Path)).Nodup):AscD (B93 l):=by
 unfold B93 AscD
 rw [List.pairwise_reverse]
 exact E11 l [] List.Pairwise.nil h fun _ _ _ hy=>by cases hy
theorem I29 (l:List Delta) (y:Delta):y∈B93 l↔y∈l:=by
 unfold B93;rw [List.mem_reverse,E88];simp
theorem H61:∀{l m:List Delta},AscD l→AscD m→(∀y,y∈l↔y∈m)→l=m
 | [],[],_,_,_=>rfl
 | [],y::_,_,_,h=>by have:=(h y).2 (by simp);cases this
 | y::_,[],_,_,h=>by have:=(h y).1 (by simp);cases this
 | x::l,y::m,h1,h2,h=>by
  have a1:=List.pairwise_cons.1 h1
  have a2:=List.pairwise_cons.1 h2
  have e:x=y:=by
   rcases List.mem_cons.1 ((h x).1 (by simp)) with e | hx
   ·exact e
   rcases List.mem_cons.1 ((h y).2 (by simp)) with e | hy
   ·exact e.symm
   have:=o9 (a1.1 y hy) (a2.1 x hx)
   rw [Y5] at this;cases this
  subst e
  refine congrArg (x::·) (H61 a1.2 a2.2 fun z=>⟨fun hz=>?_,fun hz=>?_⟩)
  ·rcases List.mem_cons.1 ((h z).1 (by simp [hz])) with rfl | h3
   ·have:=a1.1 z hz;rw [Y5] at this;cases this
   ·exact h3
  ·rcases List.mem_cons.1 ((h z).2 (by simp [hz])) with rfl | h3
   ·have:=a2.1 z hz;rw [Y5] at this;cases this
   ·exact h3
abbrev E12 (l:List Str):Prop:=l.Pairwise fun x y=>ltS x y=true
theorem B42 {a:Str} {k:List Str→List Str} {as:List Str} (hk:∀bs p,p∈k bs↔p∈as∨p∈bs):∀(bs:List Str) (p:Str),p∈q9 a k bs↔p=a∨p∈as∨p∈bs
 | [],p=>by rw [q9,J44,hk]
 | b :: bs,p=>by
  rw [q9]
  split
  ·rw [J44,hk]
  ·split
   ·rw [J44,B42 hk bs p,J44]
    constructor
    ·rintro (h | h | h | h)
     ·exact .inr (.inr (.inl h))
     ·exact .inl h
     ·exact .inr (.inl h)
     ·exact .inr (.inr (.inr h))
    ·rintro (h | h | h | h)
     ·exact .inr (.inl h)
     ·exact .inr (.inr (.inl h))
     ·exact .inl h
     ·exact .inr (.inr (.inr h))
   ·rename_i h1 h2
    have e:a=b:=B67 (by simpa using h1) (by simpa using h2)
    subst e
    rw [J44,hk,J44]
    constructor
    ·rintro (h | h | h)
     ·exact .inl h
     ·exact .inr (.inl h)
     ·exact .inr (.inr (.inr h))
    ·rintro (h | h | h | h)
     ·exact .inl h
     ·exact .inr (.inl h)
     ·exact .inl h
     ·exact .inr (.inr h)
theorem g9:∀(as bs:List Str) (p:Str),p∈x1 as bs↔p∈as∨p∈bs
 | [],bs,p=>by simp [x1]
 | a::as,bs,p=>by
  rw [x1,B42 (fun bs p=>g9 as bs p) bs p,J44]
  constructor
  ·rintro (h | h | h)
   ·exact .inl (.inl h)
   ·exact .inl (.inr h)
   ·exact .inr h
  ·rintro ((h | h) | h)
   ·exact .inl h
   ·exact .inr (.inl h)
   ·exact .inr (.inr h)
theorem D19 {a:Str} {k:List Str→List Str} {as:List Str} (hk:∀bs p,p∈k bs↔p∈as∨p∈bs) (hka:∀bs,E12 bs→E12 (k bs)) (ha:∀x∈as,ltS a x=true):∀bs:List Str,E12 bs→E12 (q9 a k bs)
 | [],h=>by
  rw [q9]
  refine List.pairwise_cons.2 ⟨fun x hx=>?_,hka [] h⟩
  rcases (hk [] x).1 hx with hx | hx
  ·exact ha x hx
  ·cases hx
 | b::bs,h=>by
  have hb:=List.pairwise_cons.1 h
  rw [q9]
  split
  ·rename_i hlt
   refine List.pairwise_cons.2 ⟨fun x hx=>?_,hka _ h⟩
   rcases (hk _ x).1 hx with hx | hx
   ·exact ha x hx
   ·rcases List.mem_cons.1 hx with rfl | hx
    ·exact hlt
    ·exact o9 hlt (hb.1 x hx)
  ·split
   ·rename_i _ hlt
    refine List.pairwise_cons.2 ⟨fun x hx=>?_,D19 hk hka ha bs hb.2⟩
    rcases (B42 hk bs x).1 hx with rfl | hx | hx
    ·exact hlt
    ·exact o9 hlt (ha x hx)
    ·exact hb.1 x hx
   ·rename_i h1 h2
    have e:a=b:=B67 (by simpa using h1) (by simpa using h2)
    subst e
    refine List.pairwise_cons.2 ⟨fun x hx=>?_,hka _ hb.2⟩
    rcases (hk _ x).1 hx with hx | hx
    ·exact ha x hx
    ·exact hb.1 x hx
theorem E13:∀(as bs:List Str),E12 as→E12 bs→E12 (x1 as bs)
 | [],_,_,h=>h
 | _::as,bs,h1,h2=>by
  have ha:=List.pairwise_cons.1 h1
  exact D19 (fun bs p=>g9 as bs p) (fun bs hb=>E13 as bs ha.2 hb) ha.1 bs h2
theorem A12:∀{l:List File} {p x:Str},H8 l p=some x→∃f∈l,f.Path=p∧f.Blob=x
 | [],_,_,h=>by cases h
 | f::r,p,x,h=>by
  unfold H8 at h
  split at h
  ·rename_i e;exact ⟨f,by simp,e,Option.some.inj h⟩
  ·obtain ⟨g,hg,h2⟩:=A12 h;exact ⟨g,by simp [hg],h2⟩
theorem findF_none {p:Str}:∀{l:List File},H8 l p=none↔p∉l.map (·.Path)
 | []=>by simp [H8]
 | f::r=>by
  unfold H8
  split
  ·rename_i e;simp [e]
  ·rename_i e
   rw [findF_none (l:=r),J33,J44,not_or]
   exact ⟨fun h=>⟨fun e2=>e e2.symm,h⟩,fun h=>h.2⟩
theorem m6:∀{l:List File},ascend l=true→E12 (l.map (·.Path))
 | [],_=>List.Pairwise.nil
 | f::r,h=>by
  rw [J33]
  refine List.pairwise_cons.2 ⟨fun x hx=>?_,m6 (A29 h)⟩
  obtain ⟨g,hg,rfl⟩:=List.mem_map.1 hx
  exact j5 h g hg
theorem E14 {l:List Str} (h:E12 l):l.Nodup:=h.imp fun {a b} hab e=>by rw [e,Y5] at hab;cases hab
theorem u0:∀{l:List File},ascend l=true→∀f∈l,H8 l f.Path=some f.Blob
 | [],_,f,hf=>by cases hf
 | g::r,h,f,hf=>by
  unfold H8
  rcases List.mem_cons.1 hf with rfl | hf
  ·rw [if_pos rfl]
  ·have:=j5 h f hf
   rw [if_neg (fun e=>by rw [e,Y5] at this;cases this)]
   exact u0 (A29 h) f hf
theorem A90 {a b:List File} {p:Str} {d:Delta} (h:y7 a b p=some d):d.Path=p:=by
 unfold y7 at h
 split at h
 ·cases h;rfl
 ·cases h;rfl
 ·split at h
  ·cases h;rfl
  ·cases h
theorem B94 {f:Str→Option Delta} (hf:∀p d,f p=some d→d.Path=p):∀{l:List Str},E12 l→AscD (l.filterMap f)
 | [],_=>List.Pairwise.nil
 | p::r,h=>by
  have h1:=List.pairwise_cons.1 h
  have ih:=B94 hf h1.2
  rw [List.filterMap_cons]
  cases hp:f p with
  | none=>exact ih
  | some d =>
   refine List.pairwise_cons.2 ⟨fun y hy=>?_,ih⟩
   obtain ⟨q,hq,hqy⟩:=List.mem_filterMap.1 hy
   rw [hf p d hp,hf q y hqy]
   exact h1.1 q hq
theorem E90 {b:List File} {f:File} {d:Delta} (h:A51 b f=some d):d.Path=f.Path:=by
 unfold A51 at h
 split at h
 ·cases h;rfl
 ·split at h
  ·cases h;rfl
  ·cases h
theorem E91 {a:List File} {f:File} {d:Delta} (h:B77 a f=some d):d.Path=f.Path∧f.Path∉a.map (·.Path):=by
 unfold B77 at h
 split at h
 ·rename_i h2;cases h;exact ⟨rfl,findF_none.1 h2⟩
 ·cases h
theorem I30 {a b:List File} (ha:ascend a=true) (hb:ascend b=true):((r5 a b).map (·.Path)).Nodup:=by
 have sub:∀(f:File→Option Delta),(∀x d,f x=some d→d.Path=x.Path)→∀l:List File,((l.filterMap f).map (·.Path)).Sublist (l.map (·.Path)):=by
  intro f hf l
  induction l with
  | nil=>exact List.Sublist.slnil
  | cons x r ih =>
   rw [List.filterMap_cons]
   cases hx:f x with
   | none=>exact ih.cons _
   | some d=>rw [J33,J33,hf x d hx];exact ih.cons_cons _
 unfold r5
 rw [J42,List.nodup_append]
 refine ⟨(E14 (m6 ha)).sublist (sub _ (fun _ _ h=>E90 h) a),(E14 (m6 hb)).sublist (sub _ (fun _ _ h=>(E91 h).1) b),?_⟩
 intro x hx y hy e
 subst e
 obtain ⟨d,hd,e1⟩:=List.mem_map.1 hy
 obtain ⟨f,hf,h1⟩:=List.mem_filterMap.1 hd
 have h2:=E91 h1
 have h3:=(sub _ (fun _ _ h=>E90 h) a).subset hx
 rw [←e1,h2.1] at h3
 exact h2.2 h3
theorem raw_mem {a b:List File} (ha:ascend a=true) (_hb:ascend b=true) (y:Delta):y∈r5 a b↔y∈T0 a b:=by
 unfold r5 T0
 rw [J39,List.mem_filterMap,List.mem_filterMap,List.mem_filterMap]
 constructor
 ·rintro (⟨f,hf,h⟩ | ⟨f,hf,h⟩)
  ·refine ⟨f.Path,(g9 _ _ _).2 (.inl (List.mem_map_of_mem hf)),?_⟩
   unfold A51 at h
   unfold y7
   rw [u0 ha f hf]
   split at h
   ·rename_i h2;rw [h2];exact h
   ·rename_i z h2
    rw [h2]
    dsimp only
    split at h
    ·rename_i h3;rw [if_pos (fun e=>h3 e.symm)];exact h
    ·cases h
  ·refine ⟨f.Path,(g9 _ _ _).2 (.inr (List.mem_map_of_mem hf)),?_⟩
   unfold B77 at h
   unfold y7
   split at h
   ·rename_i h2;rw [h2];exact h
   ·cases h
 ·rintro ⟨p,hp,h⟩
  unfold y7 at h
  split at h
  ·rename_i h2
   rcases (g9 _ _ _).1 hp with hp | hp
   ·exact absurd hp (findF_none.1 h2)
   ·obtain ⟨f,hf,rfl⟩:=List.mem_map.1 hp
    exact .inr ⟨f,hf,by unfold B77;rw [h2];exact h⟩
  ·rename_i x h2 h3
   obtain ⟨f,hf,rfl,rfl⟩:=A12 h2
   exact .inl ⟨f,hf,by unfold A51;rw [h3];exact h⟩
  ·rename_i x z h2 h3
   obtain ⟨f,hf,rfl,rfl⟩:=A12 h2
   refine .inl ⟨f,hf,?_⟩
   unfold A51;rw [h3]
   dsimp only
   split at h
   ·rename_i h4;rw [if_pos (fun e=>h4 e.symm)];exact h
   ·cases h
theorem I31 {a b:List File} (ha:ascend a=true) (hb:ascend b=true):diffOf a b=T0 a b :=
 H61 (I28 (I30 ha hb)) (B94 (fun _ _ h=>A90 h) (E13 _ _ (m6 ha) (m6 hb))) fun y=>(I29 _ y).trans (raw_mem ha hb y)
theorem H22 (a b:List File):(r5 a b).length≤a.length+b.length:=by
 unfold r5;rw [J20]
 have h1:=List.length_filterMap_le (A51 b) a
 have h2:=List.length_filterMap_le (B77 a) b
 omega
theorem A52 {l:List File} (h:F5 l=0):ascend l=true∧l.length≤200∧(∀f∈l,Q6 f.Blob=0)∧∀f∈l,L4 f.Path=0:=by
 unfold F5 at h
 split at h
 ·cases h
 ·rename_i h1
  split at h
  ·cases h
  ·rename_i h2
   split at h
   ·cases h
   ·rename_i h3
    split at h
    ·cases h
    ·rename_i h4
     refine ⟨m3 (by simpa using h3),by omega,fun f hf=>?_,fun f hf=>?_⟩
     ·have:=fun e=>h4 (List.any_eq_true.2 ⟨f,hf,e⟩)
      simpa using this
     ·have:=fun e=>h2 (List.any_eq_true.2 ⟨f,hf,e⟩)
      simpa using this
end Go.AL
namespace Go.AL
open Go
theorem B68 {α:Type} [DecidableEq α]:∀{l m:List α},l.Nodup→(∀x∈l,x∈m)→l.length≤m.length
 | [],_,_,_=>Nat.zero_le _
 | x::l,m,h,hs=>by
  have h1:=List.nodup_cons.1 h
  have h2:l.length≤(m.erase x).length:=B68 h1.2 fun y hy=>by
   have hne:y≠x:=fun e=>h1.1 (e ▸ hy)
   exact (List.mem_erase_of_ne hne).2 (hs y (by simp [hy]))
  have h3:=List.length_erase_of_mem (hs x (by simp))
  have h4:0 < m.length:=List.length_pos_of_mem (hs x (by simp))
  rw [J19];omega
theorem Y6 {l:List Int} {n:Nat} (h:l.Nodup) (hr:∀x∈l,0≤x∧x < n):l.length≤n:=by
 have:=B68 (m:=(List.range n).map fun i:Nat=>(i:Int)) h fun x hx=>by
  have:=hr x hx
  exact List.mem_map.2 ⟨x.toNat,List.mem_range.2 (by omega),by omega⟩
 simpa using this
theorem I82 {l:List Int} {n:Nat} (h:l.Nodup) (hr:∀x∈l,0≤x∧x < n) (hl:n≤l.length) (c:Nat) (hc:c < n):(c:Int)∈l:=by
 apply Classical.byContradiction
 intro hn
 have:=Y6 (l:=(c:Int)::l) (n:=n) (List.nodup_cons.2 ⟨hn,h⟩) fun x hx=>by
  rcases List.mem_cons.1 hx with rfl | hx
  ·exact ⟨by omega,by omega⟩
  ·exact hr x hx
 rw [J19] at this;omega
theorem C15 {q r:Nat→Bool} (x:Nat) (hr:∀y,r y=(q y&&decide (y≠x))):∀{L:List Nat},L.Nodup→L.countP q=L.countP r+(if x∈L∧q x=true then 1 else 0)
 | [],_=>by simp
 | y :: L,h=>by
  have h1:=List.nodup_cons.1 h
  have ih:=C15 x hr h1.2
  rw [List.countP_cons,List.countP_cons,ih,hr y]
  by_cases e:y=x
  ·subst e
   have:¬(y∈L∧q y=true):=fun e=>h1.1 e.1
   rw [if_neg this]
   cases hq:q y<;>simp
  ·have e2:(x∈y::L∧q x=true)↔(x∈L∧q x=true):=by
    rw [J44]
    constructor
    ·rintro ⟨h3 | h3,h4⟩
     ·exact absurd h3.symm e
     ·exact ⟨h3,h4⟩
    ·exact fun ⟨h3,h4⟩=>⟨.inr h3,h4⟩
   rw [show (if x∈y::L∧q x=true then 1 else 0)=(if x∈L∧q x=true then 1 else 0) by simp only [e2]]
   simp only [e,ne_eq,not_false_eq_true,decide_true,Bool.and_true]
   omega
abbrev Graph:=List Commit
def D9 (g:Graph) (c:Nat):List Int:=(g[c]?.map (·.Parents)).getD []
def x7 (n:Int) (seen:List Int):List Int→Bool
 | []=>true
 | p::r=>decide (0≤p∧p < n∧p∉seen)&&x7 n (seen++[p]) r
def related (g:Graph):Bool:=g.all fun c=>x7 g.length [] c.Parents
theorem G30 {n:Int}:∀{ps seen:List Int},x7 n seen ps=true→(∀p∈ps,0≤p∧p < n∧p∉seen)∧ps.Nodup
 | [],_,_=>⟨(fun _ h=>by cases h),List.nodup_nil⟩
 | p::r,seen,h=>by
  unfold x7 at h
  rw [J16,decide_eq_true_eq] at h
  obtain ⟨h1,h2⟩:=G30 h.2
  refine ⟨fun q hq=>?_,List.nodup_cons.2 ⟨fun hp=>(h1 p hp).2.2 (by simp),h2⟩⟩
  rcases List.mem_cons.1 hq with rfl | hq
  ·exact h.1
  ·have:=h1 q hq;exact ⟨this.1,this.2.1,fun hs=>this.2.2 (by simp [hs])⟩
theorem S0 {g:Graph} {c:Nat} (hc:c < g.length):D9 g c=g[c].Parents:=by unfold D9;rw [J15 hc];rfl
theorem A71 {g:Graph} {c:Nat} (hc:¬c < g.length):D9 g c=[]:=by unfold D9;rw [J34 (by omega)];rfl
theorem J0 {g:Graph} (h:related g=true) (c:Nat):(∀p∈D9 g c,0≤p∧p < g.length)∧(D9 g c).Nodup:=by
 by_cases hc:c < g.length
 ·rw [S0 hc]
  have:=G30 (List.all_eq_true.1 h g[c] (J18 hc))
  exact ⟨fun p hp=>⟨(this.1 p hp).1,(this.1 p hp).2.1⟩,this.2⟩
 ·rw [A71 hc];exact ⟨(fun _ h=>by cases h),List.nodup_nil⟩
inductive Reaches (g:Graph):Nat→Nat→Prop
 | one {c p:Nat} (h:(p:Int)∈D9 g c):Reaches g c p
 | more {c d p:Nat} (h:Reaches g c d) (h2:(p:Int)∈D9 g d):Reaches g c p
theorem Reaches.trans {g:Graph} {a b c:Nat} (h:Reaches g a b) (h2:Reaches g b c):Reaches g a c:=by
 induction h2 with
 | one h2=>exact .more h h2
 | more _ h3 ih=>exact .more ih h3
theorem Reaches.lt {g:Graph} (hr:related g=true) {a b:Nat} (h:Reaches g a b):a < g.length∧b < g.length:=by
 have key:∀{c p:Nat},(p:Int)∈D9 g c→c < g.length∧p < g.length:=fun {c p} h=>by
  refine ⟨?_,by have:=(J0 hr c).1 p h;omega⟩
  apply Classical.byContradiction
  intro hc;rw [A71 hc] at h;cases h
 induction h with
 | one h=>exact key h
 | more _ h2 ih=>exact ⟨ih.1,(key h2).2⟩
def U0 (ps:List Int) (l:List Bool):List Bool:=ps.foldl (fun l p=>l.set p.toNat true) l
def K0 (l:List Bool) (c:Nat):Bool:=l[c]?.getD false
def Z7 (g:Graph) (l:List Bool) (c:Nat):List Bool:=if K0 l c=true then U0 (D9 g c) l else l
def B43 (g:Graph) (l:List Bool):List Bool:=(List.range g.length).foldl (Z7 g) l
def V2 (g:Graph):Nat→List Bool→List Bool
 | 0,l=>l
 | k+1,l=>V2 g k (B43 g l)
def M9 (g:Graph) (starts:List Int):List Bool:=V2 g g.length (U0 starts (List.replicate g.length false))
theorem I83 {l:List Bool} {i c:Nat}:K0 (l.set i true) c=(K0 l c||decide (i=c∧c < l.length)):=by
 unfold K0
 rw [List.getElem?_set]
 split
 ·rename_i e;subst e
  split
  ·rename_i h;simp [h]
  ·rename_i h;simp [h,J34 (Nat.le_of_not_lt h)]
 ·rename_i h;simp [h]
theorem U1:∀(ps:List Int) (l:List Bool),(U0 ps l).length=l.length
 | [],_=>rfl
 | p::r,l=>by show (U0 r (l.set p.toNat true)).length=_;rw [U1 r];simp
theorem j6:∀(ps:List Int) (l:List Bool) (c:Nat),K0 (U0 ps l) c=(K0 l c||(decide (c < l.length)&&ps.any fun p=>decide (p.toNat=c)))
 | [],l,c=>by simp [U0]
 | p::r,l,c=>by
  show K0 (U0 r (l.set p.toNat true)) c=_
  rw [j6 r,I83,J41,List.any_cons]
  by_cases h1:p.toNat=c<;>by_cases h2:c < l.length<;>simp [h1,h2]
theorem I32 (g:Graph) (l:List Bool) (c:Nat):(Z7 g l c).length=l.length:=by unfold Z7;split<;>simp [U1]
theorem C87 (g:Graph):∀(cs:List Nat) (l:List Bool),(cs.foldl (Z7 g) l).length=l.length
 | [],_=>rfl
 | c::r,l=>by rw [J43,C87 g r,I32]
theorem E15 (g:Graph) (l:List Bool):(B43 g l).length=l.length:=C87 g _ l
theorem B69 (g:Graph):∀(k:Nat) (l:List Bool),(V2 g k l).length=l.length
 | 0,_=>rfl
 | k+1,l=>by rw [V2,B69 g k,E15]
theorem B44 (g:Graph) (s:List Int):(M9 g s).length=g.length:=by unfold M9;rw [B69,U1];simp
def LeB (a b:List Bool):Prop:=a.length=b.length∧∀c,K0 a c=true→K0 b c=true
theorem LeB.refl (a:List Bool):LeB a a:=⟨rfl,fun _ h=>h⟩
theorem LeB.trans {a b c:List Bool} (h:LeB a b) (h2:LeB b c):LeB a c:=⟨h.1.trans h2.1,fun x hx=>h2.2 x (h.2 x hx)⟩
theorem B70:∀{a b:List Bool},LeB a b→a=b∨a.countP id < b.countP id
 | [],[],_=>.inl rfl
 | [],_::_,h=>by have:=h.1;simp at this
 | _::_,[],h=>by have:=h.1;simp at this
 | x::a,y::b,h=>by
  have h1:LeB a b:=⟨by simpa using h.1,fun c hc=>h.2 (c+1) hc⟩
  have h2:x=true→y=true:=fun hx=>by simpa [K0] using h.2 0 (by simpa [K0] using hx)
  rw [List.countP_cons,List.countP_cons]
  rcases B70 h1 with rfl | h3
  ·cases x<;>cases y
   ·exact .inl rfl
   ·right;simp
   ·exact absurd (h2 rfl) (by decide)
   ·exact .inl rfl
  ·right
   cases x<;>cases y
   ·simpa using h3
   ·simp;omega
   ·exact absurd (h2 rfl) (by decide)
   ·simpa using h3
theorem G31 {a b:List Bool} (h:LeB a b) (h2:LeB b a):a=b:=by
 rcases B70 h with e | e
 ·exact e
 ·rcases B70 h2 with e2 | e2
  ·exact e2.symm
  ·omega
theorem C88 (ps:List Int) (l:List Bool):LeB l (U0 ps l):=⟨(U1 ps l).symm,fun c h=>by rw [j6,h];rfl⟩
theorem G32 (g:Graph) (l:List Bool) (c:Nat):LeB l (Z7 g l c):=by unfold Z7;split<;>first | exact C88 _ _ | exact LeB.refl _
theorem C47 (g:Graph):∀(cs:List Nat) (l:List Bool),LeB l (cs.foldl (Z7 g) l)
 | [],l=>LeB.refl l
 | c::r,l=>(G32 g l c).trans (C47 g r _)
theorem G33 (g:Graph):∀(k:Nat) (l:List Bool),LeB l (V2 g k l)
 | 0,l=>LeB.refl l
 | k+1,l=>(C47 g _ l).trans (G33 g k _)
def A30 (g:Graph) (l:List Bool):Prop:=∀c,K0 l c=true→∀p∈D9 g c,K0 l p.toNat=true
theorem G34 (g:Graph):∀(cs:List Nat) (l:List Bool),cs.foldl (Z7 g) l=l→∀c∈cs,Z7 g l c=l
 | [],_,_,_,h=>by cases h
 | d::r,l,h,c,hc=>by
  rw [J43] at h
  have h1:Z7 g l d=l:=G31 (by have:=C47 g r (Z7 g l d);rw [h] at this;exact this) (G32 g l d)
  rcases List.mem_cons.1 hc with rfl | hc
  ·exact h1
  ·rw [h1] at h;exact G34 g r l h c hc
theorem H62 {l:List Bool} {c:Nat} (h:K0 l c=true):c < l.length:=by
 unfold K0 at h
 apply Classical.byContradiction
 intro hn;rw [J34 (by omega)] at h;cases h
theorem H23 {g:Graph} {l:List Bool} (hr:related g=true) (hl:l.length=g.length) (h:B43 g l=l):A30 g l:=by
 intro c hc p hp
 have h1:=G34 g _ l h c (List.mem_range.2 (by rw [←hl];exact H62 hc))
 unfold Z7 at h1
 rw [if_pos hc] at h1
 rw [←h1,j6]
 have:=(J0 hr c).1 p hp
 rw [J35];right
 rw [J16,decide_eq_true_eq,List.any_eq_true]
 exact ⟨by omega,p,hp,by simp⟩
theorem C48 {g:Graph} {l:List Bool} (h:A30 g l):B43 g l=l:=by
 have key:∀(cs:List Nat),cs.foldl (Z7 g) l=l:=by
  intro cs
  induction cs with
  | nil=>rfl
  | cons c r ih =>
   rw [J43]
   have:Z7 g l c=l:=by
    unfold Z7
    split
    ·rename_i hc
     refine G31 ⟨U1 _ _,fun x hx=>?_⟩ (C88 _ _)
     rw [j6,J35,J16,List.any_eq_true] at hx
     rcases hx with hx | ⟨_,p,hp,e⟩
     ·exact hx
     ·rw [←A0 e];exact h c hc p hp
    ·rfl
   rw [this];exact ih
 exact key _
theorem D20 {g:Graph} (hr:related g=true):∀(k:Nat) {l:List Bool},l.length=g.length→A30 g (V2 g k l)∨l.countP id+k≤(V2 g k l).countP id
 | 0,l,_=>.inr (by simp [V2])
 | k+1,l,hl=>by
  rw [V2]
  rcases B70 (C47 g (List.range g.length) l) with e | e
  ·left
   have h1:A30 g l:=H23 hr hl e.symm
   rw [show B43 g l=l from e.symm]
   have:∀k,V2 g k l=l:=fun k=>by
    induction k with
    | zero=>rfl
    | succ k ih=>rw [V2,C48 h1];exact ih
   rw [this];exact h1
  ·rcases D20 hr k (l:=B43 g l) (by rw [E15];exact hl) with h | h
   ·exact .inl h
   ·right
    have e:l.countP id < (B43 g l).countP id:=e
    omega
theorem A91 {g:Graph} (hr:related g=true) (s:List Int) (hs:∀f∈s,0≤f∧f < g.length):A30 g (M9 g s):=by
 by_cases h0:s=[]
 ·subst h0
  have:A30 g (List.replicate g.length false):=fun c hc=>by
   unfold K0 at hc
   rw [List.getElem?_replicate] at hc
   split at hc<;>cases hc
  have e:∀k,V2 g k (List.replicate g.length false)=List.replicate g.length false:=fun k=>by
   induction k with
   | zero=>rfl
   | succ k ih=>rw [V2,C48 this];exact ih
  unfold M9
  show A30 g (V2 g g.length (List.replicate g.length false))
  rw [e];exact this
 ·rcases D20 hr g.length (l:=U0 s (List.replicate g.length false)) (by rw [U1];simp) with h | h
  ·exact h
  ·obtain ⟨f,r,rfl⟩:=List.exists_cons_of_ne_nil h0
   have h1:(V2 g g.length (U0 (f::r) (List.replicate g.length false))).countP id≤g.length:=by
    have:=List.countP_le_length (p:=id) (l:=V2 g g.length (U0 (f::r) (List.replicate g.length false)))
    rw [B69,U1,J49] at this;exact this
   have h2:0 < (U0 (f::r) (List.replicate g.length false)).countP id:=by
    rw [List.countP_pos_iff]
    have hf:=hs f (by simp)
    have hon:K0 (U0 (f::r) (List.replicate g.length false)) f.toNat=true:=by
     rw [j6,J35];right
     rw [J16,decide_eq_true_eq,List.any_eq_true]
     exact ⟨by rw [J49];omega,f,by simp,by simp⟩
    have hlt:=H62 hon
    unfold K0 at hon
    rw [J15 hlt] at hon
    exact ⟨_,J18 hlt,hon⟩
   omega
theorem B71 {g:Graph} (hr:related g=true) {s:List Int} (hs:∀f∈s,0≤f∧f < g.length) (x:Nat):K0 (M9 g s) x=true↔∃f:Nat,(f:Int)∈s∧(f=x∨Reaches g f x):=by
 constructor
 ·let Good:List Bool→Prop:=fun l=>∀x,K0 l x=true→∃f:Nat,(f:Int)∈s∧(f=x∨Reaches g f x)
  have h1:∀l c,Good l→Good (Z7 g l c):=by
   intro l c h x hx
   unfold Z7 at hx
   split at hx
   ·rename_i hc
    rw [j6,J35,J16,List.any_eq_true] at hx
    rcases hx with hx | ⟨_,p,hp,e⟩
    ·exact h x hx
    ·have e:=A0 e
     have hp2:=(J0 hr c).1 p hp
     have e2:((x:Nat):Int)=p:=by omega
     obtain ⟨f,hf,h2⟩:=h c hc
     refine ⟨f,hf,.inr ?_⟩
     rcases h2 with rfl | h2
     ·exact .one (by rw [e2];exact hp)
     ·exact .more h2 (by rw [e2];exact hp)
   ·exact h x hx
  have h2:∀(cs:List Nat) l,Good l→Good (cs.foldl (Z7 g) l):=by
   intro cs
   induction cs with
   | nil=>exact fun l h=>h
   | cons c r ih=>exact fun l h=>ih _ (h1 l c h)
  have h3:∀k l,Good l→Good (V2 g k l):=by
   intro k
   induction k with
   | zero=>exact fun l h=>h
   | succ k ih=>exact fun l h=>ih _ (h2 _ l h)
  refine h3 _ _ (fun x hx=>?_) x
  rw [j6,J35,J16,List.any_eq_true] at hx
  rcases hx with hx | ⟨_,p,hp,e⟩
  ·unfold K0 at hx
   rw [List.getElem?_replicate] at hx
   split at hx<;>cases hx
  ·have e:=A0 e
   have:=hs p hp
   exact ⟨x,by rw [show ((x:Nat):Int)=p by omega];exact hp,.inl rfl⟩
 ·rintro ⟨f,hf,h⟩
  have hcl:=A91 hr s hs
  have h0:K0 (M9 g s) f=true:=by
   refine (G33 g _ _).2 f ?_
   rw [j6,J35];right
   rw [J16,decide_eq_true_eq,List.any_eq_true]
   have:=hs f hf
   exact ⟨by rw [J49];omega,f,hf,by simp⟩
  rcases h with rfl | h
  ·exact h0
  ·induction h with
   | one h=>exact hcl _ h0 _ h
   | more _ h2 ih=>exact hcl _ ih _ h2
def cyclic (g:Graph):Bool:=(List.range g.length).any fun c=>decide (D9 g c≠[])&&K0 (M9 g (D9 g c)) c
theorem A92 {g:Graph} (hr:related g=true):cyclic g=true↔∃c,Reaches g c c:=by
 unfold cyclic
 rw [List.any_eq_true]
 constructor
 ·rintro ⟨c,_,h⟩
  rw [J16] at h
  obtain ⟨f,hf,h2⟩:=(B71 hr (J0 hr c).1 c).1 h.2
  rcases h2 with rfl | h2
  ·exact ⟨f,.one hf⟩
  ·exact ⟨c,(Reaches.one hf).trans h2⟩
 ·rintro ⟨c,h⟩
  have hlt:=(h.lt hr).1
  refine ⟨c,List.mem_range.2 hlt,?_⟩
  have key:∀{a b:Nat},Reaches g a b→∃f:Nat,(f:Int)∈D9 g a∧(f=b∨Reaches g f b):=by
   intro a b h
   induction h with
   | one h=>exact ⟨_,h,.inl rfl⟩
   | more _ h2 ih =>
    obtain ⟨f,hf,h3⟩:=ih
    refine ⟨f,hf,.inr ?_⟩
    rcases h3 with rfl | h3
    ·exact .one h2
    ·exact .more h3 h2
  obtain ⟨f,hf,h2⟩:=key h
  rw [J16,decide_eq_true_eq]
  exact ⟨(fun e=>by rw [e] at hf;cases hf),(B71 hr (J0 hr c).1 c).2 ⟨f,hf,h2⟩⟩
def C49 (g:Graph) (ex:List Int) (p:Nat):Nat:=(List.range g.length).countP fun c:Nat=>decide ((c:Int)∉ex∧(p:Int)∈D9 g c)
theorem E92 {g:Graph} {ex:List Int} {x p:Nat} (hx:(x:Int)∉ex) (hlt:x < g.length):C49 g ex p=C49 g (ex++[(x:Int)]) p+(if (p:Int)∈D9 g x then 1 else 0):=by
 unfold C49
 rw [C15 (q:=fun c:Nat=>decide ((c:Int)∉ex∧(p:Int)∈D9 g c)) (r:=fun c:Nat=>decide ((c:Int)∉ex++[(x:Int)]∧(p:Int)∈D9 g c)) x (fun y=>?_) List.nodup_range]
 ·congr 1
  simp only [List.mem_range,hlt,true_and,decide_eq_true_eq,hx,not_false_eq_true]
 ·simp only [J39,List.mem_singleton]
  by_cases h1:(y:Int)∈ex<;>by_cases h2:y=x<;>by_cases h3:(p:Int)∈D9 g y<;>simp [h1,h2,h3]<;>omega
theorem I84 {g:Graph} {ex:List Int} {p:Nat} (h:0 < C49 g ex p):∃c,c < g.length∧(c:Int)∉ex∧(p:Int)∈D9 g c:=by
 unfold C49 at h
 rw [List.countP_pos_iff] at h
 obtain ⟨c,hc,h⟩:=h
 have:=A0 h
 exact ⟨c,List.mem_range.1 hc,this.1,this.2⟩
theorem E93 {g:Graph} {ex:List Int} {p:Nat} (h:C49 g ex p=0) {c:Nat} (hc:c < g.length) (hp:(p:Int)∈D9 g c):(c:Int)∈ex:=by
 apply Classical.byContradiction
 intro hn
 have:0 < C49 g ex p:=by
  unfold C49
  rw [List.countP_pos_iff]
  exact ⟨c,List.mem_range.2 hc,by simp [hn,hp]⟩
 omega
structure KInv (g:Graph) (k i:Nat) (ch:List Int) (out:List Int):Prop where
 len:ch.length=g.length
 nodup:out.Nodup
 rng:∀x∈out,0≤x∧x < g.length
 cnt:∀p,p < g.length→ch[p]?.getD 0+(if (p:Int)∈(D9 g (out.getD k 0).toNat).take i then 1 else 0)=C49 g (out.take k) p
 zero:∀p,p < g.length→((p:Int)∈out↔ch[p]?.getD 0=0)
 kids:∀j (h:j < out.length) (c:Nat),out[j]∈D9 g c→(c:Int)∈out.take j
theorem minimal {R:Nat→Nat→Prop} (tr:∀a b c,R a b→R b c→R a c) (ir:∀a,¬R a a):∀{M:List Nat},M≠[]→∃m∈M,∀x∈M,¬R x m
 | [],h=>absurd rfl h
 | [a],_=>⟨a,by simp,fun x hx=>by rw [List.mem_singleton.1 hx];exact ir a⟩
 | a::b::r,_=>by
  obtain ⟨m,hm,h⟩:=minimal tr ir (M:=b::r) (by simp)
  by_cases ham:R a m
  ·refine ⟨a,by simp,fun x hx hxa=>?_⟩
   rcases List.mem_cons.1 hx with rfl | hx
   ·exact ir _ hxa
   ·exact h x hx (tr _ _ _ hxa ham)
  ·refine ⟨m,List.mem_cons_of_mem _ hm,fun x hx=>?_⟩
   rcases List.mem_cons.1 hx with rfl | hx
   ·exact ham
   ·exact h x hx
theorem KInv.done {g:Graph} (hr:related g=true) {ch out:List Int} (h:KInv g out.length 0 ch out):(decide (out.length < g.length))=cyclic g:=by
 cases hc:cyclic g
 ·rw [decide_eq_false_iff_not]
  intro hlt
  have hno:∀c,¬Reaches g c c:=fun c hcc=>by rw [(A92 hr).2 ⟨c,hcc⟩] at hc;cases hc
  let M:=(List.range g.length).filter fun c:Nat=>decide ((c:Int)∉out)
  have hM:M≠[]:=by
   intro e
   have hall:∀c,c < g.length→(c:Int)∈out:=fun c hc=>by
    apply Classical.byContradiction
    intro hn
    have:c∈M:=List.mem_filter.2 ⟨List.mem_range.2 hc,by simp [hn]⟩
    rw [e] at this;cases this
   have:=B68 (l:=(List.range g.length).map fun i:Nat=>(i:Int)) (m:=out) ((List.nodup_range).map (fun i:Nat=>(i:Int)) (fun _ _ hne e=>hne (Int.ofNat.inj e))) fun x hx=>by
    obtain ⟨i,hi,rfl⟩:=List.mem_map.1 hx
    exact hall i (List.mem_range.1 hi)
   rw [J38,J46] at this;omega
  obtain ⟨m,hm,hmin⟩:=minimal (R:=Reaches g) (fun _ _ _ h1 h2=>h1.trans h2) hno hM
  obtain ⟨hm1,hm2⟩:=List.mem_filter.1 hm
  have hm1:=List.mem_range.1 hm1
  have hm2:=A0 hm2
  have h1:=h.cnt m hm1
  have h2:¬ch[m]?.getD 0=0:=fun e=>hm2 ((h.zero m hm1).2 e)
  rw [J23,List.take_zero,if_neg (by simp),Int.add_zero] at h1
  obtain ⟨c,hc1,hc2,hc3⟩:=I84 (g:=g) (ex:=out) (p:=m) (by omega)
  exact hmin c (List.mem_filter.2 ⟨List.mem_range.2 hc1,by simp [hc2]⟩) (.one hc3)
 ·rw [decide_eq_true_eq]
  obtain ⟨c,hcc⟩:=(A92 hr).1 hc
  apply Classical.byContradiction
  intro hn
  have hin:=I82 h.nodup h.rng (by omega) c (hcc.lt hr).1
  have key:∀{x y:Nat},Reaches g x y→∀j (hj:j < out.length),out[j]=(y:Int)→∃i,∃hi:i < out.length,i < j∧out[i]=(x:Int):=by
   have one:∀{x y:Nat},(y:Int)∈D9 g x→∀j (hj:j < out.length),out[j]=(y:Int)→∃i,∃hi:i < out.length,i < j∧out[i]=(x:Int):=by
    intro x y hxy j hj e
    have:=h.kids j hj x (by rw [e];exact hxy)
    obtain ⟨i,hi,he⟩:=List.getElem_of_mem this
    rw [J25] at hi
    rw [List.getElem_take] at he
    exact ⟨i,by omega,by omega,he⟩
   intro x y hxy
   induction hxy with
   | one h=>exact one h
   | more _ h2 ih =>
    intro j hj e
    obtain ⟨i,hi,hlt,e2⟩:=one h2 j hj e
    obtain ⟨i',hi',hlt',e3⟩:=ih i hi e2
    exact ⟨i',hi',by omega,e3⟩
  obtain ⟨j,hj,e⟩:=List.getElem_of_mem hin
  obtain ⟨i,hi,hlt,e2⟩:=key hcc j hj e
  have:=(List.getElem_inj (i:=i) (j:=j) (h₀:=hi) (h₁:=hj) h.nodup).1 (e2.trans e.symm)
  omega
end Go.AL
namespace Go.AL
open Go
def atG (l:List Int) (p:Nat):Int:=l[p]?.getD 0
def bump (l:List Int) (p:Int):List Int:=l.set p.toNat (atG l p.toNat+1)
def V3 (l:List Int) (p:Int):List Int:=l.set p.toNat (atG l p.toNat - 1)
def V8 (ps:List Int) (l:List Int):List Int:=ps.foldl bump l
def O1 (g:Graph) (i:Nat):List Int:=(g.take i).foldl (fun l c=>V8 c.Parents l) (List.replicate g.length 0)
theorem A31 {l:List Int} {i p:Nat} {v:Int} (h:i < l.length):atG (l.set i v) p=if i=p then v else atG l p:=by
 unfold atG
 rw [List.getElem?_set]
 split
 ·rename_i e;subst e;simp [h]
 ·rfl
theorem B45:∀(ps:List Int) (l:List Int),(V8 ps l).length=l.length
 | [],_=>rfl
 | p::r,l=>by show (V8 r (bump l p)).length=_;rw [B45 r];simp [bump]
theorem C16 {n:Int}:∀{ps:List Int} {l:List Int},(∀p∈ps,0≤p∧p < l.length)→ps.Nodup→∀p:Nat,atG (V8 ps l) p=atG l p+(if (p:Int)∈ps then 1 else 0)
 | [],l,_,_,p=>by simp [V8]
 | q::r,l,h,hn,p=>by
  show atG (V8 r (bump l q)) p=_
  have hq:=h q (by simp)
  have hn:=List.nodup_cons.1 hn
  rw [C16 (n:=n) (fun x hx=>by have:=h x (by simp [hx]);simpa [bump] using this) hn.2 p]
  unfold bump
  rw [A31 (by omega)]
  by_cases e:q.toNat=p
  ·have e2:(p:Int)=q:=by omega
   have h2:¬(p:Int)∈r:=by rw [e2];exact hn.1
   rw [if_pos e,if_neg h2,e2,if_pos (by simp),e];omega
  ·have e2:((p:Int)∈q::r)↔(p:Int)∈r:=by
    rw [J44]
    exact ⟨fun h=>h.resolve_left (by omega),.inr⟩
   rw [if_neg e]
   simp only [e2]
theorem y8 (g:Graph):∀i,(O1 g i).length=g.length:=by
 intro i
 unfold O1
 have key:∀(cs:List Commit) (l:List Int),(cs.foldl (fun l c=>V8 c.Parents l) l).length=l.length:=by
  intro cs
  induction cs with
  | nil=>intro l;rfl
  | cons c r ih=>intro l;rw [J43,ih,B45]
 rw [key];simp
theorem B95 {g:Graph} {i:Nat} (hi:i < g.length):O1 g (i+1)=V8 (D9 g i) (O1 g i):=by
 unfold O1
 rw [List.take_add_one,J15 hi,Option.toList_some,J59,S0 hi];rfl
theorem B46 {g:Graph} (hr:related g=true) (p:Nat) (hp:p < g.length):∀i,i≤g.length→atG (O1 g i) p=((List.range i).countP fun c:Nat=>decide ((p:Int)∈D9 g c):Nat)
 | 0,_=>by
  unfold O1 atG
  simp [List.getElem?_replicate,hp]
 | i+1,hi=>by
  have hpr:=J0 hr i
  rw [B95 (by omega),C16 (n:=0) (fun q hq=>by rw [y8];exact hpr.1 q hq) hpr.2,B46 hr p hp i (by omega),J63,List.countP_append]
  by_cases h:(p:Int)∈D9 g i<;>simp [h]
theorem D21 {g:Graph} (hr:related g=true) (p:Nat) (hp:p < g.length):atG (O1 g g.length) p=C49 g [] p:=by
 rw [B46 hr p hp _ (Nat.le_refl _)]
 unfold C49
 simp
def T3 (ch:List Int) (i:Nat):List Int:=((List.range i).filter fun c=>decide (atG ch c=0)).map fun c:Nat=>(c:Int)
theorem F48 (ch:List Int) (i:Nat):T3 ch (i+1)=if atG ch i=0 then T3 ch i++[(i:Int)] else T3 ch i:=by
 unfold T3
 rw [J63,J67,J42]
 by_cases h:atG ch i=0<;>simp [h]
theorem D22 (ch:List Int) (i p:Nat):(p:Int)∈T3 ch i↔p < i∧atG ch p=0:=by
 unfold T3
 rw [List.mem_map]
 constructor
 ·rintro ⟨c,hc,e⟩
  have e:c=p:=Int.ofNat.inj e
  subst e
  rw [List.mem_filter,List.mem_range,decide_eq_true_eq] at hc
  exact hc
 ·rintro ⟨h1,h2⟩
  exact ⟨p,by rw [List.mem_filter,List.mem_range,decide_eq_true_eq];exact ⟨h1,h2⟩,rfl⟩
theorem B47 {ch:List Int} {i:Nat}:∀x∈T3 ch i,0≤x∧x < i:=by
 intro x hx
 unfold T3 at hx
 obtain ⟨c,hc,rfl⟩:=List.mem_map.1 hx
 have:=List.mem_range.1 (List.mem_filter.1 hc).1
 omega
theorem B96 (ch:List Int) (i:Nat):(T3 ch i).Nodup:=by
 unfold T3
 exact (List.nodup_range.filter _).map (fun i:Nat=>(i:Int)) fun _ _ hne e=>hne (Int.ofNat.inj e)
theorem G35 (ch:List Int) (i:Nat):(T3 ch i).length≤i:=Y6 (B96 ch i) B47
theorem KInv.start {g:Graph} (hr:related g=true):KInv g 0 0 (O1 g g.length) (T3 (O1 g g.length) g.length) where
 len:=y8 g _
 nodup:=B96 _ _
 rng:=B47
 cnt:=fun p hp=>by
  have:=D21 hr p hp
  unfold atG at this
  rw [this,List.take_zero,List.take_zero];simp
 zero:=fun p hp=>by
  have:=D22 (O1 g g.length) g.length p
  rw [this]
  exact ⟨fun h=>h.2,fun h=>⟨hp,h⟩⟩
 kids:=fun j hj c hc=>by
  have h1:=B47 _ (J18 hj)
  have h2:=(D22 (O1 g g.length) g.length ((T3 (O1 g g.length) g.length)[j]).toNat).1 (by rw [Int.toNat_of_nonneg h1.1];exact J18 hj)
  rw [D21 hr _ h2.1] at h2
  have hlt:c < g.length:=by
   apply Classical.byContradiction
   intro hn;rw [A71 hn] at hc;cases hc
  have:=E93 (g:=g) (ex:=[]) (p:=((T3 (O1 g g.length) g.length)[j]).toNat) (by omega) hlt (by rw [Int.toNat_of_nonneg h1.1];exact hc)
  cases this
theorem KInv.le {g:Graph} {k i:Nat} {ch out:List Int} (h:KInv g k i ch out):out.length≤g.length:=Y6 h.nodup h.rng
theorem u5 {α:Type} {l m:List α} {k:Nat} (h:k≤l.length):(l++m).take k=l.take k:=by rw [List.take_append_of_le_length h]
theorem G36 {α:Type} {l m:List α} {k:Nat} {d:α} (h:k < l.length):(l++m).getD k d=l.getD k d:=by
 rw [J21,J21,J27 h]
theorem R1 {α:Type} {l:List α} {i:Nat} {x:α} (h:i < l.length):x∈l.take (i+1)↔x∈l.take i∨x=l[i]:=by
 rw [List.take_add_one,J15 h,Option.toList_some,J39,List.mem_singleton]
theorem V9 {α:Type} {l:List α} (hn:l.Nodup) {i:Nat} (h:i < l.length):l[i]∉l.take i:=by
 intro hm
 obtain ⟨j,hj,e⟩:=List.getElem_of_mem hm
 rw [J25] at hj
 rw [List.getElem_take] at e
 have:=(List.getElem_inj (i:=j) (j:=i) (h₀:=by omega) (h₁:=h) hn).1 e
 omega
theorem KInv.step {g:Graph} (hr:related g=true) {k i:Nat} {ch out:List Int} (h:KInv g k i ch out) (hk:k < out.length) {c p:Nat} (hc:out[k]=(c:Int)) (hi:i < (D9 g c).length) (hp:(D9 g c)[i]=(p:Int)) :
  p < g.length∧1≤atG ch p∧atG ch p≤g.length∧KInv g k (i+1) (V3 ch p) (if atG ch p - 1=0 then out++[(p:Int)] else out):=by
 have hpr:=J0 hr c
 have hpm:(p:Int)∈D9 g c:=by rw [←hp];exact J18 hi
 have hplt:p < g.length:=by have:=hpr.1 p hpm;omega
 have hclt:c < g.length:=by have:=h.rng out[k] (J18 hk);omega
 have hg0:out.getD k 0=(c:Int):=by rw [J21,J15 hk];exact hc
 have hnt:(c:Int)∉out.take k:=by rw [←hc];exact V9 h.nodup hk
 have hnp:(p:Int)∉(D9 g c).take i:=by rw [←hp];exact V9 hpr.2 hi
 have h1:=h.cnt p hplt
 rw [hg0,J17,if_neg hnp] at h1
 have h2:=E92 (g:=g) (ex:=out.take k) (x:=c) (p:=p) hnt hclt
 rw [if_pos hpm] at h2
 have hle:C49 g (out.take k) p≤g.length:=by
  unfold C49
  have:=List.countP_le_length (p:=fun c:Nat=>decide ((c:Int)∉out.take k∧(p:Int)∈D9 g c)) (l:=List.range g.length)
  rwa [J46] at this
 have hat:atG ch p=ch[p]?.getD 0:=rfl
 have hge:1≤atG ch p:=by omega
 have hnout:(p:Int)∉out:=fun hm=>by have:=(h.zero p hplt).1 hm;omega
 have hst:∀q,atG (V3 ch p) q=if p=q then atG ch p - 1 else atG ch q:=fun q=>by
  unfold V3
  rw [J17,A31 (by rw [h.len];exact hplt)]
 refine ⟨hplt,hge,by omega,?_⟩
 have htake:(if atG ch p - 1=0 then out++[(p:Int)] else out).take k=out.take k:=by split<;>first | exact u5 (by omega) | rfl
 have hget:(if atG ch p - 1=0 then out++[(p:Int)] else out).getD k 0=out.getD k 0:=by split<;>first | exact G36 hk | rfl
 refine ⟨by unfold V3;rw [J41];exact h.len,?_,?_,?_,?_,?_⟩
 ·split
  ·exact List.nodup_append.2 ⟨h.nodup,by simp,fun x hx y hy e=>by rw [List.mem_singleton.1 hy] at e;exact hnout (e ▸ hx)⟩
  ·exact h.nodup
 ·intro x hx
  split at hx
  ·rcases List.mem_append.1 hx with hx | hx
   ·exact h.rng x hx
   ·rw [List.mem_singleton.1 hx];omega
  ·exact h.rng x hx
 ·intro q hq
  rw [htake,hget,hg0,J17]
  have e1:=hst q
  have e2:atG (V3 ch p) q=(V3 ch p)[q]?.getD 0:=rfl
  rw [←e2,e1]
  by_cases e:p=q
  ·subst e
   rw [if_pos rfl,if_pos ((R1 hi).2 (.inr hp.symm))];omega
  ·rw [if_neg e]
   have h3:=h.cnt q hq
   rw [hg0,J17] at h3
   have h4:((q:Int)∈(D9 g c).take (i+1))↔(q:Int)∈(D9 g c).take i:=by
    rw [R1 hi,hp]
    exact ⟨fun h=>h.resolve_right (by omega),.inl⟩
   simp only [h4]
   exact h3
 ·intro q hq
  have e1:=hst q
  have e2:atG (V3 ch p) q=(V3 ch p)[q]?.getD 0:=rfl
  rw [←e2,e1]
  by_cases e:p=q
  ·subst e
   rw [if_pos rfl]
   split
   ·rename_i h0;simp [h0]
   ·rename_i h0;exact ⟨fun hm=>absurd hm hnout,fun e=>absurd e h0⟩
  ·rw [if_neg e]
   have h3:=h.zero q hq
   split
   ·rw [J39,List.mem_singleton]
    exact ⟨fun hm=>h3.1 (hm.resolve_right (by omega)),fun e=>.inl (h3.2 e)⟩
   ·exact h3
 ·intro j hj x hx
  split at hj
  ·rename_i h0
   simp only [h0,if_true] at hx ⊢
   by_cases hjl:j < out.length
   ·rw [J64 hjl] at hx
    rw [u5 (by omega)]
    exact h.kids j hjl x hx
   ·have hje:j=out.length:=by rw [J20,List.length_singleton] at hj;omega
    subst hje
    rw [J62 (Nat.le_refl _)] at hx
    simp only [J61,List.getElem_cons_zero] at hx
    have hxl:x < g.length:=by
     apply Classical.byContradiction
     intro hn;rw [A71 hn] at hx;cases hx
    have hz:C49 g (out.take k++[(c:Int)]) p=0:=by omega
    have:=E93 hz hxl hx
    rw [u5 (Nat.le_refl _),J23]
    rcases List.mem_append.1 this with hm | hm
    ·exact List.mem_of_mem_take hm
    ·rw [List.mem_singleton.1 hm,←hc];exact J18 hk
  ·rename_i h0
   simp only [h0,if_false] at hx ⊢
   exact h.kids j hj x hx
theorem KInv.next {g:Graph} {k:Nat} {ch out:List Int} (hk:k < out.length) {c:Nat} (hc:out[k]=(c:Int)) (h:KInv g k (D9 g c).length ch out):KInv g (k+1) 0 ch out where
 len:=h.len
 nodup:=h.nodup
 rng:=h.rng
 cnt:=fun p hp=>by
  have h1:=h.cnt p hp
  have hg0:out.getD k 0=(c:Int):=by rw [J21,J15 hk];exact hc
  have hclt:c < g.length:=by have:=h.rng out[k] (J18 hk);omega
  rw [hg0,J17,J23] at h1
  have h2:=E92 (g:=g) (ex:=out.take k) (x:=c) (p:=p) (by rw [←hc];exact V9 h.nodup hk) hclt
  have e:out.take (k+1)=out.take k++[(c:Int)]:=by rw [List.take_add_one,J15 hk,Option.toList_some,hc]
  rw [e,List.take_zero,if_neg (by simp)]
  split at h1
  ·rename_i hm;rw [if_pos hm] at h2;omega
  ·rename_i hm;rw [if_neg hm] at h2;omega
 zero:=h.zero
 kids:=h.kids
def U7:List Commit→Int
 | []=>0
 | c::r=>if F5 c.Files≠0 then F5 c.Files else U7 r
def U8 (g:Graph):Bool:=decide (g.length≤300)&&!g.any fun c=>decide (c.Parents.length > 32)
def A32 (g:Graph):Bool:=g.any fun c=>decide (c.Date < 0∨c.Date > 2147483647)
def J1 (g:Graph):Int:=if U8 g=false then 1 else if related g=false then 230 else if cyclic g=true then 231 else if A32 g=true then 3 else U7 g
theorem B97:∀{g:List Commit},U7 g=0→∀c∈g,F5 c.Files=0
 | [],_,_,hc=>by cases hc
 | d::r,h,c,hc=>by
  unfold U7 at h
  split at h
  ·rename_i h1;exact absurd h h1
  ·rename_i h1
   rcases List.mem_cons.1 hc with rfl | hc
   ·simpa using h1
   ·exact B97 h c hc
structure Valid (g:Graph):Prop where
 len:g.length≤300
 pars:∀c∈g,c.Parents.length≤32
 rel:related g=true
 acyc:∀c,¬Reaches g c c
 tree:∀c∈g,F5 c.Files=0
theorem Y7 {g:Graph} (h:J1 g=0):Valid g:=by
 unfold J1 at h
 split at h
 ·cases h
 ·rename_i h1
  split at h
  ·cases h
  ·rename_i h2
   split at h
   ·cases h
   ·rename_i h3
    split at h
    ·cases h
    ·have h1:U8 g=true:=by simpa using h1
     unfold U8 at h1
     rw [J16,decide_eq_true_eq] at h1
     have h2:related g=true:=by simpa using h2
     refine ⟨h1.1,fun c hc=>?_,h2,fun c hc=>h3 ((A92 h2).2 ⟨c,hc⟩),fun c hc=>B97 h c hc⟩
     apply Classical.byContradiction
     intro hn
     have:g.any (fun c=>decide (c.Parents.length > 32))=true:=List.any_eq_true.2 ⟨c,hc,by simp;omega⟩
     rw [this] at h1;cases h1.2
end Go.AL
namespace Go.AL
open Go
def B48 (i j:Int):List Span→Int→Int→List Change
 | [],m,n=>if m > i∨n > j then [⟨i,m - i,j,n - j⟩] else []
 | x::r,m,n=>(if x.From > i∨x.To > j then [⟨i,x.From - i,j,x.To - j⟩] else [])++B48 (x.From+1) (x.To+1) r m n
def E16 (p:List Span) (m n:Int):List Change:=B48 0 0 p m n
def T4 (i j:Int) (n:Nat):List Span:=(List.range n).map fun (t:Nat)=>⟨i+(t:Int),j+(t:Int)⟩
theorem E17 (i j:Int) (n:Nat):(T4 i j n).length=n:=by simp [T4]
theorem F49 (i j:Int) (n:Nat):T4 i j (n+1)=⟨i,j⟩::T4 (i+1) (j+1) n:=by
 unfold T4
 rw [List.range_succ_eq_map,J33,J50]
 congr 1
 ·simp
 ·refine List.map_congr_left fun t _=>?_
  simp only [Function.comp,Span.mk.injEq]
  omega
def A72 (i j:Int):List Change→Int→List Span
 | [],m=>T4 i j (m - i).toNat
 | c::r,m=>T4 i j (c.Old - i).toNat++A72 (max i c.Old+c.OldLen) (j+(c.Old - i).toNat+c.NewLen) r m
def I33 (l:List Change) (m:Int):List Span:=A72 0 0 l m
def dist:List Int→List Int→Nat
 | [],b=>b.length
 | x::a,[]=>(x::a).length
 | x::a,y::b=>if x=y then dist a b else 1+min (dist a (y::b)) (dist (x::a) b)
theorem C50 (a:List Int):dist a []=a.length:=by cases a<;>simp [dist]
theorem F50 (a b:List Int):dist a b≤a.length+b.length:=by
 induction a generalizing b with
 | nil=>simp [dist]
 | cons x a iha =>
  induction b with
  | nil=>simp [dist]
  | cons y b ihb =>
   unfold dist
   split
   ·have:=iha b;simp;omega
   ·have:=iha (y::b);have:=ihb;simp only [J19] at *;omega
def L9 (i j:Int):List Int→List Int→List Span
 | [],_=>[]
 | _::_,[]=>[]
 | x::a,y::b=>if x=y then ⟨i,j⟩::L9 (i+1) (j+1) a b else if dist a (y::b)+1=dist (x::a) (y::b) then L9 (i+1) j a (y::b) else L9 i (j+1) (x::a) b
def H24 (a b:List Int):List Change:=E16 (L9 0 0 a b) a.length b.length
theorem I34 (a b:List Int) (i j:Nat) (hi:i < a.length) (hj:j < b.length) :
  dist (a.drop i) (b.drop j)=if a[i]=b[j] then dist (a.drop (i+1)) (b.drop (j+1)) else 1+min (dist (a.drop (i+1)) (b.drop j)) (dist (a.drop i) (b.drop (j+1))):=by
 rw [J24 hi,J24 hj]
 conv=>lhs;rw [dist]
theorem D23 (a b:List Int) (i j:Nat) (hi:i < a.length) (hj:j < b.length) (p q:Int) :
  L9 p q (a.drop i) (b.drop j)=if a[i]=b[j] then ⟨p,q⟩::L9 (p+1) (q+1) (a.drop (i+1)) (b.drop (j+1)) else
   if dist (a.drop (i+1)) (b.drop j)+1=dist (a.drop i) (b.drop j) then L9 (p+1) q (a.drop (i+1)) (b.drop j) else L9 p (q+1) (a.drop i) (b.drop (j+1)):=by
 rw [J24 hi,J24 hj]
 conv=>lhs;rw [L9]
theorem W7 (p q:Int) (b:List Int):L9 p q [] b=[]:=by simp [L9]
theorem p5 (p q:Int) (a:List Int):L9 p q a []=[]:=by cases a<;>simp [L9]
theorem E56 (p q:Int) (a b:List Int):(L9 p q a b).length≤a.length:=by
 induction a generalizing p q b with
 | nil=>simp [L9]
 | cons x a iha =>
  induction b generalizing p q with
  | nil=>simp [L9]
  | cons y b ihb =>
   unfold L9
   split
   ·have:=iha (p+1) (q+1) b;simp;omega
   ·split
    ·have:=iha (p+1) q (y::b);simp;omega
    ·exact ihb p (q+1)
universe u
theorem E94 {α:Type u} (n k:Nat) (f g:Nat→α) (v:α) (hv:k < n→g k=v) (h:∀q,q < n→q≠k→g q=f q):((List.range n).map f).set k v=(List.range n).map g:=by
 refine List.ext_getElem (by simp) fun q h1 h2=>?_
 have hq:q < n:=by simpa using h2
 rw [List.getElem_set]
 by_cases he:k=q
 ·subst he;simp [hv hq]
 ·rw [if_neg he];simp [h q hq (Ne.symm he)]
theorem I35 {α:Type u} (n k:Nat) (f:Nat→α) (h:k < n):((List.range n).map f)[k]?=some (f k):=by simp [h]
theorem A93 (i j:Int):T4 i j 0=[]:=rfl
theorem F51 (i j:Int) (n:Nat):T4 i j (n+1)=T4 i j n++[⟨i+n,j+n⟩]:=by simp [T4,J63]
def Asc (m n:Int):Int→Int→List Span→Prop
 | i,j,[]=>i≤m∧j≤n
 | i,j,x::r=>i≤x.From∧j≤x.To∧Asc m n (x.From+1) (x.To+1) r
theorem Asc.le {m n:Int}:∀{p:List Span} {i j:Int},Asc m n i j p→i≤m∧j≤n
 | [],i,j,h=>h
 | x::r,i,j,h=>by have:=Asc.le h.2.2;have:=h.1;have:=h.2.1;omega
theorem Asc.weaken {m n:Int} {p:List Span} {i j i' j':Int} (h:Asc m n i j p) (hi:i'≤i) (hj:j'≤j):Asc m n i' j' p:=by
 cases p with
 | nil=>exact ⟨by have:=h.1;omega,by have:=h.2;omega⟩
 | cons x r=>exact ⟨by have:=h.1;omega,by have:=h.2.1;omega,h.2.2⟩
theorem H25 (a b:List Int):∀(p q:Int),Asc (p+a.length) (q+b.length) p q (L9 p q a b):=by
 induction a generalizing b with
 | nil=>intro p q;rw [W7];simp only [Asc,J22];omega
 | cons x a iha =>
  induction b with
  | nil=>intro p q;rw [p5];simp only [Asc,J22];omega
  | cons y b ihb =>
   intro p q
   rw [L9]
   split
   ·have:=iha b (p+1) (q+1)
    refine ⟨Int.le_refl _,Int.le_refl _,?_⟩
    simp only [J19]
    rwa [show p+((a.length+1:Nat):Int)=p+1+a.length by omega,show q+((b.length+1:Nat):Int)=q+1+b.length by omega]
   ·split
    ·have:=(iha (y::b) (p+1) q).weaken (i':=p) (j':=q) (by omega) (Int.le_refl _)
     rwa [show p+((x::a).length:Int)=p+1+a.length by simp;omega]
    ·have:=(ihb p (q+1)).weaken (i':=p) (j':=q) (Int.le_refl _) (by omega)
     rwa [show q+((y::b).length:Int)=q+1+b.length by simp;omega]
theorem Asc.made {m n:Int}:∀{p:List Span} {i j:Int},Asc m n i j p→∀c∈B48 i j p m n,i≤c.Old∧j≤c.New∧0≤c.OldLen∧0≤c.NewLen∧c.Old+c.OldLen≤m∧c.New+c.NewLen≤n
 | [],i,j,h,c,hc=>by
  unfold B48 at hc
  split at hc
  ·simp only [List.mem_singleton] at hc;subst hc
   have:=h.1;have:=h.2
   simp only;omega
  ·cases hc
 | x::r,i,j,h,c,hc=>by
  unfold B48 at hc
  obtain ⟨h1,h2,h3⟩:=h
  have h4:=h3.le
  rcases List.mem_append.1 hc with hc | hc
  ·split at hc
   ·simp only [List.mem_singleton] at hc;subst hc
    simp only;omega
   ·cases hc
  ·have:=Asc.made h3 c hc;omega
end Go.AL
namespace Go.AL
open Go
def bitAt (m:Int) (c:Nat):Bool:=m / 2 ^ c % 2 == 1
def visB (r:Row) (c:Int):Bool:=if c = -1 then !r.Lost else if c < -1∨32≤c then false else bitAt r.Marks c.toNat == r.Lost
def colOf (rows:List Row) (c:Int):List Str:=(rows.filter (visB · c)).map (·.Text)
def markOk (n:Nat) (r:Row):Bool:=r.Marks / 2 ^ n == 0&&!(r.Lost&&r.Marks == 0)
end Go.AL
namespace Go.AL
open Go
abbrev Loom:=List Int × (Nat→List (List Int))
structure LoomOk (Q:Int→Prop) (B lines n:Nat) (s:Loom):Prop where
 len:s.1.length=lines
 marks:∀m∈s.1,0≤m∧m < 4294967296
 gaps:∀k,(s.2 k).length=n∧∀x∈s.2 k,x.length≤B∧∀v∈x,Q v
end Go.AL
namespace Go.AL
open Go
theorem C51 (s:Str):Lib.hasSuffix s [10]=ended s:=by
 unfold Lib.hasSuffix ended
 rw [Bool.eq_iff_iff,List.isSuffixOf_iff_suffix,beq_iff_eq]
 constructor
 ·rintro ⟨t,rfl⟩;simp
 ·intro h
  obtain ⟨hne,h2⟩:=List.getLast?_eq_some_iff.1 h
  exact ⟨hne,h2.symm⟩
def F52 (s:Str):Str:=if ended s then s.dropLast else s
theorem E57 (s:Str):Lib.trimSuffix s [10]=F52 s:=by
 unfold Lib.trimSuffix F52
 rw [C51,List.dropLast_eq_take];rfl
theorem d5 (c:UInt8):∀l:Str,(c∉l∧Lib.indexByte l c = -1)∨∃a b,l=a++c::b∧c∉a∧Lib.indexByte l c=a.length
 | []=>.inl ⟨by simp,rfl⟩
 | x::l=>by
  unfold Lib.indexByte
  by_cases hx:x=c
  ·exact .inr ⟨[],l,by rw [hx];rfl,by simp,by simp [hx]⟩
  ·rcases d5 c l with ⟨h1,h2⟩ | ⟨a,b,h1,h2,h3⟩
   ·exact .inl ⟨by simp [h1,Ne.symm hx],by simp [hx,h2]⟩
   ·refine .inr ⟨x::a,b,by rw [h1];rfl,by simp [h2,Ne.symm hx],?_⟩
    have h4:¬((a.length:Int) = -1):=by omega
    simp [hx,h3,h4]
theorem E58 (c:UInt8) (l:Str):0≤Lib.indexByte l c↔c∈l:=by
 rcases d5 c l with ⟨h1,h2⟩ | ⟨a,b,h1,h2,h3⟩
 ·rw [h2];simp [h1]
 ·rw [h3,h1];simp
def and32 (a b:Int):Int:=IntKind.u32.wrap ((BitVec.ofInt IntKind.u32.bits a &&& BitVec.ofInt IntKind.u32.bits b).toNat:Int)
def not32 (a:Int):Int:=IntKind.u32.wrap ((BitVec.ofInt IntKind.u32.bits IntKind.u32.max ^^^ BitVec.ofInt IntKind.u32.bits a).toNat:Int)
def inOf (r:Row):Int:=if r.Lost then r.Marks else not32 r.Marks
def addOk (res:Bool) (par:Int) (r:Row):Bool:=decide (and32 par (inOf r)=0)&&(r.Lost||!res)
structure EndsAt (res:Bool) (par:Int) (bad:Int→Bool):Prop where
 res:res=bad (-1)
 par:∃p:Nat,p < 4294967296∧par=p∧∀c:Nat,c < 32→p.testBit c=bad c
end Go.AL
namespace Go.AL
open Go
def plainB (c:UInt8):Bool:=decide (33≤c.toNat∧c.toNat≤126∧c.toNat≠34∧c.toNat≠92)
def digs8:Str:=[48,49,50,51,52,53,54,55]
def octOf (c:UInt8):Str:=(digs8.drop (c.toNat / 64)).take 1++(digs8.drop (c.toNat / 8 % 8)).take 1++(digs8.drop (c.toNat % 8)).take 1
def escOf (c:UInt8):Str:=if c.toNat=34∨c.toNat=92 then [92,c] else if c.toNat=10 then [92,110] else if c.toNat=9 then [92,116] else if c.toNat < 32∨126 < c.toNat then 92::octOf c else [c]
def H63 (s:Str):Str:=if s≠[]∧s.all plainB=true then s else 34::((s.map escOf).flatten++[34])
def H64 (n:Int):Str:=if n < 0∨2147483647 < n then [] else Lib.itoa n
def H65 (a n:Int):Str:=if a < 0∨n < 0∨2147483647 < a∨2147483647 - a < n then [] else if n=0 then H64 a++[44,48] else if n=1 then H64 (a+1) else H64 (a+1)++[44]++H64 n
end Go.AL
namespace Go.AL
open Go
def O2 (cur:Str):Str→List Str
 | []=>[cur]
 | c::r=>if c=10 then (cur++[c])::O2 [] r else O2 (cur++[c]) r
def Q7 (b:Str):List Str:=O2 [] b
theorem E59 (a cur:Str) (h:(10:UInt8)∉a):O2 cur a=[cur++a]:=by
 induction a generalizing cur with
 | nil=>simp [O2]
 | cons c r ih =>
  simp only [J44,not_or] at h
  rw [O2,if_neg (fun e=>h.1 e.symm),ih _ h.2];simp
theorem F53 (a b cur:Str) (h:(10:UInt8)∉a):O2 cur (a++10::b)=(cur++a++[10])::O2 [] b:=by
 induction a generalizing cur with
 | nil=>simp [O2]
 | cons c r ih =>
  simp only [J44,not_or] at h
  rw [J37,O2,if_neg (fun e=>h.1 e.symm),ih _ h.2];simp
theorem Y8 (s cur:Str):(O2 cur s).length=s.count 10+1:=by
 induction s generalizing cur with
 | nil=>rfl
 | cons c r ih =>
  by_cases hc:c=10
  ·subst hc;rw [O2,if_pos rfl,J19,ih,List.count_cons_self]
  ·rw [O2,if_neg hc,ih,List.count_cons_of_ne hc]
theorem G37 (s cur:Str):J8 cur s=if (O2 cur s).getLastD []=[] then (O2 cur s).dropLast else O2 cur s:=by
 induction s generalizing cur with
 | nil=>by_cases h:cur=[]<;>simp [J8,O2,h]
 | cons c r ih =>
  rw [J8,O2]
  by_cases hc:c=10
  ·rw [if_pos hc,if_pos hc,ih]
   have hn:O2 [] r≠[]:=fun e=>by have:=Y8 r [];rw [e] at this;simp at this
   obtain ⟨x,y,hxy⟩:=List.exists_cons_of_ne_nil hn
   rw [hxy]
   have e1:((cur++[c])::x::y).getLastD []=(x::y).getLastD []:=by cases y<;>simp [List.getLastD]
   rw [e1]
   split
   ·rfl
   ·rfl
  ·rw [if_neg hc,if_neg hc,ih]
theorem E18 (s cur:Str):(J8 cur s).length=s.count 10+if s=[] then (if cur=[] then 0 else 1) else if ended s=true then 0 else 1:=by
 induction s generalizing cur with
 | nil=>by_cases h:cur=[]<;>simp [J8,h]
 | cons c r ih =>
  have he:ended (c::r)=if r=[] then c == 10 else ended r:=by
   cases r with
   | nil=>simp [ended]
   | cons d t=>simp [ended,List.getLast?_cons_cons]
  rw [J8,if_neg (List.cons_ne_nil _ _),he]
  by_cases hc:c=10
  ·subst hc
   rw [if_pos rfl,J19,ih,List.count_cons_self]
   by_cases hr:r=[]<;>simp [hr]
   omega
  ·rw [if_neg hc,ih,List.count_cons_of_ne hc]
   by_cases hr:r=[]<;>simp [hr,hc]
theorem A53 (s:Str):(K3 s).length=s.count 10+if s≠[]∧ended s=false then 1 else 0:=by
 unfold K3
 rw [E18]
 by_cases hs:s=[]<;>simp [hs]
 cases ended s<;>simp
theorem H26 {P:List Str} {i:Nat} {r a b:Str} (h:P.drop i=Q7 r) (hr:r=a++10::b) (ha:(10:UInt8)∉a):P[i]?=some (a++[10])∧P.drop (i+1)=Q7 b:=by
 have e:Q7 r=(a++[10])::Q7 b:=by rw [hr];unfold Q7;rw [F53 _ _ _ ha];rfl
 rw [e] at h
 refine ⟨by rw [←List.head?_drop,h];rfl,?_⟩
 rw [←List.tail_drop,h];rfl
theorem E95 {α:Type} (P:List α) (z x:α) (i:Nat) (h:P[i]?=some x):(P.take i++List.replicate (P.length - i) z).set i x=P.take (i+1)++List.replicate (P.length - (i+1)) z:=by
 obtain ⟨hi,hx⟩:=List.getElem?_eq_some_iff.1 h
 have hl:(P.take i).length=i:=by rw [J25];omega
 rw [List.set_append_right _ _ (by omega),hl,J61,show P.length - i=(P.length - (i+1))+1 by omega,List.replicate_succ,List.set_cons_zero,J56 hi,hx,J28]
 rfl
def B72 (b:Str):List Str × Int:=if b.length > 1048576∨(K3 b).length > 4096 then ([],1) else (K3 b,0)
end Go.AL
namespace Go.AL
open Go
def N8 (n:Int):Prop:=0≤n∧n≤4096
instance (n:Int):Decidable (N8 n):=by unfold N8;exact inferInstance
def badC (k:Nat) (i j:Int) (c:Change):Prop:=((((((¬N8 c.Old∨¬N8 c.OldLen)∨¬N8 c.New)∨¬N8 c.NewLen)∨c.OldLen+c.NewLen=0)∨c.Old - i≠c.New - j)∨c.Old < i)∨(0 < (k:Int)∧c.Old=i)
instance (k:Nat) (i j:Int) (c:Change):Decidable (badC k i j c):=by unfold badC;exact inferInstance
def P5 (k:Nat) (i j:Int):List Change→Int→Int→Bool
 | [],m,n=>decide (¬(m - i≠n - j∨m < i))
 | c::r,m,n=>decide (¬badC k i j c)&&P5 (k+1) (c.Old+c.OldLen) (c.New+c.NewLen) r m n
def check8 (l:List Change) (m n:Int):Int:=if ¬N8 m∨¬N8 n then 80 else if P5 0 0 0 l m n=true then 0 else 80
def ScOk (i j:Int):List Change→Int→Int→Prop
 | [],m,n=>i≤m∧j≤n
 | c::r,m,n=>N8 c.Old∧N8 c.OldLen∧N8 c.New∧N8 c.NewLen∧i≤c.Old∧j≤c.New∧ScOk (c.Old+c.OldLen) (c.New+c.NewLen) r m n
theorem B49:∀(l:List Change) (k:Nat) (i j m n:Int),P5 k i j l m n=true→ScOk i j l m n
 | [],k,i,j,m,n,h=>by simp only [P5,decide_eq_true_eq] at h;simp only [ScOk];omega
 | c::r,k,i,j,m,n,h=>by
  simp only [P5,J16,decide_eq_true_eq] at h
  obtain ⟨h1,h2⟩:=h
  unfold badC at h1
  refine ⟨?_,?_,?_,?_,?_,?_,B49 r _ _ _ m n h2⟩
  all_goals (by_cases a1:N8 c.Old<;>by_cases a2:N8 c.OldLen<;>by_cases a3:N8 c.New<;>by_cases a4:N8 c.NewLen<;>simp [a1,a2,a3,a4] at h1 ⊢<;>omega)
def cAt (l:List Change) (k:Nat):Change:=l.getD k ⟨0,0,0,0⟩
theorem ScOk.end_le:∀{l:List Change} {i j m n:Int},ScOk i j l m n→i≤m∧j≤n
 | [],_,_,_,_,h=>h
 | c::r,i,j,m,n,⟨h1,h2,h3,h4,h5,h6,h7⟩=>by have:=h7.end_le;unfold N8 at *;omega
theorem ScOk.get:∀{l:List Change} {i j m n:Int} (k:Nat),ScOk i j l m n→k < l.length→N8 (cAt l k).Old∧N8 (cAt l k).OldLen∧N8 (cAt l k).New∧N8 (cAt l k).NewLen∧(cAt l k).Old+(cAt l k).OldLen≤m∧(cAt l k).New+(cAt l k).NewLen≤n
 | c::r,i,j,m,n,0,⟨h1,h2,h3,h4,h5,h6,h7⟩,_=>by have:=h7.end_le;exact ⟨h1,h2,h3,h4,this.1,this.2⟩
 | c::r,i,j,m,n,k+1,⟨h1,h2,h3,h4,h5,h6,h7⟩,hk=>by
  have:=h7.get k (by simpa using hk)
  simpa [cAt] using this
theorem ScOk.next:∀{l:List Change} {i j m n:Int} (k:Nat),ScOk i j l m n→k+1 < l.length→(cAt l k).Old+(cAt l k).OldLen≤(cAt l (k+1)).Old
 | [c],_,_,_,_,_,_,hk=>by simp at hk
 | c::c2::r,i,j,m,n,0,⟨_,_,_,_,_,_,h7⟩,_=>by simpa [cAt] using h7.2.2.2.2.1
 | c::c2::r,i,j,m,n,k+1,⟨_,_,_,_,_,_,h7⟩,hk=>by
  have:=h7.next k (by simpa using hk)
  simpa [cAt] using this
theorem ScOk.mono {l:List Change} {m n:Int} (h:ScOk 0 0 l m n):∀(a b:Nat),a≤b→b < l.length→(cAt l a).Old≤(cAt l b).Old∧(cAt l a).Old+(cAt l a).OldLen≤(cAt l b).Old+(cAt l b).OldLen
 | a,0,h1,h2=>by rw [show a=0 by omega];omega
 | a,b+1,h1,h2=>by
  by_cases hab:a=b+1
  ·subst hab;omega
  ·have h3:=h.mono a b (by omega) (by omega)
   have h4:=h.next b h2
   have h5:=h.get b (by omega)
   have h6:=h.get (b+1) h2
   unfold N8 at *;omega
def F54 (a b:Int):Int:=if b < a then b else a
def opens (l:List Change) (ctx:Int) (k:Nat):Prop:=k=0∨2*ctx < (cAt l k).Old - (cAt l (k - 1)).Old - (cAt l (k - 1)).OldLen
instance (l:List Change) (ctx:Int) (k:Nat):Decidable (opens l ctx k):=by unfold opens;exact inferInstance
def H66:Hunk:=⟨0,0,⟨0,0⟩,⟨0,0⟩⟩
def A73 (l:List Change) (ctx:Int) (k:Nat):Hunk:=⟨k,0,⟨(cAt l k).Old - F54 ctx (cAt l k).Old,0⟩,⟨(cAt l k).New - F54 ctx (cAt l k).Old,0⟩⟩
def C52 (l:List Change) (m ctx:Int) (k:Nat) (h:Hunk):Hunk :=
 let c:=cAt l k
 let a:=F54 ctx (m - (c.Old+c.OldLen))
 ⟨h.First,k+1,⟨h.Old.From,c.Old+c.OldLen+a⟩,⟨h.New.From,c.New+c.NewLen+a⟩⟩
def C89 (l:List Change) (ctx:Int) (k:Nat) (out:List Hunk):List Hunk:=if opens l ctx k then out++[A73 l ctx k] else out
def X4 (l:List Change) (m ctx:Int):Nat→List Hunk
 | 0=>[]
 | k+1=>let out:=C89 l ctx k (X4 l m ctx k);out.set (out.length - 1) (C52 l m ctx k (out.getD (out.length - 1) H66))
theorem D24 (l:List Change) (m ctx:Int):∀k,(X4 l m ctx k).length≤k∧(0 < k→0 < (X4 l m ctx k).length)
 | 0=>by simp [X4]
 | k+1=>by
  have h:=D24 l m ctx k
  simp only [X4,J41,C89]
  split
  ·simp only [J20,J19,J22];omega
  ·rename_i ho
   have:k≠0:=fun e=>ho (.inl e)
   omega
end Go.AL
namespace Go.AL
open Go
def nameOk (s:Str):Bool:=decide (1≤s.length∧s.length≤200)
def H2 (ls:List PatchLine) (k:UInt8):List Str:=(ls.filter (fun x=>decide (x.Kind≠k))).map (·.Text)
def badLn (x:PatchLine):Prop:=((x.Kind≠32∧x.Kind≠45)∧x.Kind≠43)∨f0 x.Text=false
instance (x:PatchLine):Decidable (badLn x):=by unfold badLn;exact inferInstance
def C17 (x:PatchLine):Bool:=decide (¬badLn x)
def A54 (ls:List PatchLine):Bool:=ls.any (fun x=>decide (x.Kind≠32))
def C53 (some:Bool) (i j:Int) (h:PatchHunk):Prop:=((((some=false∨h.Old < i)∨h.New < j)∨4096 < h.Old)∨4096 < h.New)∨h.Old - i≠h.New - j
instance (s:Bool) (i j:Int) (h:PatchHunk):Decidable (C53 s i j h):=by unfold C53;exact inferInstance
def B79 (h:PatchHunk):Int:=(H2 h.Lines 43).length
def B80 (h:PatchHunk):Int:=(H2 h.Lines 45).length
def C90 (i j:Int):List PatchHunk→Bool
 | []=>true
 | h::r=>h.Lines.all C17&&(decide (¬C53 (A54 h.Lines) i j h)&&(decide (¬(4096 < h.Old+B79 h∨4096 < h.New+B80 h))&&C90 (h.Old+B79 h) (h.New+B80 h) r))
def N2 (hs:List PatchHunk) (k:UInt8):List Str:=(hs.map (fun h=>H2 h.Lines k)).flatten
def u6:List Str→Bool
 | []=>true
 | x::r=>(r.isEmpty||ended x)&&u6 r
def H27 (hs:List PatchHunk) (k:UInt8):Bool:=u6 (N2 hs k)
def C91 (hs:List PatchHunk):Bool:=C90 0 0 hs&&(H27 hs 43&&H27 hs 45)
def markS:Str:=[10,92,32,78,111,32,110,101,119,108,105,110,101,32,97,116,32,101,110,100,32,111,102,32,102,105,108,101,10]
def linePs (x:PatchLine):List Str:=if ended x.Text then [[x.Kind]++x.Text] else [[x.Kind]++x.Text,markS]
def headW (h:PatchHunk):Str:=[64,64,32,45]++H65 h.Old (B79 h)++[32,43]++H65 h.New (B80 h)++[32,64,64,10]
def hunkPs (h:PatchHunk):List Str:=headW h::(h.Lines.map linePs).flatten
def namePs (p:Patch):List Str:=[[45,45,45,32]++H63 p.OldName++[10],[43,43,43,32]++H63 p.NewName++[10]]
def writePs (p:Patch):List Str:=namePs p++(p.Hunks.map hunkPs).flatten
def H67 (p:Patch):Str:=(writePs p).flatten
def C54 (p:Patch):Int:=if nameOk p.OldName=false∨nameOk p.NewName=false then 120 else if C91 p.Hunks=false then 121 else if 16777216 < (H67 p).length then 1 else 0
def szL (x:PatchLine):Nat:=x.Text.length+64
def szH (h:PatchHunk):Nat:=64+(h.Lines.map szL).sum
def szP (hs:List PatchHunk):Nat:=(hs.map szH).sum
structure PFit (p:Patch):Prop where
 old:p.OldName.length≤4194304
 new:p.NewName.length≤4194304
 hunks:szP p.Hunks≤268435456
theorem szL_len (ls:List PatchLine):64*ls.length≤(ls.map szL).sum:=by
 induction ls with
 | nil=>simp
 | cons x r ih=>simp only [J33,List.sum_cons,J19,szL];omega
end Go.AL
namespace Go.AL
open Go
def A33 (k:UInt8) (ts:List Str):List PatchLine:=ts.map fun t=>⟨k,t⟩
def sub (x:List Str) (a b:Int):List Str:=(x.drop a.toNat).take (b.toNat - a.toNat)
def B14 (c:Change):Int:=c.Old+c.OldLen
def A34 (l:List Change) (i0:Int) (a t:Nat):Int:=if t=0 then i0 else B14 (cAt l (a+t - 1))
theorem H28 (l:List Change) (i0:Int) (a t:Nat):A34 l i0 a (t+1)=B14 (cAt l (a+t)):=by
 unfold A34;rw [if_neg (by omega)];congr 2
def x2 (l:List Change) (x y:List Str) (i0:Int) (a:Nat):Nat→List PatchLine
 | 0=>[]
 | t+1=>x2 l x y i0 a t++A33 32 (sub x (A34 l i0 a t) (cAt l (a+t)).Old)++A33 45 (sub x (cAt l (a+t)).Old (B14 (cAt l (a+t))))++A33 43 (sub y (cAt l (a+t)).New ((cAt l (a+t)).New+(cAt l (a+t)).NewLen))
def d6 (l:List Change) (x y:List Str) (h:Hunk):PatchHunk :=
 ⟨h.Old.From,h.New.From,x2 l x y h.Old.From h.First.toNat (h.Last.toNat - h.First.toNat)++A33 32 (sub x (A34 l h.Old.From h.First.toNat (h.Last.toNat - h.First.toNat)) h.Old.To)⟩
end Go.AL
namespace Go.AL
open Go
end Go.AL
namespace Go.AL
open Go
def G38 (i j:Int) (h:PatchHunk):Prop:=((((h.Old < 0∨h.New < 0)∨4096 < h.Old)∨4096 < h.New)∨h.Old < i)∨h.Old - i≠h.New - j
instance (i j:Int) (h:PatchHunk):Decidable (G38 i j h):=by unfold G38;exact inferInstance
end Go.AL
namespace Go.AL
open Go
end Go.AL
namespace Go.AL
open Go
theorem D48 {x:List Str} {a b:Int} {s:Str} (h:s∈sub x a b):s∈x:=by
 unfold sub at h
 exact List.mem_of_mem_drop (List.mem_of_mem_take h)
end Go.AL
namespace Go.AL
open Go
def F55 (c:Change):Int:=c.New+c.NewLen
def eoI (i:Int) (l:List Change) (k:Nat):Int:=if k=0 then i else B14 (cAt l (k - 1))
def enI (j:Int) (l:List Change) (k:Nat):Int:=if k=0 then j else F55 (cAt l (k - 1))
theorem u7 (i:Int) (c:Change) (r:List Change) (k:Nat):eoI i (c::r) (k+1)=eoI (B14 c) r k:=by
 cases k<;>rfl
theorem u9 (j:Int) (c:Change) (r:List Change) (k:Nat):enI j (c::r) (k+1)=enI (F55 c) r k:=by
 cases k<;>rfl
theorem B50 (i:Int) (l:List Change) (k:Nat):eoI i l (k+1)=B14 (cAt l k):=rfl
theorem B51 (j:Int) (l:List Change) (k:Nat):enI j l (k+1)=F55 (cAt l k):=rfl
theorem C55 (c:Change) (r:List Change) (k:Nat):cAt (c::r) (k+1)=cAt r k:=rfl
def C92 (x y:List Str) (i j:Int):List Change→Prop
 | []=>sub x i x.length=sub y j y.length
 | c::r=>sub x i c.Old=sub y j c.New∧C92 x y (B14 c) (F55 c) r
theorem A13 (m n:Int):∀(l:List Change) (k0:Nat) (i j:Int),P5 k0 i j l m n=true→∀k,k < l.length →
  N8 (cAt l k).Old∧N8 (cAt l k).OldLen∧N8 (cAt l k).New∧N8 (cAt l k).NewLen∧(cAt l k).OldLen+(cAt l k).NewLen≠0∧(cAt l k).Old - eoI i l k=(cAt l k).New - enI j l k∧eoI i l k≤(cAt l k).Old∧(0 < k0+k→eoI i l k < (cAt l k).Old)
 | [],_,_,_,_,k,hk=>by simp at hk
 | c :: r,k0,i,j,h,k,hk=>by
  simp only [P5,J16,decide_eq_true_eq] at h
  obtain ⟨h1,h2⟩:=h
  cases k with
  | zero =>
   unfold badC at h1
   show N8 c.Old∧N8 c.OldLen∧N8 c.New∧N8 c.NewLen∧c.OldLen+c.NewLen≠0∧c.Old - i=c.New - j∧i≤c.Old∧(0 < k0+0→i < c.Old)
   have d1:N8 c.Old:=by by_cases q:N8 c.Old;exact q;exact absurd (.inl (.inl (.inl (.inl (.inl (.inl (.inl q))))))) h1
   have d2:N8 c.OldLen:=by by_cases q:N8 c.OldLen;exact q;exact absurd (.inl (.inl (.inl (.inl (.inl (.inl (.inr q))))))) h1
   have d3:N8 c.New:=by by_cases q:N8 c.New;exact q;exact absurd (.inl (.inl (.inl (.inl (.inl (.inr q)))))) h1
   have d4:N8 c.NewLen:=by by_cases q:N8 c.NewLen;exact q;exact absurd (.inl (.inl (.inl (.inl (.inr q))))) h1
   refine ⟨d1,d2,d3,d4,fun q=>h1 (.inl (.inl (.inl (.inr q)))),?_,?_,fun h0=>?_⟩
   ·by_cases q:c.Old - i=c.New - j
    ·exact q
    ·exact absurd (.inl (.inl (.inr q))) h1
   ·by_cases q:c.Old < i
    ·exact absurd (.inl (.inr q)) h1
    ·omega
   ·by_cases q:c.Old < i
    ·exact absurd (.inl (.inr q)) h1
    ·by_cases q2:c.Old=i
     ·exact absurd (.inr ⟨by omega,q2⟩) h1
     ·omega
  | succ k =>
   have:=A13 m n r (k0+1) _ _ h2 k (by simpa using hk)
   rw [C55,u7,u9]
   obtain ⟨e1,e2,e3,e4,e5,e6,e7,e8⟩:=this
   exact ⟨e1,e2,e3,e4,e5,e6,e7,fun h0=>e8 (by omega)⟩
theorem H29 (m n:Int):∀(l:List Change) (k0:Nat) (i j:Int),P5 k0 i j l m n=true→m - eoI i l l.length=n - enI j l l.length∧eoI i l l.length≤m
 | [],_,i,j,h=>by
  simp only [P5,decide_eq_true_eq] at h
  show m - i=n - j∧i≤m
  omega
 | c::r,k0,i,j,h=>by
  simp only [P5,J16,decide_eq_true_eq] at h
  rw [J19,u7,u9]
  exact H29 m n r _ _ _ h.2
theorem F56 (x y:List Str):∀(l:List Change) (i j:Int),C92 x y i j l→∀k,k < l.length→sub x (eoI i l k) (cAt l k).Old=sub y (enI j l k) (cAt l k).New
 | [],_,_,_,k,hk=>by simp at hk
 | c::r,i,j,h,k,hk=>by
  cases k with
  | zero=>exact h.1
  | succ k=>rw [u7,u9,C55];exact F56 x y r _ _ h.2 k (by simpa using hk)
theorem H30 (x y:List Str):∀(l:List Change) (i j:Int),C92 x y i j l→sub x (eoI i l l.length) x.length=sub y (enI j l l.length) y.length
 | [],_,_,h=>h
 | c::r,i,j,h=>by rw [J19,u7,u9];exact H30 x y r _ _ h.2
def mkH (l:List Change) (m ctx:Int) (a b:Nat):Hunk:=C52 l m ctx (b - 1) (A73 l ctx a)
def GrOk (l:List Change) (m ctx:Int):Nat→List Hunk→Nat→Prop
 | a,[],k=>a=k
 | a,h::r,k=>∃b,a < b∧opens l ctx a∧h=mkH l m ctx a b∧GrOk l m ctx b r k
theorem GrOk.le {l:List Change} {m ctx:Int}:∀{hs:List Hunk} {a k:Nat},GrOk l m ctx a hs k→a≤k
 | [],a,k,h=>Nat.le_of_eq h
 | _::_,a,k,⟨b,h1,_,_,h2⟩=>by have:=GrOk.le h2;omega
theorem GrOk.snoc {l:List Change} {m ctx:Int} {k:Nat} (ho:opens l ctx k):∀{hs:List Hunk} {a:Nat},GrOk l m ctx a hs k→GrOk l m ctx a (hs++[mkH l m ctx k (k+1)]) (k+1)
 | [],a,h=>by
  obtain rfl:a=k:=h
  exact ⟨a+1,by omega,ho,rfl,rfl⟩
 | _::_,a,⟨b,h1,h2,h3,h4⟩=>⟨b,h1,h2,h3,GrOk.snoc ho h4⟩
theorem GrOk.last {l:List Change} {m ctx:Int} {k:Nat}:∀{hs:List Hunk} {a:Nat},GrOk l m ctx a hs k→hs≠[]→GrOk l m ctx a (hs.set (hs.length - 1) (C52 l m ctx k (hs.getD (hs.length - 1) H66))) (k+1)
 | [],_,_,h0=>absurd rfl h0
 | [h],a,⟨b,h1,h2,h3,h4⟩,_=>by
  obtain rfl:b=k:=h4
  subst h3
  exact ⟨b+1,by omega,h2,rfl,rfl⟩
 | h::h'::r,a,⟨b,h1,h2,h3,h4⟩,_=>by
  have ih:=GrOk.last h4 (by simp)
  refine ⟨b,h1,h2,h3,?_⟩
  simpa using ih
theorem A94 (l:List Change) (m ctx:Int):∀k,GrOk l m ctx 0 (X4 l m ctx k) k
 | 0=>rfl
 | k+1=>by
  have ih:=A94 l m ctx k
  have hne:=(D24 l m ctx k).2
  simp only [X4,C89]
  by_cases ho:opens l ctx k
  ·rw [if_pos ho]
   have e:(X4 l m ctx k++[A73 l ctx k]).set ((X4 l m ctx k++[A73 l ctx k]).length - 1) (C52 l m ctx k ((X4 l m ctx k++[A73 l ctx k]).getD ((X4 l m ctx k++[A73 l ctx k]).length - 1) H66))=X4 l m ctx k++[mkH l m ctx k (k+1)]:=by
    simp [mkH]
   rw [e]
   exact ih.snoc ho
  ·rw [if_neg ho]
   refine ih.last ?_
   have:k≠0:=fun e=>ho (.inl e)
   have:=hne (by omega)
   intro e;rw [e] at this;simp at this
theorem A95 (x:List Str) {a b c:Int} (h0:0≤a) (h1:a≤b) (h2:b≤c):sub x a b++sub x b c=sub x a c:=by
 unfold sub
 obtain ⟨u,rfl⟩:∃u:Nat,(u:Int)=a:=⟨a.toNat,by omega⟩
 obtain ⟨v,rfl⟩:∃v:Nat,(v:Int)=b:=⟨b.toNat,by omega⟩
 obtain ⟨w,rfl⟩:∃w:Nat,(w:Int)=c:=⟨c.toNat,by omega⟩
 simp only [J17]
 have h3:x.drop v=(x.drop u).drop (v - u):=by rw [List.drop_drop];congr 1;omega
 rw [h3,show w - u=(v - u)+(w - v) by omega,List.take_add]
theorem H68 (x:List Str) (a:Int):sub x a a=[]:=by simp [sub]
theorem A96 (x:List Str) {a b:Int} (h0:0≤a) (h1:a≤b) (h2:b≤x.length):((sub x a b).length:Int)=b - a:=by
 unfold sub;rw [J25,J29];omega
theorem E19 {x y:List Str} {p q p' q' e:Int} (h:sub x p q=sub y p' q') (h0:0≤p) (h0':0≤p') (he:0≤e) (h1:e≤q - p) (h2:q - p=q' - p'):sub x (q - e) q=sub y (q' - e) q':=by
 have key:∀(z:List Str) (a b:Int),0≤a→e≤b - a→sub z (b - e) b=(sub z a b).drop (b - a - e).toNat:=by
  intro z a b ha hb
  unfold sub
  rw [List.drop_take,List.drop_drop]
  congr 1
  ·omega
  ·congr 1;omega
 rw [key x p q h0 h1,key y p' q' h0' (by omega),h,h2]
theorem G39 {x y:List Str} {p q p' q' e:Int} (h:sub x p q=sub y p' q') (h0:0≤p) (h0':0≤p') (he:0≤e) (h1:e≤q - p) (h2:q - p=q' - p'):sub x p (p+e)=sub y p' (p'+e):=by
 have key:∀(z:List Str) (a b:Int),0≤a→e≤b - a→sub z a (a+e)=(sub z a b).take e.toNat:=by
  intro z a b ha hb
  unfold sub
  rw [List.take_take]
  congr 1
  omega
 rw [key x p q h0 h1,key y p' q' h0' (by omega),h]
theorem A97 (p q:List PatchLine) (k:UInt8):H2 (p++q) k=H2 p k++H2 q k:=by simp [H2]
theorem A98 (k k':UInt8) (ts:List Str):H2 (A33 k ts) k'=if k=k' then [] else ts:=by
 unfold H2 A33
 by_cases h:k=k'
 ·rw [if_pos h];subst h
  simp [List.filter_eq_nil_iff]
 ·rw [if_neg h]
  rw [List.filter_eq_self.2 (by simp [h])]
  simp [Function.comp_def]
structure ScFit (x y:List Str) (l:List Change):Prop where
 lx:(x.length:Int)≤4096
 ly:(y.length:Int)≤4096
 sc:P5 0 0 0 l x.length y.length=true
 eq:C92 x y 0 0 l
section
variable {x y:List Str} {l:List Change}
theorem ScFit.ok (h:ScFit x y l):ScOk 0 0 l x.length y.length:=B49 _ _ _ _ _ _ h.sc
theorem ScFit.check (h:ScFit x y l):check8 l x.length y.length=0:=by
 have h1:=h.lx
 have h2:=h.ly
 unfold check8
 rw [if_neg (by unfold N8;omega),if_pos h.sc]
theorem ScFit.nn (h:ScFit x y l) (k:Nat) (hk:k≤l.length):0≤eoI 0 l k∧0≤enI 0 l k∧eoI 0 l k≤x.length∧enI 0 l k≤y.length:=by
 cases k with
 | zero=>exact ⟨Int.le_refl _,Int.le_refl _,Int.natCast_nonneg _,Int.natCast_nonneg _⟩
 | succ k =>
  obtain ⟨⟨a1,a2⟩,⟨b1,b2⟩,⟨c1,c2⟩,⟨d1,d2⟩,h5,h6⟩:=h.ok.get k (by omega)
  rw [B50,B51];unfold B14 F55
  omega
def eA (l:List Change) (ctx:Int) (a:Nat):Int:=F54 ctx (cAt l a).Old
def eB (l:List Change) (m ctx:Int) (b:Nat):Int:=F54 ctx (m - eoI 0 l b)
theorem H69 {a b:Int} (h:0≤a) (h':0≤b):0≤F54 a b∧F54 a b≤a∧F54 a b≤b:=by unfold F54;split<;>omega
theorem C93 {ctx:Int} {a:Nat} (ho:opens l ctx a) (ha:a≠0):2*ctx < (cAt l a).Old - eoI 0 l a:=by
 rcases ho with h | h
 ·exact absurd h ha
 ·unfold eoI;rw [if_neg ha];unfold B14;omega
theorem ScFit.before (h:ScFit x y l) {ctx:Int} (hc:0≤ctx) {a:Nat} (ha:a < l.length) (ho:opens l ctx a) :
  0≤eA l ctx a∧eA l ctx a≤ctx∧eA l ctx a≤(cAt l a).Old - eoI 0 l a:=by
 obtain ⟨⟨a1,a2⟩,_⟩:=h.ok.get a ha
 have h3:=H69 hc a1
 unfold eA
 by_cases h0:a=0
 ·subst h0
  show _∧_∧_≤(cAt l 0).Old - 0
  omega
 ·have:=C93 ho h0;omega
theorem ScFit.after (h:ScFit x y l) {ctx:Int} (hc:0≤ctx) {b:Nat} (hb:b≤l.length) (ho:b < l.length→opens l ctx b) (hb0:b≠0) :
  0≤eB l x.length ctx b∧eB l x.length ctx b≤ctx∧eoI 0 l b+eB l x.length ctx b≤x.length∧enI 0 l b+eB l x.length ctx b≤y.length ∧
   sub x (eoI 0 l b) (eoI 0 l b+eB l x.length ctx b)=sub y (enI 0 l b) (enI 0 l b+eB l x.length ctx b):=by
 obtain ⟨h1,h2,h3,h4⟩:=h.nn b hb
 have h5:=H69 hc (show 0≤(x.length:Int) - eoI 0 l b by omega)
 unfold eB
 rcases Nat.lt_or_ge b l.length with hlt | hge
 ·obtain ⟨g1,g2,g3,g4,g5,g6,g7,g8⟩:=A13 _ _ _ _ _ _ h.sc b hlt
  obtain ⟨⟨a1,a2⟩,⟨b1,b2⟩,⟨c1,c2⟩,⟨d1,d2⟩,k5,k6⟩:=h.ok.get b hlt
  have hg:=C93 (ho hlt) hb0
  refine ⟨h5.1,h5.2.1,by omega,by omega,G39 (F56 x y l 0 0 h.eq b hlt) h1 h2 h5.1 (by omega) (by omega)⟩
 ·have e:b=l.length:=by omega
  subst e
  obtain ⟨g1,g2⟩:=H29 _ _ _ _ _ _ h.sc
  refine ⟨h5.1,h5.2.1,by omega,by omega,G39 (H30 x y l 0 0 h.eq) h1 h2 h5.1 (by omega) (by omega)⟩
def F57 (l:List Change) (j0:Int) (a t:Nat):Int:=if t=0 then j0 else F55 (cAt l (a+t - 1))
theorem E20 (i0:Int) (a t:Nat) (ht:t≠0):A34 l i0 a t=eoI 0 l (a+t):=by
 unfold A34 eoI;rw [if_neg ht,if_neg (by omega)]
theorem H70 (j0:Int) (a t:Nat) (ht:t≠0):F57 l j0 a t=enI 0 l (a+t):=by
 unfold F57 enI;rw [if_neg ht,if_neg (by omega)]
theorem ScFit.made (h:ScFit x y l) {ctx:Int} (hc:0≤ctx) {a:Nat} (ho:opens l ctx a):∀t,a+t≤l.length→(t=0→a < l.length) →
  H2 (x2 l x y ((cAt l a).Old - eA l ctx a) a t) 43=sub x ((cAt l a).Old - eA l ctx a) (A34 l ((cAt l a).Old - eA l ctx a) a t) ∧
  H2 (x2 l x y ((cAt l a).Old - eA l ctx a) a t) 45=sub y ((cAt l a).New - eA l ctx a) (F57 l ((cAt l a).New - eA l ctx a) a t)
 | 0,_,_=>by
  unfold A34 F57
  rw [if_pos rfl,if_pos rfl,H68,H68]
  exact ⟨rfl,rfl⟩
 | t + 1,hl,_=>by
  have hlt:a+t < l.length:=by omega
  have hla:a < l.length:=by omega
  obtain ⟨ih1,ih2⟩:=ScFit.made h hc ho t (by omega) (fun _=>hla)
  obtain ⟨q1,q2,q3⟩:=h.before hc hla ho
  obtain ⟨p1,p2,p3,p4⟩:=h.nn (a+t) (by omega)
  obtain ⟨r1,r2,r3,r4⟩:=h.nn a (by omega)
  obtain ⟨g1,g2,g3,g4,g5,g6,g7,g8⟩:=A13 _ _ _ _ _ _ h.sc (a+t) hlt
  obtain ⟨k1,⟨k2,k2'⟩,k3,⟨k4,k4'⟩,k5,k6,k7,k8⟩:=A13 _ _ _ _ _ _ h.sc a hla
  obtain ⟨⟨a1,a2⟩,⟨b1,b2⟩,⟨c1,c2⟩,⟨d1,d2⟩,w5,w6⟩:=h.ok.get (a+t) hlt
  have hrun:sub x (A34 l ((cAt l a).Old - eA l ctx a) a t) (cAt l (a+t)).Old=sub y (F57 l ((cAt l a).New - eA l ctx a) a t) (cAt l (a+t)).New ∧
    (cAt l a).Old - eA l ctx a≤A34 l ((cAt l a).Old - eA l ctx a) a t∧A34 l ((cAt l a).Old - eA l ctx a) a t≤(cAt l (a+t)).Old ∧
    (cAt l a).New - eA l ctx a≤F57 l ((cAt l a).New - eA l ctx a) a t∧F57 l ((cAt l a).New - eA l ctx a) a t≤(cAt l (a+t)).New:=by
   have hrun:=F56 x y l 0 0 h.eq (a+t) hlt
   by_cases ht:t=0
   ·subst ht
    unfold A34 F57
    rw [if_pos rfl,if_pos rfl]
    rw [show a+0=a from rfl] at *
    exact ⟨E19 hrun r1 r2 q1 (by omega) (by omega),by omega,by omega,by omega,by omega⟩
   ·rw [E20 _ _ _ ht,H70 _ _ _ ht]
    have m1:=h.ok.mono a (a+t - 1) (by omega) (by omega)
    have m2:eoI 0 l (a+t)=(cAt l (a+t - 1)).Old+(cAt l (a+t - 1)).OldLen:=by unfold eoI;rw [if_neg (by omega)];rfl
    have m4:∀u,u≤t→(cAt l a).New≤enI 0 l (a+u)∨u=0:=by
     intro u
     induction u with
     | zero=>exact fun _=>.inr rfl
     | succ u ihu =>
      intro hu
      obtain ⟨e1,e2,⟨e3,e3'⟩,⟨e4,e4'⟩,e5,e6,e7,e8⟩:=A13 _ _ _ _ _ _ h.sc (a+u) (by omega)
      have e9:enI 0 l (a+(u+1))=(cAt l (a+u)).New+(cAt l (a+u)).NewLen:=rfl
      rcases ihu (by omega) with h' | h'
      ·left;omega
      ·left;subst h';rw [e9];show (cAt l a).New≤(cAt l a).New+(cAt l a).NewLen;exact Int.le_add_of_nonneg_right e4
    have m5:=(m4 t (Nat.le_refl _)).resolve_right ht
    refine ⟨hrun,by omega,by omega,by omega,by omega⟩
  obtain ⟨hr1,hr2,hr3,hr4,hr5⟩:=hrun
  simp (decide:=true) only [x2,A97,A98,ih1,ih2,if_true,if_false,J47]
  have e1:A34 l ((cAt l a).Old - eA l ctx a) a (t+1)=B14 (cAt l (a+t)):=H28 _ _ _ _
  have e2:F57 l ((cAt l a).New - eA l ctx a) a (t+1)=F55 (cAt l (a+t)):=rfl
  rw [e1,e2]
  have s0:0≤(cAt l a).Old - eA l ctx a:=by omega
  have s1:0≤(cAt l a).New - eA l ctx a:=by omega
  refine ⟨?_,?_⟩
  ·rw [A95 x s0 hr2 hr3,A95 x s0 (by omega) (by unfold B14;omega)]
  ·rw [hr1,A95 y s1 hr4 hr5]
   exact A95 y s1 (by omega) (by omega)
end
end Go.AL
namespace Go.AL
open Go
section
variable {x y:List Str} {l:List Change}
structure HunkIs (x y:List Str) (l:List Change) (ctx:Int) (a b:Nat) (h:PatchHunk):Prop where
 old:h.Old=(cAt l a).Old - eA l ctx a
 new:h.New=(cAt l a).New - eA l ctx a
 o0:0≤h.Old
 n0:0≤h.New
 oe:h.Old+B79 h=eoI 0 l b+eB l x.length ctx b
 ne:h.New+B80 h=enI 0 l b+eB l x.length ctx b
 ox:h.Old+B79 h≤x.length
 ny:h.New+B80 h≤y.length
 ol:H2 h.Lines 43=sub x h.Old (h.Old+B79 h)
 nl:H2 h.Lines 45=sub y h.New (h.New+B80 h)
 ch:A54 h.Lines=true
 gl:(∀s∈x,f0 s=true)→(∀s∈y,f0 s=true)→h.Lines.all C17=true
theorem E21 (p q:List PatchLine):A54 (p++q)=(A54 p||A54 q):=by simp [A54]
theorem E22 {k:UInt8} {ts:List Str} (hk:k≠32) (h:ts≠[]):A54 (A33 k ts)=true:=by
 cases ts with
 | nil=>exact absurd rfl h
 | cons t ts=>simp [A54,A33,hk]
theorem A99 {k:UInt8} {ts:List Str} (hk:k=32∨k=45∨k=43) (h:∀t∈ts,f0 t=true):(A33 k ts).all C17=true:=by
 rw [List.all_eq_true]
 intro q hq
 unfold A33 at hq
 obtain ⟨t,ht,rfl⟩:=List.mem_map.1 hq
 unfold C17
 refine decide_eq_true ?_
 rintro (⟨⟨h1,h2⟩,h3⟩ | h1)
 ·rcases hk with e | e | e
  ·exact h1 e
  ·exact h2 e
  ·exact h3 e
 ·rw [show (PatchLine.mk k t).Text=t from rfl,h t ht] at h1;cases h1
theorem D25 (hx:∀s∈x,f0 s=true) (hy:∀s∈y,f0 s=true) (i0:Int) (a:Nat):∀t,(x2 l x y i0 a t).all C17=true
 | 0=>rfl
 | t+1=>by
  simp only [x2,J58,D25 hx hy i0 a t,Bool.true_and,J16]
  exact ⟨⟨A99 (.inl rfl) (fun s hs=>hx s (D48 hs)),A99 (.inr (.inl rfl)) (fun s hs=>hx s (D48 hs))⟩,A99 (.inr (.inr rfl)) (fun s hs=>hy s (D48 hs))⟩
theorem ScFit.hunk (h:ScFit x y l) {ctx:Int} (hc:0≤ctx) {a b:Nat} (hab:a < b) (hb:b≤l.length) (ho:opens l ctx a) (hob:b < l.length→opens l ctx b) :
  HunkIs x y l ctx a b (d6 l x y (mkH l x.length ctx a b)):=by
 have hla:a < l.length:=by omega
 obtain ⟨q1,q2,q3⟩:=h.before hc hla ho
 obtain ⟨w1,w2,w3,w4,w5⟩:=h.after hc hb hob (by omega)
 obtain ⟨m1,m2⟩:=h.made hc ho (b - a) (by omega) (fun e=>by omega)
 rw [E20 _ _ _ (by omega)] at m1
 rw [H70 _ _ _ (by omega)] at m2
 rw [show a+(b - a)=b by omega] at m1 m2
 obtain ⟨r1,r2,r3,r4⟩:=h.nn a (by omega)
 obtain ⟨s1,s2,s3,s4⟩:=h.nn b hb
 obtain ⟨k1,⟨k2,k2'⟩,k3,⟨k4,k4'⟩,k5,k6,k7,k8⟩:=A13 _ _ _ _ _ _ h.sc a hla
 have hlb:b - 1 < l.length:=by omega
 obtain ⟨g1,⟨g2,g2'⟩,g3,⟨g4,g4'⟩,g5,g6,g7,g8⟩:=A13 _ _ _ _ _ _ h.sc (b - 1) hlb
 have eo:eoI 0 l b=(cAt l (b - 1)).Old+(cAt l (b - 1)).OldLen:=by unfold eoI;rw [if_neg (by omega)];rfl
 have en:enI 0 l b=(cAt l (b - 1)).New+(cAt l (b - 1)).NewLen:=by unfold enI;rw [if_neg (by omega)];rfl
 have mo:=h.ok.mono a (b - 1) (by omega) (by omega)
 have mn:(cAt l a).New≤enI 0 l b:=by
  have m4:∀u,a+u≤l.length→(cAt l a).New≤enI 0 l (a+u)∨u=0:=by
   intro u
   induction u with
   | zero=>exact fun _=>.inr rfl
   | succ u ihu =>
    intro hu
    obtain ⟨e1,e2,⟨e3,e3'⟩,⟨e4,e4'⟩,e5,e6,e7,e8⟩:=A13 _ _ _ _ _ _ h.sc (a+u) (by omega)
    have e9:enI 0 l (a+(u+1))=(cAt l (a+u)).New+(cAt l (a+u)).NewLen:=rfl
    rcases ihu (by omega) with h' | h'
    ·left;omega
    ·left;subst h';rw [e9];show (cAt l a).New≤(cAt l a).New+(cAt l a).NewLen;exact Int.le_add_of_nonneg_right e4
  have:=(m4 (b - a) (by omega)).resolve_right (by omega)
  rwa [show a+(b - a)=b by omega] at this
 have hF:(mkH l x.length ctx a b).First.toNat=a:=by show ((a:Int)).toNat=a;omega
 have hL:(mkH l x.length ctx a b).Last.toNat - (mkH l x.length ctx a b).First.toNat=b - a:=by
  show (((b - 1:Nat):Int)+1).toNat - ((a:Int)).toNat=b - a;omega
 have hOF:(mkH l x.length ctx a b).Old.From=(cAt l a).Old - eA l ctx a:=rfl
 have hNF:(mkH l x.length ctx a b).New.From=(cAt l a).New - eA l ctx a:=rfl
 have hOT:(mkH l x.length ctx a b).Old.To=eoI 0 l b+eB l x.length ctx b:=by
  unfold eB;rw [eo];rfl
 obtain ⟨P,hP⟩:∃P,P=d6 l x y (mkH l x.length ctx a b):=⟨_,rfl⟩
 have hPl:P.Lines=x2 l x y ((cAt l a).Old - eA l ctx a) a (b - a)++A33 32 (sub x (eoI 0 l b) (eoI 0 l b+eB l x.length ctx b)):=by
  rw [hP];unfold d6
  show x2 l x y _ (mkH l x.length ctx a b).First.toNat ((mkH l x.length ctx a b).Last.toNat - (mkH l x.length ctx a b).First.toNat)++A33 32 (sub x (A34 l _ (mkH l x.length ctx a b).First.toNat ((mkH l x.length ctx a b).Last.toNat - (mkH l x.length ctx a b).First.toNat)) _)=_
  rw [hL,hF,hOF,hOT,E20 _ _ _ (by omega),show a+(b - a)=b by omega]
 have hPO:P.Old=(cAt l a).Old - eA l ctx a:=by rw [hP];rfl
 have hPN:P.New=(cAt l a).New - eA l ctx a:=by rw [hP];rfl
 have h43:H2 P.Lines 43=sub x ((cAt l a).Old - eA l ctx a) (eoI 0 l b+eB l x.length ctx b):=by
  rw [hPl,A97,A98,if_neg (by decide),m1]
  exact A95 x (by omega) (by omega) (by omega)
 have h45:H2 P.Lines 45=sub y ((cAt l a).New - eA l ctx a) (enI 0 l b+eB l x.length ctx b):=by
  rw [hPl,A97,A98,if_neg (by decide),m2,w5]
  exact A95 y (by omega) (by omega) (by omega)
 have hon:B79 P=eoI 0 l b+eB l x.length ctx b - ((cAt l a).Old - eA l ctx a):=by
  unfold B79;rw [h43];exact A96 x (by omega) (by omega) (by omega)
 have hnn:B80 P=enI 0 l b+eB l x.length ctx b - ((cAt l a).New - eA l ctx a):=by
  unfold B80;rw [h45];exact A96 y (by omega) (by omega) (by omega)
 rw [←hP]
 refine ⟨hPO,hPN,by omega,by omega,by omega,by omega,by omega,by omega,?_,?_,?_,?_⟩
 ·rw [h43];congr 1
  ·exact hPO.symm
  ·omega
 ·rw [h45];congr 1
  ·exact hPN.symm
  ·omega
 ·rw [hPl,E21]
  have e:x2 l x y ((cAt l a).Old - eA l ctx a) a (b - a)=x2 l x y ((cAt l a).Old - eA l ctx a) a (b - 1 - a+1):=by congr 1;omega
  rw [e]
  simp only [x2,E21]
  rw [show a+(b - 1 - a)=b - 1 by omega]
  have key:A54 (A33 45 (sub x (cAt l (b - 1)).Old (B14 (cAt l (b - 1)))))=true∨A54 (A33 43 (sub y (cAt l (b - 1)).New ((cAt l (b - 1)).New+(cAt l (b - 1)).NewLen)))=true:=by
   obtain ⟨g3a,g3b⟩:=g3
   obtain ⟨g1a,g1b⟩:=g1
   by_cases h0:(cAt l (b - 1)).OldLen=0
   ·right
    refine E22 (by decide) fun e0=>?_
    have:=A96 y (a:=(cAt l (b - 1)).New) (b:=(cAt l (b - 1)).New+(cAt l (b - 1)).NewLen) g3a (by omega) (by omega)
    rw [e0] at this;simp at this;omega
   ·left
    refine E22 (by decide) fun e0=>?_
    have:=A96 x (a:=(cAt l (b - 1)).Old) (b:=B14 (cAt l (b - 1))) g1a (by unfold B14;omega) (by unfold B14;omega)
    rw [e0] at this;unfold B14 at this;simp at this;omega
  rcases key with e1 | e1<;>rw [e1]<;>simp
 ·intro hx hy
  rw [hPl,J58,D25 hx hy,Bool.true_and]
  exact A99 (.inl rfl) (fun s hs=>hx s (D48 hs))
theorem ScFit.hunks (h:ScFit x y l) {ctx:Int} (hc:0≤ctx) (hx:∀s∈x,f0 s=true) (hy:∀s∈y,f0 s=true):∀(hs:List Hunk) (a:Nat),GrOk l x.length ctx a hs l.length →
  ∀(i j e:Int),i=eoI 0 l a+e→j=enI 0 l a+e→0≤e→e≤ctx→(a=0→e=0) →
  C90 i j (hs.map (d6 l x y))=true∧(N2 (hs.map (d6 l x y)) 43).Sublist (x.drop i.toNat)∧(N2 (hs.map (d6 l x y)) 45).Sublist (y.drop j.toNat) ∧
   ∀p∈hs.map (d6 l x y),(p.Old+B79 p≤x.length∧p.New+B80 p≤y.length∧0≤p.Old∧0≤p.New)∧H2 p.Lines 43=sub x p.Old (p.Old+B79 p)∧H2 p.Lines 45=sub y p.New (p.New+B80 p)
 | [],a,_,i,j,e,_,_,_,_,_=>⟨rfl,by simp [N2],by simp [N2],by simp⟩
 | hk::hs,a,⟨b,hab,ho,hE,hr⟩,i,j,e,hi,hj,he,hec,he0=>by
  have hb:=hr.le
  have hob:b < l.length→opens l ctx b:=by
   intro hlt
   cases hs with
   | nil=>exact absurd hr (by show ¬b=l.length;omega)
   | cons h2 hs2=>obtain ⟨_,_,ho2,_⟩:=hr;exact ho2
  obtain ⟨w1,w2,w3,w4,w5⟩:=h.after hc hb hob (by omega)
  obtain ⟨q1,q2,q3⟩:=h.before hc (show a < l.length by omega) ho
  have H:=h.hunk hc hab hb ho hob
  rw [←hE] at H
  obtain ⟨P,hP⟩:∃P,P=d6 l x y hk:=⟨_,rfl⟩
  rw [←hP] at H
  obtain ⟨i1,i2,i3,i4⟩:=ScFit.hunks h hc hx hy hs b hr (P.Old+B79 P) (P.New+B80 P) (eB l x.length ctx b) H.oe H.ne w1 w2 (by omega)
  obtain ⟨k1,⟨k2,k2'⟩,k3,⟨k4,k4'⟩,k5,k6,k7,k8⟩:=A13 _ _ _ _ _ _ h.sc a (show a < l.length by omega)
  have h1:=H.old
  have h2:=H.new
  have h3:=H.o0
  have h4:=H.n0
  have h5:=H.ox
  have h6:=H.ny
  have h7:=h.lx
  have h8:=h.ly
  have n1:0≤B79 P:=by unfold B79;omega
  have n2:0≤B80 P:=by unfold B80;omega
  have hgap:e+eA l ctx a≤(cAt l a).Old - eoI 0 l a:=by
   by_cases h0:a=0
   ·have:=he0 h0;omega
   ·have:=C93 ho h0;omega
  obtain ⟨r1,r2,r3,r4⟩:=h.nn a (by omega)
  have hij:i≤P.Old∧j≤P.New∧P.Old - i=P.New - j∧0≤i∧0≤j:=by omega
  have hsub:∀(z:List Str) (i f t:Int),0≤i→i≤f→f≤t→∀r:List Str,r.Sublist (z.drop t.toNat)→(sub z f t++r).Sublist (z.drop i.toNat):=by
   intro z i f t h0 h1 h2 r hr
   have e1:z.drop f.toNat=sub z f t++z.drop t.toNat:=by
    unfold sub
    rw [show t.toNat=f.toNat+(t.toNat - f.toNat) by omega,←List.drop_drop,show f.toNat+(t.toNat - f.toNat) - f.toNat=t.toNat - f.toNat by omega,J53]
   have e2:z.drop f.toNat=(z.drop i.toNat).drop (f.toNat - i.toNat):=by rw [List.drop_drop];congr 1;omega
   refine List.Sublist.trans ?_ (List.drop_sublist (f.toNat - i.toNat) (z.drop i.toNat))
   rw [←e2,e1]
   exact List.Sublist.append_left hr _
  have key:∀(k:UInt8),N2 ((hk::hs).map (d6 l x y)) k=H2 P.Lines k++N2 (hs.map (d6 l x y)) k:=by
   intro k;rw [hP];simp [N2]
  refine ⟨?_,?_,?_,?_⟩
  ·rw [J33,←hP]
   simp only [C90,H.gl hx hy,i1,Bool.and_true,Bool.true_and,J16,decide_eq_true_eq]
   refine ⟨?_,by omega⟩
   unfold C53
   rw [H.ch]
   rintro (((((e0 | e0) | e0) | e0) | e0) | e0)
   ·cases e0
   all_goals omega
  ·rw [key,H.ol]
   exact hsub x i P.Old (P.Old+B79 P) hij.2.2.2.1 hij.1 (by omega) _ i2
  ·rw [key,H.nl]
   exact hsub y j P.New (P.New+B80 P) hij.2.2.2.2 hij.2.1 (by omega) _ i3
  ·rw [J33,←hP]
   intro p hp
   rcases List.mem_cons.1 hp with rfl | hp
   ·exact ⟨⟨h5,h6,h3,h4⟩,H.ol,H.nl⟩
   ·exact i4 p hp
theorem C56:∀{s z:List Str},s.Sublist z→u6 z=true→u6 s=true:=by
 intro s z hs
 induction hs with
 | slnil=>exact fun h=>h
 | cons a _ ih =>
  intro h
  simp only [u6,J16] at h
  exact ih h.2
 | cons_cons a hs2 ih =>
  intro h
  simp only [u6,J16,J35] at h ⊢
  refine ⟨?_,ih h.2⟩
  rcases h.1 with h1 | h1
  ·left
   rw [List.isEmpty_iff] at h1 ⊢
   rw [h1] at hs2
   exact List.sublist_nil.1 hs2
  ·exact .inr h1
def d7 (l:List Change) (x y:List Str) (ctx:Int):List PatchHunk:=(X4 l x.length ctx l.length).map (d6 l x y)
theorem ScFit.good (h:ScFit x y l) {ctx:Int} (hc:0≤ctx) (hx:∀s∈x,f0 s=true) (hy:∀s∈y,f0 s=true) (ex:u6 x=true) (ey:u6 y=true):C91 (d7 l x y ctx)=true:=by
 obtain ⟨h1,h2,h3,_⟩:=h.hunks hc hx hy _ 0 (A94 l x.length ctx l.length) 0 0 0 rfl rfl (Int.le_refl _) hc (fun _=>rfl)
 unfold C91 H27 d7
 rw [h1,C56 h2 (by simpa using ex),C56 h3 (by simpa using ey)]
 rfl
theorem ScFit.texts (h:ScFit x y l) {ctx:Int} (hc:0≤ctx) (hx:∀s∈x,f0 s=true) (hy:∀s∈y,f0 s=true):∀p∈d7 l x y ctx,(p.Old+B79 p≤x.length∧p.New+B80 p≤y.length∧0≤p.Old∧0≤p.New)∧H2 p.Lines 43=sub x p.Old (p.Old+B79 p)∧H2 p.Lines 45=sub y p.New (p.New+B80 p) :=
 (h.hunks hc hx hy _ 0 (A94 l x.length ctx l.length) 0 0 0 rfl rfl (Int.le_refl _) hc (fun _=>rfl)).2.2.2
end
end Go.AL
namespace Go.AL
open Go
def EqAt (X Y:List Str) (s:Span):Prop:=0≤s.From∧0≤s.To∧∃v,X[s.From.toNat]?=some v∧Y[s.To.toNat]?=some v
theorem G40 {X:List Str} {a b:Int} {v:Str} (h0:0≤a) (h1:a≤b) (hv:X[b.toNat]?=some v):sub X a (b+1)=sub X a b++[v]:=by
 rw [←A95 X h0 h1 (by omega:b≤b+1)]
 congr 1
 unfold sub
 obtain ⟨hl,e⟩:=List.getElem?_eq_some_iff.1 hv
 rw [J24 hl,e,show (b+1).toNat - b.toNat=1 by omega]
 rfl
theorem E96:∀(ls:List PatchLine),ls.all C17=true→(ls.map szL).sum≤64*((H2 ls 43).length+(H2 ls 45).length)+((H2 ls 43).flatten.length+(H2 ls 45).flatten.length)
 | [],_=>by simp
 | q::ls,h=>by
  rw [List.all_cons,J16] at h
  have ih:=E96 ls h.2
  have hk:q.Kind=32∨q.Kind=45∨q.Kind=43:=by
   have hg:=h.1
   unfold C17 at hg
   have hg:=A0 hg
   by_cases h1:q.Kind=32
   ·exact .inl h1
   by_cases h2:q.Kind=45
   ·exact .inr (.inl h2)
   by_cases h3:q.Kind=43
   ·exact .inr (.inr h3)
   exact absurd (.inl ⟨⟨h1,h2⟩,h3⟩) hg
  have hd:∀k:UInt8,H2 (q::ls) k=if q.Kind≠k then q.Text::H2 ls k else H2 ls k:=by
   intro k
   unfold H2
   by_cases e:q.Kind=k
   ·rw [if_neg (by simpa using e),List.filter_cons_of_neg (by simpa using e)]
   ·rw [if_pos e,List.filter_cons_of_pos (by simpa using e)];rfl
  rw [hd 43,hd 45,J33,List.sum_cons]
  have hz:szL q=q.Text.length+64:=rfl
  rcases hk with e | e | e<;>rw [e]<;>simp (decide:=true) only [if_true,if_false,ne_eq,not_true_eq_false,not_false_eq_true,J19,J57,J20]<;>omega
theorem C57:∀(hs:List PatchHunk) (i j:Int),C90 i j hs=true→szP hs≤128*((N2 hs 43).length+(N2 hs 45).length)+((N2 hs 43).flatten.length+(N2 hs 45).flatten.length)
 | [],_,_,_=>by simp [szP]
 | h :: hs,i,j,hg=>by
  simp only [C90,J16,decide_eq_true_eq] at hg
  obtain ⟨h1,h2,h3,h4⟩:=hg
  have ih:=C57 hs _ _ h4
  have hl:=E96 h.Lines h1
  have hne:1≤h.Lines.length:=by
   cases hq:h.Lines with
   | nil=>exact absurd (.inl (.inl (.inl (.inl (.inl (by rw [hq];rfl)))))) h2
   | cons a b=>simp
  have hcnt:h.Lines.length≤(H2 h.Lines 43).length+(H2 h.Lines 45).length:=by
   have:64*h.Lines.length≤(h.Lines.map szL).sum:=szL_len h.Lines
   have key:∀ls:List PatchLine,ls.length≤(H2 ls 43).length+(H2 ls 45).length:=by
    intro ls
    induction ls with
    | nil=>simp
    | cons q ls ih =>
     have hd:∀k:UInt8,(H2 (q::ls) k).length=if q.Kind≠k then (H2 ls k).length+1 else (H2 ls k).length:=by
      intro k
      unfold H2
      by_cases e:q.Kind=k
      ·rw [if_neg (by simpa using e),List.filter_cons_of_neg (by simpa using e)]
      ·rw [if_pos e,List.filter_cons_of_pos (by simpa using e)];simp
     rw [hd 43,hd 45,J19]
     by_cases e:q.Kind=43
     ·have e2:q.Kind≠45:=by rw [e];decide
      rw [if_pos e2];split<;>omega
     ·rw [if_pos e];split<;>omega
   exact key h.Lines
  have hsz:szP (h::hs)=szH h+szP hs:=by simp [szP]
  have hszh:szH h=64+(h.Lines.map szL).sum:=rfl
  have hs1:∀k,N2 (h::hs) k=H2 h.Lines k++N2 hs k:=by intro k;simp [N2]
  rw [hsz,hszh,hs1 43,hs1 45]
  simp only [J20,J51]
  omega
theorem D26:∀{s z:List Str},s.Sublist z→s.flatten.length≤z.flatten.length:=by
 intro s z hs
 induction hs with
 | slnil=>exact Nat.le_refl _
 | cons a _ ih=>simp only [J57,J20];omega
 | cons_cons a _ ih=>simp only [J57,J20];omega
theorem ScFit.size {x y:List Str} {l:List Change} (h:ScFit x y l) {ctx:Int} (hc:0≤ctx) (hx:∀s∈x,f0 s=true) (hy:∀s∈y,f0 s=true):szP (d7 l x y ctx)≤128*(x.length+y.length)+(x.flatten.length+y.flatten.length):=by
 obtain ⟨h1,h2,h3,_⟩:=h.hunks hc hx hy _ 0 (A94 l x.length ctx l.length) 0 0 0 rfl rfl (Int.le_refl _) hc (fun _=>rfl)
 have h4:=C57 _ _ _ h1
 have e:d7 l x y ctx=(X4 l x.length ctx l.length).map (d6 l x y):=rfl
 rw [←e] at h2 h3 h4
 have h2':(N2 (d7 l x y ctx) 43).Sublist x:=by simpa using h2
 have h3':(N2 (d7 l x y ctx) 45).Sublist y:=by simpa using h3
 have:=h2'.length_le
 have:=h3'.length_le
 have:=D26 h2'
 have:=D26 h3'
 omega
end Go.AL
namespace Go.AL
open Go
end Go.AL
namespace Go.AL
open Go
abbrev C18:Int→Nat→Cell:=fun x _=>.v (.int .u16 x)
abbrev pU16s (l:List Int):PV:=.one (.list Int 1 C18 l)
theorem H31 (n:Int) (h:0≤n∧n < 65536):IntKind.u16.wrap n=n:=by
 simp [IntKind.wrap,IntKind.signed,IntKind.bits];omega
def flat (a b:List Int) (done:Nat→Nat→Bool):List Int :=
 (List.range ((a.length+1)*(b.length+1))).map fun p=>if done (p / (b.length+1)) (p % (b.length+1))=true then (dist (a.drop (p / (b.length+1))) (b.drop (p % (b.length+1))):Int) else 0
theorem D27 (a b:List Int) (done:Nat→Nat→Bool):(flat a b done).length=(a.length+1)*(b.length+1):=by simp [flat]
theorem D49 {a b:List Int} {i j:Nat} (hi:i≤a.length) (hj:j≤b.length):i*(b.length+1)+j < (a.length+1)*(b.length+1)∧(i*(b.length+1)+j) / (b.length+1)=i∧(i*(b.length+1)+j) % (b.length+1)=j:=by
 refine ⟨?_,?_,?_⟩
 ·have:(i+1)*(b.length+1)≤(a.length+1)*(b.length+1):=J26 _ (by omega)
  rw [J36,Nat.one_mul] at this;omega
 ·rw [Nat.mul_comm,Nat.mul_add_div (by omega),Nat.div_eq_of_lt (by omega),Nat.add_zero]
 ·rw [Nat.mul_comm,Nat.mul_add_mod,Nat.mod_eq_of_lt (by omega)]
theorem E23 {a b:List Int} {done:Nat→Nat→Bool} {i j:Nat} (hi:i≤a.length) (hj:j≤b.length):(flat a b done)[i*(b.length+1)+j]?=some (if done i j=true then (dist (a.drop i) (b.drop j):Int) else 0):=by
 obtain ⟨h1,h2,h3⟩:=D49 hi hj
 unfold flat
 rw [I35 _ _ _ h1,h2,h3]
theorem G41 {a b:List Int} {done done':Nat→Nat→Bool} {i j:Nat} {v:Int} (hi:i≤a.length) (hj:j≤b.length) (hv:v=(dist (a.drop i) (b.drop j):Int)) (hd:done' i j=true)
  (ho:∀r q,r≤a.length→q≤b.length→¬(r=i∧q=j)→done' r q=done r q):(flat a b done).set (i*(b.length+1)+j) v=flat a b done':=by
 obtain ⟨h1,h2,h3⟩:=D49 hi hj
 unfold flat
 refine E94 _ _ _ _ _ (fun _=>?_) (fun q hq hne=>?_)
 ·rw [h2,h3,if_pos hd,hv]
 ·have hW:0 < b.length+1:=by omega
  have e:=Nat.div_add_mod q (b.length+1)
  have hr:q / (b.length+1)≤a.length:=by
   have:=(Nat.div_lt_iff_lt_mul hW).2 hq
   omega
  have hm:=Nat.mod_lt q hW
  rw [ho _ _ hr (by omega) (fun ⟨e1,e2⟩=>hne (by rw [e1,e2,Nat.mul_comm] at e;exact e.symm))]
theorem I36 (a b:List Int):List.replicate ((a.length+1)*(b.length+1)) 0=flat a b (fun _ _=>false):=by
 unfold flat
 simp only [Bool.false_eq_true,if_false]
 rw [List.map_const',J46]
theorem B00 {a b:List Int} {done done':Nat→Nat→Bool} (h:∀r q,r≤a.length→q≤b.length→(done r q=done' r q∨dist (a.drop r) (b.drop q)=0)):flat a b done=flat a b done':=by
 unfold flat
 apply List.map_congr_left
 intro p hp
 have hp:=List.mem_range.1 hp
 have hW:0 < b.length+1:=by omega
 have hr:p / (b.length+1)≤a.length:=by have:=(Nat.div_lt_iff_lt_mul hW).2 hp;omega
 have hm:=Nat.mod_lt p hW
 rcases h (p / (b.length+1)) (p % (b.length+1)) hr (by omega) with e | e
 ·rw [e]
 ·rw [e];simp
def V4:List Int→List Int→Nat
 | x::a,y::b=>if x=y then V4 a b+1 else 0
 | _,_=>0
theorem G42:∀(a b:List Int),V4 a b≤a.length∧V4 a b≤b.length
 | [],_=>by simp [V4]
 | _::_,[]=>by simp [V4]
 | x::a,y::b=>by
  have:=G42 a b
  unfold V4
  simp only [J19]
  split<;>omega
theorem E24 (a b:List Int) (k:Nat) (hk:k < a.length) (hk':k < b.length):V4 (a.drop k) (b.drop k)=if a[k]=b[k] then V4 (a.drop (k+1)) (b.drop (k+1))+1 else 0:=by
 rw [J24 hk,J24 hk'];rfl
theorem I37 (a b:List Int) (k:Nat) (h:¬(k < a.length∧k < b.length)):V4 (a.drop k) (b.drop k)=0:=by
 by_cases h1:k < a.length
 ·rw [J31 (as:=b) (by omega)]
  cases a.drop k<;>rfl
 ·rw [J31 (as:=a) (by omega)];rfl
theorem E25:∀(a b:List Int) (p q:Int),L9 p q a b=T4 p q (V4 a b)++L9 (p+V4 a b) (q+V4 a b) (a.drop (V4 a b)) (b.drop (V4 a b))
 | [],b,p,q=>by simp [V4,A93]
 | x::a,[],p,q=>by simp [V4,A93]
 | x::a,y::b,p,q=>by
  unfold V4
  by_cases h:x=y
  ·rw [if_pos h]
   conv=>lhs;unfold L9
   rw [if_pos h,E25 a b (p+1) (q+1),F49]
   simp only [List.drop_succ_cons,J37]
   rw [show p+1+(V4 a b:Int)=p+((V4 a b+1:Nat):Int) by omega,show q+1+(V4 a b:Int)=q+((V4 a b+1:Nat):Int) by omega]
  ·rw [if_neg h]
   simp [A93]
end Go.AL
namespace Go.AL
open Go
def GrX (l:List Change) (m ctx:Int):Nat→List Hunk→Nat→Prop
 | a,[],k=>a=k
 | a,h::r,k=>∃b,a < b∧opens l ctx a∧(∀c,a < c→c < b→¬opens l ctx c)∧h=mkH l m ctx a b∧GrX l m ctx b r k
theorem GrX.le {l:List Change} {m ctx:Int}:∀{hs:List Hunk} {a k:Nat},GrX l m ctx a hs k→a≤k
 | [],a,k,h=>Nat.le_of_eq h
 | _::_,a,k,⟨b,h1,_,_,_,h2⟩=>by have:=GrX.le h2;omega
theorem GrX.snoc {l:List Change} {m ctx:Int} {k n:Nat} (ho:opens l ctx k) (hk:k < n) (hno:∀c,k < c→c < n→¬opens l ctx c):∀{hs:List Hunk} {a:Nat},GrX l m ctx a hs k→GrX l m ctx a (hs++[mkH l m ctx k n]) n
 | [],a,h=>by
  obtain rfl:a=k:=h
  exact ⟨n,hk,ho,hno,rfl,rfl⟩
 | _::_,a,⟨b,h1,h2,h3,h4,h5⟩=>⟨b,h1,h2,h3,h4,GrX.snoc ho hk hno h5⟩
theorem GrX.last {l:List Change} {m ctx:Int} {k:Nat} (hno:¬opens l ctx k):∀{hs:List Hunk} {a:Nat},GrX l m ctx a hs k→hs≠[]→GrX l m ctx a (hs.set (hs.length - 1) (C52 l m ctx k (hs.getD (hs.length - 1) H66))) (k+1)
 | [],_,_,h0=>absurd rfl h0
 | [h],a,⟨b,h1,h2,h3,h4,h5⟩,_=>by
  obtain rfl:b=k:=h5
  subst h4
  refine ⟨b+1,by omega,h2,fun c hc1 hc2=>?_,rfl,rfl⟩
  by_cases hcb:c=b
  ·rw [hcb];exact hno
  ·exact h3 c hc1 (by omega)
 | h::h'::r,a,⟨b,h1,h2,h3,h4,h5⟩,_=>by
  have ih:=GrX.last hno h5 (by simp)
  refine ⟨b,h1,h2,h3,h4,?_⟩
  simpa using ih
theorem GrX.len {l:List Change} {m ctx:Int}:∀{hs:List Hunk} {a k:Nat},GrX l m ctx a hs k→hs.length≤k - a
 | [],_,_,_=>Nat.zero_le _
 | _::_,a,k,⟨b,h1,_,_,_,h2⟩=>by have:=GrX.len h2;have:=h2.le;simp only [J19];omega
end Go.AL
namespace Go.AL
open Go
def y9:List Str→Int→List (Str × Cell)
 | [],_=>[]
 | s::r,i=>(s,.v (.int .i64 i))::y9 r (i+1)
theorem E97 (s:Str):∀(l:List Str) (i:Int),y9 (l++[s]) i=y9 l i++[(s,.v (.int .i64 (i+l.length)))]
 | [],i=>by simp [y9]
 | x::r,i=>by
  simp only [J37,y9,E97 s r,J19]
  rw [show i+1+(r.length:Int)=i+((r.length+1:Nat):Int) by omega]
theorem E98 (s:Str):∀(l:List Str) (i:Int),s∈l→L8 (y9 l i) s=some (.v (.int .i64 (Q5 l s i)))
 | [],_,h=>by simp at h
 | x::r,i,h=>by
  simp only [y9,L8,Q5]
  by_cases he:x=s
  ·rw [if_pos he,if_pos he]
  ·rw [if_neg he,if_neg he]
   exact E98 s r (i+1) ((List.mem_cons.1 h).resolve_left (fun q=>he q.symm))
theorem E26 (s:Str):∀(l:List Str) (i:Int),s∉l→L8 (y9 l i) s=none
 | [],_,_=>rfl
 | x::r,i,h=>by
  simp only [y9,L8]
  rw [if_neg (fun q=>h (by simp [q]))]
  exact E26 s r (i+1) (fun q=>h (by simp [q]))
theorem B52 (s:Str) (r:List Str):∀(l:List Str) (i:Int),s∈l→Q5 (l++r) s i=Q5 l s i
 | [],_,h=>by simp at h
 | x::l,i,h=>by
  simp only [J37,Q5]
  by_cases he:x=s
  ·rw [if_pos he,if_pos he]
  ·rw [if_neg he,if_neg he]
   exact B52 s r l (i+1) ((List.mem_cons.1 h).resolve_left (fun q=>he q.symm))
theorem D28 (s:Str):∀(l:List Str) (i:Int),s∉l→Q5 (l++[s]) s i=i+l.length
 | [],i,_=>by simp [Q5]
 | x::l,i,h=>by
  simp only [J37,Q5,J19]
  rw [if_neg (fun q=>h (by simp [q])),D28 s l (i+1) (fun q=>h (by simp [q]))]
  omega
theorem C58:∀(l out:List Str),∃r,l.foldl O9 out=out++r
 | [],out=>⟨[],by simp⟩
 | s::l,out=>by
  obtain ⟨r,hr⟩:=C58 l (O9 out s)
  rw [J43,hr]
  unfold O9
  split
  ·exact ⟨r,rfl⟩
  ·exact ⟨s::r,by simp⟩
def N6 (files:List (List Str)) (k j:Nat):List Str:=((files.take k).flatten++(files.getD k []).take j).foldl O9 []
theorem G43 (files:List (List Str)) (k:Nat):N6 files (k+1) 0=N6 files k (files.getD k []).length:=by
 unfold N6
 rw [List.take_zero,J47,J23]
 by_cases h:k < files.length
 ·rw [A28 files k h]
  congr 2
  simp [h]
 ·rw [J40 (by omega),J40 (by omega)]
  have:files.getD k []=[]:=by simp [show files.length≤k by omega]
  rw [this,J47]
theorem F58 (files:List (List Str)) (k j:Nat) (s:Str) (h:(files.getD k [])[j]?=some s):N6 files k (j+1)=O9 (N6 files k j) s:=by
 unfold N6
 have hj:j < (files.getD k []).length:=(List.getElem?_eq_some_iff.1 h).1
 have he:=(List.getElem?_eq_some_iff.1 h).2
 rw [J56 hj,he,←J28,J59]
 rfl
theorem G44 (files:List (List Str)):N6 files files.length 0=N5 files:=by
 unfold N6 N5
 rw [J23];simp
theorem D29 (files:List (List Str)) (k j:Nat):∃r,N5 files=N6 files k j++r:=by
 have h:∃m,files.flatten=((files.take k).flatten++(files.getD k []).take j)++m:=by
  refine ⟨(files.getD k []).drop j++(files.drop (k+1)).flatten,?_⟩
  by_cases hk:k < files.length
  ·have e:files=files.take k++files.getD k []::files.drop (k+1):=by
    have:files.getD k []=files[k]:=by simp [hk]
    rw [this,List.getElem_cons_drop,J53]
   conv=>lhs;rw [e]
   rw [J51,J57,J28]
   congr 1
   rw [←J28,J53]
  ·have:files.getD k []=[]:=by simp [show files.length≤k by omega]
   rw [this,J40 (by omega:files.length≤k),J31 (by omega:files.length≤k+1)]
   simp
 obtain ⟨m,hm⟩:=h
 unfold N5 N6
 rw [hm,J59]
 obtain ⟨r,hr⟩:=C58 m (((files.take k).flatten++(files.getD k []).take j).foldl O9 [])
 exact ⟨r,hr⟩
theorem E27 (files:List (List Str)) (k j:Nat):(N6 files k j).length≤files.flatten.length:=by
 obtain ⟨r,hr⟩:=D29 files k j
 have:=E09 files
 rw [hr,J20] at this;omega
def O3 (files:List (List Str)) (k:Nat):List TC:=(List.range files.length).map fun r=>if r < k then .p (.list Int 1 E3 (x6 (N5 files) (files.getD r []))) else .p (.v (.slice none 0 0))
theorem I38 {files:List (List Str)} {k:Nat} (h:k < files.length):(O3 files k)[k]?=some (.p (.v (.slice none 0 0))):=by
 simp [O3,h]
theorem F59 (files:List (List Str)) (k m:Nat) (_h:k < files.length):((O3 files k).set k (.buf m Int 1 E3 (x6 (N5 files) (files.getD k [])))).map (TC.forget m)=O3 files (k+1):=by
 have e1:(O3 files k).map (TC.forget m)=O3 files k:=by
  unfold O3
  rw [J50]
  apply List.map_congr_left
  intro r _
  simp only [Function.comp]
  split<;>rfl
 rw [List.map_set,e1]
 have e2:(TC.buf m Int 1 E3 (x6 (N5 files) (files.getD k []))).forget m=.p (.list Int 1 E3 (x6 (N5 files) (files.getD k []))):=by simp [TC.forget]
 rw [e2]
 unfold O3
 refine E94 _ _ _ _ _ (fun _=>by simp) (fun q hq hne=>?_)
 simp only [show (q < k+1)=(q < k) from propext ⟨fun h=>by omega,fun h=>by omega⟩]
theorem H32 (files:List (List Str)):List.replicate files.length (TC.p (.v (.slice none 0 0)))=O3 files 0:=by
 unfold O3
 simp only [Nat.not_lt_zero,if_false,List.map_const',J46]
theorem H33 (files:List (List Str)):O3 files files.length=(files.map (x6 (N5 files))).map fun x=>TC.p (intsC x 0):=by
 unfold O3
 apply List.ext_getElem
 ·simp
 ·intro i h1 h2
  have hi:i < files.length:=by simpa using h1
  simp [hi,intsC]
end Go.AL
namespace Go.AL
open Go
theorem H71 (m n:Int):∀(l:List Change) (k0:Nat) (i j:Int),(∀k,k < l.length→N8 (cAt l k).Old∧N8 (cAt l k).OldLen∧N8 (cAt l k).New∧N8 (cAt l k).NewLen∧(cAt l k).OldLen+(cAt l k).NewLen≠0∧(cAt l k).Old - eoI i l k=(cAt l k).New - enI j l k∧eoI i l k≤(cAt l k).Old∧(0 < k0+k→eoI i l k < (cAt l k).Old)) →
  (m - eoI i l l.length=n - enI j l l.length∧eoI i l l.length≤m)→P5 k0 i j l m n=true
 | [],k0,i,j,_,h=>by
  have h1:m - i=n - j∧i≤m:=h
  simp only [P5,decide_eq_true_eq];omega
 | c::r,k0,i,j,h,he=>by
  simp only [P5,J16,decide_eq_true_eq]
  refine ⟨?_,H71 m n r (k0+1) _ _ (fun k hk=>?_) ?_⟩
  ·obtain ⟨h1,h2,h3,h4,h5,h6,h7,h8⟩:=h 0 (by simp)
   have h1:N8 c.Old:=h1
   have h2:N8 c.OldLen:=h2
   have h3:N8 c.New:=h3
   have h4:N8 c.NewLen:=h4
   have h5:c.OldLen+c.NewLen≠0:=h5
   have h6:c.Old - i=c.New - j:=h6
   have h7:i≤c.Old:=h7
   have h8:0 < k0+0→i < c.Old:=h8
   unfold badC
   rintro (((((((q | q) | q) | q) | q) | q) | q) | ⟨q,q2⟩)
   ·exact q h1
   ·exact q h2
   ·exact q h3
   ·exact q h4
   ·exact h5 q
   ·exact q h6
   ·omega
   ·have:=h8 (by omega);omega
  ·have:=h (k+1) (by simpa using hk)
   rw [C55,u7,u9] at this
   obtain ⟨e1,e2,e3,e4,e5,e6,e7,e8⟩:=this
   exact ⟨e1,e2,e3,e4,e5,e6,e7,fun h0=>e8 (by omega)⟩
  ·rw [J19,u7,u9] at he;exact he
theorem H72 (x y:List Str):∀(l:List Change) (i j:Int),(∀k,k < l.length→sub x (eoI i l k) (cAt l k).Old=sub y (enI j l k) (cAt l k).New)→sub x (eoI i l l.length) x.length=sub y (enI j l l.length) y.length→C92 x y i j l
 | [],_,_,_,h=>h
 | c::r,i,j,h,he=>by
  refine ⟨h 0 (by simp),H72 x y r _ _ (fun k hk=>?_) ?_⟩
  ·have:=h (k+1) (by simpa using hk)
   rw [C55,u7,u9] at this;exact this
  ·rw [J19,u7,u9] at he;exact he
theorem H73 {x:List Str} {p q:Int} {t:Nat} (h0:0≤p) (h:p+t < q):(sub x p q)[t]?=x[(p+t).toNat]?:=by
 unfold sub
 rw [List.getElem?_take,if_pos (by omega),J55]
 congr 1;omega
theorem F60 {x y:List Str} {p q p' q':Int} (h:sub x p q=sub y p' q') (h0:0≤p) (h0':0≤p') (hq:q≤x.length) (he:q - p=q' - p') {t:Nat} (ht:p+t < q):∃v,x[(p+t).toNat]?=some v∧y[(p'+t).toNat]?=some v:=by
 have h1:x[(p+t).toNat]?=some x[(p+t).toNat]:=J15 (by omega)
 refine ⟨_,h1,?_⟩
 rw [←H73 (q:=q') h0' (by omega),←h,H73 h0 ht];exact h1
theorem D30 {i j:Int} {n:Nat} {p:Span} (h:p∈T4 i j n):∃t:Nat,t < n∧p=⟨i+t,j+t⟩:=by
 unfold T4 at h
 obtain ⟨t,h1,h2⟩:=List.mem_map.1 h
 exact ⟨t,List.mem_range.1 h1,h2.symm⟩
theorem E28 {x y:List Str}:∀(l:List Change) (k0:Nat) (i j:Int),P5 k0 i j l x.length y.length=true→C92 x y i j l→0≤i→0≤j→∀p∈A72 i j l x.length,EqAt x y p
 | [],k0,i,j,hs,he,hi,hj,p,hp=>by
  simp only [P5,decide_eq_true_eq] at hs
  unfold A72 at hp
  obtain ⟨t,ht,rfl⟩:=D30 hp
  have he:sub x i x.length=sub y j y.length:=he
  exact ⟨by dsimp only;omega,by dsimp only;omega,F60 he hi hj (by omega) (by omega) (by omega)⟩
 | c::r,k0,i,j,hs,he,hi,hj,p,hp=>by
  have hok:=B49 _ _ _ _ _ _ hs
  have g:=A13 x.length y.length (c::r) k0 i j hs 0 (by simp)
  obtain ⟨g1,g2,g3,g4,g5,g6,g7,_⟩:=g
  have g1:N8 c.Old:=g1
  have g2:N8 c.OldLen:=g2
  have g3:N8 c.New:=g3
  have g4:N8 c.NewLen:=g4
  have g6:c.Old - i=c.New - j:=g6
  have g7:i≤c.Old:=g7
  simp only [P5,J16,decide_eq_true_eq] at hs
  unfold A72 at hp
  unfold N8 at g1 g2 g3 g4
  have hm:=hok.2.2.2.2.2.2.end_le
  rcases List.mem_append.1 hp with hp | hp
  ·obtain ⟨t,ht,rfl⟩:=D30 hp
   exact ⟨by dsimp only;omega,by dsimp only;omega,F60 he.1 hi hj (by omega) (by omega) (by omega)⟩
  ·rw [show max i c.Old+c.OldLen=c.Old+c.OldLen by omega,show j+((c.Old - i).toNat:Int)+c.NewLen=c.New+c.NewLen by omega] at hp
   exact E28 r (k0+1) _ _ hs.2 he.2 (by omega) (by omega) p hp
theorem ScFit.pairs {x y:List Str} {l:List Change} (h:ScFit x y l):∀p∈I33 l x.length,EqAt x y p:=E28 l 0 0 0 h.sc h.eq (Int.le_refl _) (Int.le_refl _)
def C94 (c:Change):Change:=⟨c.Old+1,c.OldLen,c.New+1,c.NewLen⟩
def B01 (l:List Change) (k:Nat):List Change:=l.set k (C94 (cAt l k))
def atI (t:List Int) (i:Int):Int:=t.getD i.toNat 0
def H74 (l:List Change) (k:Nat) (t:List Int) (f n:Int):Prop:=(f+n < t.length∧atI t f=atI t (f+n))∧(k+1=l.length∨(cAt l k).Old+(cAt l k).OldLen+1 < (cAt l (k+1)).Old)
instance (l:List Change) (k:Nat) (t:List Int) (f n:Int):Decidable (H74 l k t f n):=by unfold H74;exact inferInstance
def D50 (l:List Change) (a b:List Int) (k:Nat):Bool :=
 if (cAt l k).NewLen=0 then decide (H74 l k a (cAt l k).Old (cAt l k).OldLen) else if (cAt l k).OldLen=0 then decide (H74 l k b (cAt l k).New (cAt l k).NewLen) else false
theorem m7 (l:List Change) (k:Nat):(B01 l k).length=l.length:=by simp [B01]
theorem B73 (l:List Change) {k:Nat} (hk:k < l.length) (q:Nat):cAt (B01 l k) q=if q=k then C94 (cAt l k) else cAt l q:=by
 unfold B01
 by_cases h:q=k
 ·subst h
  have:∀z,cAt (l.set q z) q=z:=fun z=>by unfold cAt;simp [hk]
  rw [if_pos rfl,this]
 ·rw [if_neg h];unfold cAt
  simp only [J21]
  rw [List.getElem?_set_ne (Ne.symm h)]
theorem C59 (l:List Change) {k:Nat} (hk:k < l.length) (q:Nat):eoI 0 (B01 l k) q=eoI 0 l q+(if q=k+1 then 1 else 0):=by
 cases q with
 | zero=>simp [eoI]
 | succ q =>
  rw [B50,B50,B73 l hk]
  by_cases h:q=k
  ·subst h;rw [if_pos rfl,if_pos rfl];simp only [B14,C94];omega
  ·rw [if_neg h,if_neg (by omega)];omega
theorem C60 (l:List Change) {k:Nat} (hk:k < l.length) (q:Nat):enI 0 (B01 l k) q=enI 0 l q+(if q=k+1 then 1 else 0):=by
 cases q with
 | zero=>simp [enI]
 | succ q =>
  rw [B51,B51,B73 l hk]
  by_cases h:q=k
  ·subst h;rw [if_pos rfl,if_pos rfl];simp only [F55,C94];omega
  ·rw [if_neg h,if_neg (by omega)];omega
structure IdsOf (x:List Str) (a:List Int):Prop where
 len:a.length=x.length
 inj:∀(i j:Nat) (u v:Str) (z:Int),x[i]?=some u→x[j]?=some v→a[i]?=some z→a[j]?=some z→u=v
theorem ScFit.down {x y:List Str} {l:List Change} {a b:List Int} (h:ScFit x y l) (ha:IdsOf x a) (hb:IdsOf y b) {k:Nat} (hk:k < l.length) (hd:D50 l a b k=true):ScFit x y (B01 l k):=by
 have hlx:=h.lx
 have hly:=h.ly
 have hg:=A13 _ _ _ 0 0 0 h.sc
 have hge:=H29 _ _ _ 0 0 0 h.sc
 have hq:=F56 _ _ _ _ _ h.eq
 have hqe:=H30 _ _ _ _ _ h.eq
 have hok:=h.ok
 obtain ⟨c,hc⟩:∃c,c=cAt l k:=⟨_,rfl⟩
 obtain ⟨g1,g2,g3,g4,g5,g6,g7,g8⟩:=hg k hk
 have hb4:=hok.get k hk
 rw [←hc] at g1 g2 g3 g4 g5 g6 g7 g8 hb4
 unfold N8 at g1 g2 g3 g4
 have eo1:eoI 0 l (k+1)=c.Old+c.OldLen:=by rw [B50,←hc];rfl
 have en1:enI 0 l (k+1)=c.New+c.NewLen:=by rw [B51,←hc];rfl
 obtain ⟨E,E',hE1,hE2,hE3,hE4,hE5,hEn⟩:∃E E':Int,sub x (c.Old+c.OldLen) E=sub y (c.New+c.NewLen) E'∧E - (c.Old+c.OldLen)=E' - (c.New+c.NewLen)∧E≤x.length∧E'≤y.length∧(c.Old+c.OldLen < E)∧(k+1 < l.length→E=(cAt l (k+1)).Old∧E'=(cAt l (k+1)).New∧c.Old+c.OldLen+1 < E):=by
  by_cases hl:k+1=l.length
  ·rw [←hl,eo1,en1] at hge hqe
   refine ⟨x.length,y.length,hqe,by omega,by omega,by omega,?_,fun q=>absurd hl (by omega)⟩
   unfold D50 at hd
   rw [←hc] at hd
   split at hd
   ·have:=(A0 hd).1.1;rw [ha.len] at this;omega
   ·split at hd
    ·have:=(A0 hd).1.1;rw [hb.len] at this;omega
    ·cases hd
  ·have hl:k+1 < l.length:=by omega
   obtain ⟨f1,f2,f3,f4,f5,f6,f7,f8⟩:=hg (k+1) hl
   have f9:=hq (k+1) hl
   have f10:=hok.get (k+1) hl
   rw [eo1,en1] at f6 f9
   rw [eo1] at f7
   unfold N8 at f2 f4
   have hroom:c.Old+c.OldLen+1 < (cAt l (k+1)).Old:=by
    unfold D50 at hd
    rw [←hc] at hd
    split at hd
    ·have:=(A0 hd).2;rw [←hc] at this;omega
    ·split at hd
     ·have:=(A0 hd).2;rw [←hc] at this;omega
     ·cases hd
   exact ⟨_,_,f9,by omega,by omega,by omega,by omega,fun _=>⟨rfl,rfl,hroom⟩⟩
 have hv:∃v,x[c.Old.toNat]?=some v∧y[c.New.toNat]?=some v:=by
  obtain ⟨v,v1,v2⟩:=F60 (t:=0) hE1 (by omega) (by omega) (by omega) hE2 (by omega)
  simp only [Int.natCast_zero,Int.add_zero] at v1 v2
  unfold D50 at hd
  rw [←hc] at hd
  split at hd
  ·rename_i hn
   have:=(A0 hd).1.2
   rw [hn,Int.add_zero] at v2
   refine ⟨v,?_,v2⟩
   have l1:c.Old.toNat < a.length:=by rw [ha.len];omega
   have l2:(c.Old+c.OldLen).toNat < a.length:=by rw [ha.len];omega
   have hx:x[c.Old.toNat]?=some x[c.Old.toNat]:=J15 (by omega)
   have ea:a[c.Old.toNat]?=some (atI a c.Old):=by unfold atI;rw [J21,J15 l1];rfl
   have eb:a[(c.Old+c.OldLen).toNat]?=some (atI a (c.Old+c.OldLen)):=by unfold atI;rw [J21,J15 l2];rfl
   rw [←this] at eb
   have:=ha.inj _ _ _ _ _ hx v1 ea eb
   rw [hx,this]
  ·split at hd
   ·rename_i _ hn
    have:=(A0 hd).1.2
    rw [hn,Int.add_zero] at v1
    refine ⟨v,v1,?_⟩
    have l1:c.New.toNat < b.length:=by rw [hb.len];omega
    have l2:(c.New+c.NewLen).toNat < b.length:=by rw [hb.len];omega
    have hx:y[c.New.toNat]?=some y[c.New.toNat]:=J15 (by omega)
    have ea:b[c.New.toNat]?=some (atI b c.New):=by unfold atI;rw [J21,J15 l1];rfl
    have eb:b[(c.New+c.NewLen).toNat]?=some (atI b (c.New+c.NewLen)):=by unfold atI;rw [J21,J15 l2];rfl
    rw [←this] at eb
    have:=hb.inj _ _ _ _ _ hx v2 ea eb
    rw [hx,this]
   ·cases hd
 obtain ⟨v,v1,v2⟩:=hv
 have hen0:0≤eoI 0 l k∧0≤enI 0 l k:=by
  cases k with
  | zero=>simp [eoI,enI]
  | succ k =>
   obtain ⟨f1,f2,f3,f4,_⟩:=hg k (by omega)
   unfold N8 at f1 f2 f3 f4
   rw [B50,B51];unfold B14 F55;omega
 have htail:sub x (c.Old+c.OldLen+1) E=sub y (c.New+c.NewLen+1) E':=by
  have:=E19 (e:=E - (c.Old+c.OldLen) - 1) hE1 (by omega) (by omega) (by omega) (by omega) hE2
  rw [show E - (E - (c.Old+c.OldLen) - 1)=c.Old+c.OldLen+1 by omega,show E' - (E - (c.Old+c.OldLen) - 1)=c.New+c.NewLen+1 by omega] at this
  exact this
 refine ⟨hlx,hly,H71 _ _ _ 0 0 0 (fun q hql=>?_) ?_,H72 _ _ _ 0 0 (fun q hql=>?_) ?_⟩
 ·rw [m7] at hql
  rw [B73 l hk,C59 l hk,C60 l hk]
  by_cases e:q=k
  ·rw [if_pos e,if_neg (show ¬q=k+1 by omega),e,←hc]
   unfold N8
   simp only [C94]
   refine ⟨by omega,g2,by omega,g4,g5,by omega,by omega,fun _=>by omega⟩
  ·rw [if_neg e]
   obtain ⟨f1,f2,f3,f4,f5,f6,f7,f8⟩:=hg q hql
   refine ⟨f1,f2,f3,f4,f5,?_,?_,?_⟩
   ·by_cases e2:q=k+1
    ·rw [if_pos e2];omega
    ·rw [if_neg e2];omega
   ·by_cases e2:q=k+1
    ·rw [if_pos e2];have:=f8 (by omega);omega
    ·rw [if_neg e2];omega
   ·intro h0
    by_cases e2:q=k+1
    ·rw [if_pos e2,e2,eo1]
     have:=(hEn (by omega))
     omega
    ·rw [if_neg e2];have:=f8 h0;omega
 ·rw [m7,C59 l hk,C60 l hk]
  by_cases e2:l.length=k+1
  ·rw [if_pos e2,e2,eo1,en1]
   rw [e2,eo1,en1] at hge
   have h1:E≤x.length:=hE3
   omega
  ·rw [if_neg e2];omega
 ·rw [m7] at hql
  rw [B73 l hk,C59 l hk,C60 l hk]
  by_cases e:q=k
  ·rw [if_pos e,if_neg (show ¬q=k+1 by omega),e,←hc]
   simp only [C94,Int.add_zero]
   have:=hq k hk
   rw [←hc] at this
   rw [G40 hen0.1 g7 v1,G40 hen0.2 (by omega) v2,this]
  ·rw [if_neg e]
   by_cases e2:q=k+1
   ·rw [if_pos e2]
    subst e2
    obtain ⟨q1,q2,_⟩:=hEn hql
    rw [eo1,en1,←q1,←q2];exact htail
   ·rw [if_neg e2,Int.add_zero,Int.add_zero]
    exact hq q hql
 ·rw [m7,C59 l hk,C60 l hk]
  by_cases e2:l.length=k+1
  ·rw [if_pos e2]
   rw [e2,eo1,en1] at hqe hge ⊢
   have:=E19 (e:=x.length - (c.Old+c.OldLen) - 1) hqe (by omega) (by omega) (by omega) (by omega) (by omega)
   rw [show (x.length:Int) - (x.length - (c.Old+c.OldLen) - 1)=c.Old+c.OldLen+1 by omega,show (y.length:Int) - (x.length - (c.Old+c.OldLen) - 1)=c.New+c.NewLen+1 by omega] at this
   exact this
  ·rw [if_neg e2,Int.add_zero,Int.add_zero];exact hqe
section
variable {x y:List Str} {a b:List Int} (ha:IdsOf x a) (hb:IdsOf y b)
include ha hb
end
end Go.AL
namespace Go.AL
open Go
structure Made12 (on nn a b:Str) (l:List Change) (ctx:Int):Prop where
 chk:C54 ⟨on,nn,d7 l (K3 a) (K3 b) ctx⟩=0
 wr:(H67 ⟨on,nn,d7 l (K3 a) (K3 b) ctx⟩).length≤16777216
 fit:PFit ⟨on,nn,d7 l (K3 a) (K3 b) ctx⟩
 rg:∀h∈d7 l (K3 a) (K3 b) ctx,(-4611686018427387904≤h.Old∧h.Old≤4611686018427387904)∧(-4611686018427387904≤h.New∧h.New≤4611686018427387904)
 sz:szP (d7 l (K3 a) (K3 b) ctx)≤268435456
end Go.AL
namespace Go.AL
open Go
section
variable {x y:List Str} {l:List Change}
end
end Go.AL
namespace Go.AL
open Go
end Go.AL
namespace Go.AL
open Go
end Go.AL
namespace Go.AL
open Go
theorem check12_good {p:Patch} (h:C54 p=0):C91 p.Hunks=true:=by
 unfold C54 at h
 split at h
 ·cases h
 ·split at h
  ·cases h
  ·rename_i h1;simpa using h1
end Go.AL
namespace Go.AL
open Go
structure CHunk where
 At:List Int
 Rows:List Row
 deriving DecidableEq
structure Comb where
 Path:Str
 Dense:Bool
 Parents:Int
 Hunks:List CHunk
 deriving DecidableEq
def colNum (n k:Nat):Int:=if k=n then -1 else k
def cntC (rows:List Row) (n k:Nat):Int:=(colOf rows (colNum n k)).length
structure CRead (n:Nat) (h:CHunk):Prop where
 len:h.At.length=n+1
 ne:h.Rows≠[]
 at0:∀k,k < n+1→0≤h.At.getD k 0∧h.At.getD k 0+cntC h.Rows n k≤4096
 rows:∀r∈h.Rows,markOk n r=true∧f0 r.Text=true
end Go.AL
namespace Go.AL
open Go
end Go.AL
namespace Go.AL
open Go
theorem getI {l:List Int} {i:Nat} (h:i < l.length):l[i]?=some (l.getD i 0):=by simp [h]
end Go.AL
namespace Go.AL
open Go
end Go.AL
namespace Go.AL
open Go
abbrev v6:Bool→Nat→Cell:=fun b _=>.v (.bool b)
abbrev F61 (l:List Bool):PV:=.one (.list Bool 1 v6 l)
end Go.AL
namespace Go.AL
open Go
def Y9 (l:List Int) (i j:Nat):List Int:=(l.set i (atG l j)).set j (atG l i)
def upH (bf:Int→Int→Bool):Nat→List Int→Nat→List Int
 | 0,l,_=>l
 | f+1,l,j=>if (j - 1) / 2=j∨bf (atG l j) (atG l ((j - 1) / 2))=false then l else upH bf f (Y9 l ((j - 1) / 2) j) ((j - 1) / 2)
def D39 (bf:Int→Int→Bool) (n:Nat) (l:List Int) (i:Nat):Nat:=if 2*i+2 < n∧bf (atG l (2*i+2)) (atG l (2*i+1))=true then 2*i+2 else 2*i+1
def A14 (bf:Int→Int→Bool) (n:Nat):Nat→List Int→Nat→List Int
 | 0,l,_=>l
 | f+1,l,i=>if n≤2*i+1 then l else if bf (atG l (D39 bf n l i)) (atG l i)=false then l else A14 bf n f (Y9 l i (D39 bf n l i)) (D39 bf n l i)
def C61 (bf:Int→Int→Bool) (l:List Int) (x:Int):List Int:=upH bf (l.length+1) (l++[x]) l.length
def C19 (bf:Int→Int→Bool) (l:List Int):List Int:=A14 bf (l.length - 1) l.length (Y9 l 0 (l.length - 1)) 0
theorem N3 (l:List Int) (i j:Nat):(Y9 l i j).length=l.length:=by simp [Y9]
theorem c6 {l:List Int} {i j:Nat} (hi:i < l.length) (hj:j < l.length) (k:Nat):atG (Y9 l i j) k=if k=j then atG l i else if k=i then atG l j else atG l k:=by
 unfold Y9
 rw [A31 (by rw [J41];exact hj),A31 hi]
 simp only [@eq_comm Nat j k,@eq_comm Nat i k]
theorem O6 {l:List Int} {k:Nat} (h:k < l.length):atG l k=l[k]:=by unfold atG;rw [J15 h];rfl
theorem E99 {l:List Int} {i j:Nat} (hi:i < l.length) (hj:j < l.length) (x:Int):x∈Y9 l i j↔x∈l:=by
 have sub:∀{l:List Int} {i j:Nat},i < l.length→j < l.length→∀x,x∈Y9 l i j→x∈l:=by
  intro l i j hi hj x hx
  obtain ⟨k,hk,e⟩:=List.getElem_of_mem hx
  rw [←O6 hk,c6 hi hj] at e
  rw [N3] at hk
  split at e
  ·rw [←e,O6 hi];exact J18 hi
  ·split at e
   ·rw [←e,O6 hj];exact J18 hj
   ·rw [←e,O6 hk];exact J18 hk
 refine ⟨sub hi hj x,fun hx=>?_⟩
 have e:Y9 (Y9 l i j) i j=l:=by
  refine List.ext_getElem (by rw [N3,N3]) fun k h1 h2=>?_
  rw [←O6 h1,←O6 h2,c6 (by rw [N3];exact hi) (by rw [N3];exact hj),c6 hi hj,c6 hi hj,c6 hi hj]
  by_cases h3:k=j
  ·subst h3
   rw [if_pos rfl]
   by_cases h4:i=k
   ·rw [if_pos h4,h4]
   ·rw [if_neg h4,if_pos rfl]
  ·rw [if_neg h3]
   by_cases h4:k=i
   ·rw [if_pos h4,if_pos rfl,h4]
   ·rw [if_neg h4,if_neg h3,if_neg h4]
 exact sub (by rw [N3];exact hi) (by rw [N3];exact hj) x (by rw [e];exact hx)
theorem I85 {l:List Int}:l.Nodup↔∀i j,i < l.length→j < l.length→atG l i=atG l j→i=j:=by
 constructor
 ·intro h i j hi hj e
  rw [O6 hi,O6 hj] at e
  exact (List.getElem_inj h).1 e
 ·intro h
  rw [List.Nodup,List.pairwise_iff_getElem]
  intro i j hi hj hlt e
  have:=h i j hi hj (by rw [O6 hi,O6 hj];exact e)
  omega
theorem G45 {l:List Int} {i j:Nat} (hi:i < l.length) (hj:j < l.length) (h:l.Nodup):(Y9 l i j).Nodup:=by
 rw [I85] at h ⊢
 intro a b ha hb e
 rw [N3] at ha hb
 rw [c6 hi hj,c6 hi hj] at e
 by_cases a1:a=j<;>by_cases b1:b=j
 ·omega
 ·rw [if_pos a1,if_neg b1] at e
  by_cases b2:b=i
  ·rw [if_pos b2] at e;have:=h _ _ hi hj e;omega
  ·rw [if_neg b2] at e;have:=h _ _ hi hb e;omega
 ·rw [if_neg a1,if_pos b1] at e
  by_cases a2:a=i
  ·rw [if_pos a2] at e;have:=h _ _ hj hi e;omega
  ·rw [if_neg a2] at e;have:=h _ _ ha hi e;omega
 ·rw [if_neg a1,if_neg b1] at e
  by_cases a2:a=i<;>by_cases b2:b=i
  ·omega
  ·rw [if_pos a2,if_neg b2] at e;have:=h _ _ hj hb e;omega
  ·rw [if_neg a2,if_pos b2] at e;have:=h _ _ ha hj e;omega
  ·rw [if_neg a2,if_neg b2] at e;exact h _ _ ha hb e
structure SameL (l m:List Int):Prop where
 len:m.length=l.length
 mem:∀x,x∈m↔x∈l
 nodup:l.Nodup→m.Nodup
theorem SameL.refl (l:List Int):SameL l l:=⟨rfl,fun _=>Iff.rfl,id⟩
theorem SameL.trans {a b c:List Int} (h:SameL a b) (h2:SameL b c):SameL a c:=⟨h2.len.trans h.len,fun x=>(h2.mem x).trans (h.mem x),fun hn=>h2.nodup (h.nodup hn)⟩
theorem SameL.swap {l:List Int} {i j:Nat} (hi:i < l.length) (hj:j < l.length):SameL l (Y9 l i j):=⟨N3 l i j,E99 hi hj,G45 hi hj⟩
structure Weak (bf:Int→Int→Bool):Prop where
 irr:∀a,bf a a=false
 asy:∀{a b},bf a b=true→bf b a=false
 ntr:∀{a b c},bf a b=false→bf b c=false→bf a c=false
def C62 (bf:Int→Int→Bool) (n:Nat) (l:List Int):Prop:=∀k,k < n→0 < k→bf (atG l k) (atG l ((k - 1) / 2))=false
theorem I39 {bf:Int→Int→Bool} (w:Weak bf) {n:Nat} {l:List Int} (h:C62 bf n l):∀k,k < n→bf (atG l k) (atG l 0)=false:=by
 intro k
 induction k using Nat.strongRecOn with
 | _ k ih =>
  intro hk
  by_cases h0:k=0
  ·subst h0;exact w.irr _
  ·exact w.ntr (h k hk (by omega)) (ih ((k - 1) / 2) (by omega) (by omega))
theorem G46 {bf:Int→Int→Bool} (w:Weak bf) {n:Nat}:∀(f j:Nat) (l:List Int),j < f→j < n→n≤l.length →
  (∀k,k < n→0 < k→k≠j→bf (atG l k) (atG l ((k - 1) / 2))=false)→(∀k,k < n→0 < k→(k - 1) / 2=j→0 < j→bf (atG l k) (atG l ((j - 1) / 2))=false) →
  C62 bf n (upH bf f l j)∧SameL l (upH bf f l j)
 | 0,j,l,hf,_,_,_,_=>by omega
 | f + 1,j,l,hf,hj,hl,h1,h2=>by
  unfold upH
  split
  ·rename_i h
   refine ⟨fun k hk h0=>?_,SameL.refl l⟩
   by_cases e:k=j
   ·subst e
    rcases h with h | h
    ·omega
    ·exact h
   ·exact h1 k hk h0 e
  ·rename_i h
   have hne:(j - 1) / 2≠j:=fun e=>h (.inl e)
   have hlt:bf (atG l j) (atG l ((j - 1) / 2))=true:=by
    cases hb:bf (atG l j) (atG l ((j - 1) / 2))
    ·exact absurd (.inr hb) h
    ·rfl
   have hi:(j - 1) / 2 < l.length:=by omega
   have hjl:j < l.length:=by omega
   have hsw:=c6 hi hjl
   obtain ⟨a,b⟩:=G46 (n:=n) w f ((j - 1) / 2) (Y9 l ((j - 1) / 2) j) (by omega) (by omega) (by rw [N3];exact hl) (fun k hk h0 hne2=>by
    rw [hsw,hsw]
    by_cases e1:k=j
    ·rw [if_pos e1,e1,if_neg (by omega),if_pos rfl];exact w.asy hlt
    ·rw [if_neg e1,if_neg hne2]
     by_cases e2:(k - 1) / 2=j
     ·rw [if_pos e2];exact h2 k hk h0 e2 (by omega)
     ·rw [if_neg e2]
      by_cases e3:(k - 1) / 2=(j - 1) / 2
      ·rw [if_pos e3]
       have h3:=h1 k hk h0 e1
       rw [e3] at h3
       exact w.ntr h3 (w.asy hlt)
      ·rw [if_neg e3];exact h1 k hk h0 e1) (fun k hk h0 e h3=>by
    rw [hsw,hsw,if_neg (show ¬((j - 1) / 2 - 1) / 2=j by omega),if_neg (show ¬((j - 1) / 2 - 1) / 2=(j - 1) / 2 by omega)]
    have h4:=h1 ((j - 1) / 2) (by omega) h3 (by omega)
    by_cases e1:k=j
    ·rw [if_pos e1];exact h4
    ·rw [if_neg e1,if_neg (by omega)]
     have h5:=h1 k hk h0 e1
     rw [e] at h5
     exact w.ntr h5 h4)
   exact ⟨a,(SameL.swap hi hjl).trans b⟩
theorem G47 {bf:Int→Int→Bool} (w:Weak bf) {l:List Int} (x:Int) (h:C62 bf l.length l):C62 bf (l.length+1) (C61 bf l x)∧SameL (l++[x]) (C61 bf l x):=by
 unfold C61
 have hat:∀k,k < l.length→atG (l++[x]) k=atG l k:=fun k hk=>by unfold atG;rw [J27 hk]
 refine G46 w (n:=l.length+1) (l.length+1) l.length (l++[x]) (by omega) (by omega) (by simp) (fun k hk h0 hne=>?_) (fun k hk h0 e h1=>by omega)
 rw [hat k (by omega),hat _ (by omega)]
 exact h k (by omega) h0
theorem H75 {bf:Int→Int→Bool} {n:Nat} {l:List Int} {i:Nat} (h:2*i+1 < n):D39 bf n l i < n∧(D39 bf n l i - 1) / 2=i∧i < D39 bf n l i:=by
 unfold D39;split<;>omega
theorem I86 {bf:Int→Int→Bool} (w:Weak bf) {n:Nat} {l:List Int} {i k:Nat} (hk:k < n) (h0:0 < k) (e:(k - 1) / 2=i):bf (atG l k) (atG l (D39 bf n l i))=false:=by
 unfold D39
 split
 ·rename_i h
  by_cases e1:k=2*i+2
  ·rw [e1];exact w.irr _
  ·rw [show k=2*i+1 by omega];exact w.asy h.2
 ·rename_i h
  by_cases e1:k=2*i+1
  ·rw [e1];exact w.irr _
  ·have e2:k=2*i+2:=by omega
   rw [e2]
   cases hb:bf (atG l (2*i+2)) (atG l (2*i+1))
   ·rfl
   ·exact absurd ⟨by omega,hb⟩ h
theorem E29 {bf:Int→Int→Bool} (w:Weak bf) {n:Nat}:∀(f i:Nat) (l:List Int),n≤i+f→n≤l.length →
  (∀k,k < n→0 < k→(k - 1) / 2≠i→bf (atG l k) (atG l ((k - 1) / 2))=false)→(∀k,k < n→0 < k→(k - 1) / 2=i→0 < i→bf (atG l k) (atG l ((i - 1) / 2))=false) →
  C62 bf n (A14 bf n f l i)∧SameL l (A14 bf n f l i)∧∀k,n≤k→atG (A14 bf n f l i) k=atG l k
 | 0,i,l,hf,_,h1,h2=>by
  unfold A14
  exact ⟨fun k hk h0=>h1 k hk h0 (by omega),SameL.refl l,fun _ _=>rfl⟩
 | f + 1,i,l,hf,hl,h1,h2=>by
  unfold A14
  split
  ·exact ⟨fun k hk h0=>h1 k hk h0 (by omega),SameL.refl l,fun _ _=>rfl⟩
  ·rename_i hn
   obtain ⟨c1,c2,c3⟩:=H75 (bf:=bf) (l:=l) (show 2*i+1 < n by omega)
   have c4:=fun k hk h0 e=>I86 (bf:=bf) w (n:=n) (l:=l) (i:=i) (k:=k) hk h0 e
   generalize D39 bf n l i=j at c1 c2 c3 c4
   split
   ·rename_i h
    refine ⟨fun k hk h0=>?_,SameL.refl l,fun _ _=>rfl⟩
    by_cases e:(k - 1) / 2=i
    ·rw [e];exact w.ntr (c4 k hk h0 e) h
    ·exact h1 k hk h0 e
   ·rename_i h
    have hlt:bf (atG l j) (atG l i)=true:=by simpa using h
    have hi:i < l.length:=by omega
    have hj:j < l.length:=by omega
    have hsw:=c6 hi hj
    obtain ⟨a,b,c⟩:=E29 (n:=n) w f j (Y9 l i j) (by omega) (by rw [N3];exact hl) (fun k hk h0 hne=>by
     rw [hsw,hsw]
     rw [if_neg (show ¬(k - 1) / 2=j from hne)]
     by_cases e1:k=j
     ·rw [if_pos e1]
      rw [e1,if_pos c2];exact w.asy hlt
     ·rw [if_neg e1]
      by_cases e2:(k - 1) / 2=i
      ·rw [if_pos e2,if_neg (by omega)];exact c4 k hk h0 e2
      ·rw [if_neg e2]
       by_cases e3:k=i
       ·rw [if_pos e3,e3]
        exact h2 j c1 (by omega) c2 (by omega)
       ·rw [if_neg e3];exact h1 k hk h0 e2) (fun k hk h0 e h3=>by
     rw [hsw,hsw,if_neg (by omega),if_neg (by omega),c2,if_neg (by omega),if_pos rfl]
     have:=h1 k hk h0 (by omega)
     rw [e] at this;exact this)
    refine ⟨a,(SameL.swap hi hj).trans b,fun k hk=>?_⟩
    rw [c k hk,hsw,if_neg (by omega),if_neg (by omega)]
theorem popH_ok {bf:Int→Int→Bool} (w:Weak bf) {l:List Int} (h:C62 bf l.length l) (hl:0 < l.length) :
  C62 bf (l.length - 1) (C19 bf l)∧SameL l (C19 bf l)∧atG (C19 bf l) (l.length - 1)=atG l 0:=by
 unfold C19
 have h0:0 < l.length:=hl
 have h1:l.length - 1 < l.length:=by omega
 have hsw:=c6 h0 h1
 obtain ⟨a,b,c⟩:=E29 w (n:=l.length - 1) l.length 0 (Y9 l 0 (l.length - 1)) (by omega) (by rw [N3];omega) (fun k hk hk0 hne=>by
  rw [hsw,hsw,if_neg (by omega),if_neg (by omega),if_neg (by omega),if_neg hne]
  exact h k (by omega) hk0) (fun k hk hk0 e h3=>by omega)
 refine ⟨a,(SameL.swap h0 h1).trans b,?_⟩
 rw [c _ (Nat.le_refl _),hsw,if_pos rfl]
end Go.AL
namespace Go.AL
open Go
def U9 (g:Graph) (c:Nat):Int:=(g[c]?.map (·.Date)).getD 0
def R5 (g:Graph) (a b:Int):Bool:=decide (U9 g a.toNat > U9 g b.toNat∨(U9 g a.toNat=U9 g b.toNat∧a < b))
theorem B74 (g:Graph):Weak (R5 g) where
 irr:=fun a=>by unfold R5;rw [decide_eq_false_iff_not];omega
 asy:=fun {a b} h=>by unfold R5 at h ⊢;rw [decide_eq_true_eq] at h;rw [decide_eq_false_iff_not];omega
 ntr:=fun {a b c} h h2=>by unfold R5 at h h2 ⊢;rw [decide_eq_false_iff_not] at h h2 ⊢;omega
def W4 (g:Graph) (inn:List Bool) (L:List Int) (c:Nat):Bool:=K0 inn c&&decide ((c:Int)∉L)&&(List.range g.length).all fun k=>!(decide ((c:Int)∈D9 g k)&&K0 inn k&&decide ((k:Int)∉L))
def m8 (g:Graph) (inn:List Bool) (L:List Int):Nat→Int
 | 0 => -1
 | m+1=>if W4 g inn L m=true∧(m8 g inn L m < 0∨U9 g m > U9 g (m8 g inn L m).toNat) then m else m8 g inn L m
def A15 (g:Graph) (inn:List Bool) (L:List Int):Int:=m8 g inn L g.length
def B81 (g:Graph) (inn:List Bool):Nat→List Int→List Int
 | 0,L=>L
 | f+1,L=>if A15 g inn L < 0 then L else B81 g inn f (L++[A15 g inn L])
def r7 (g:Graph) (s:List Int):List Int:=B81 g (M9 g s) (g.length+1) []
theorem A74 (g:Graph) (inn:List Bool) (L:List Int):∀m,(m8 g inn L m = -1∧∀c,c < m→W4 g inn L c=false)∨∃b:Nat,b < m∧m8 g inn L m=b∧W4 g inn L b=true∧∀c,c < m→W4 g inn L c=true→c≠b→R5 g b c=true
 | 0=>.inl ⟨rfl,fun _ h=>by omega⟩
 | m + 1=>by
  rw [m8]
  rcases A74 g inn L m with ⟨h1,h2⟩ | ⟨b,h1,h2,h3,h4⟩
  ·rw [h1]
   cases hr:W4 g inn L m
   ·rw [if_neg (by simp)]
    exact .inl ⟨rfl,fun c hc=>by
     by_cases e:c=m
     ·rw [e];exact hr
     ·exact h2 c (by omega)⟩
   ·rw [if_pos ⟨rfl,.inl (by omega)⟩]
    exact .inr ⟨m,by omega,rfl,hr,fun c hc hcr hne=>by rw [h2 c (by omega)] at hcr;cases hcr⟩
  ·rw [h2]
   split
   ·rename_i h
    have hd:U9 g m > U9 g b:=by
     rcases h.2 with h | h
     ·omega
     ·simpa using h
    refine .inr ⟨m,by omega,rfl,h.1,fun c hc hcr hne=>?_⟩
    unfold R5
    rw [decide_eq_true_eq,J17,J17]
    by_cases e:c=b
    ·subst e;exact .inl hd
    ·have:=A0 (h4 c (by omega) hcr e)
     rw [J17,J17] at this
     omega
   ·rename_i h
    refine .inr ⟨b,by omega,rfl,h3,fun c hc hcr hne=>?_⟩
    by_cases e:c=m
    ·subst e
     unfold R5
     rw [decide_eq_true_eq,J17,J17]
     have:¬U9 g c > U9 g b:=fun hd=>h ⟨hcr,.inr (by simpa using hd)⟩
     omega
    ·exact h4 c (by omega) hcr hne
theorem H34 {g:Graph} {inn:List Bool} {L:List Int} (h:∀c,c < g.length→W4 g inn L c=false):A15 g inn L = -1:=by
 rcases A74 g inn L g.length with h1 | ⟨b,h1,_,h3,_⟩
 ·exact h1.1
 ·rw [h b h1] at h3;cases h3
theorem I87 {g:Graph} {inn:List Bool} {L:List Int} {b:Nat} (hb:b < g.length) (hr:W4 g inn L b=true) (h:∀c,c < g.length→W4 g inn L c=true→R5 g c b=false):A15 g inn L=b:=by
 rcases A74 g inn L g.length with h1 | ⟨b',h1,h2,h3,h4⟩
 ·rw [h1.2 b hb] at hr;cases hr
 ·unfold A15
  rw [h2]
  by_cases e:b=b'
  ·rw [e]
  ·have:=h4 b hb hr e
   rw [h b' h1 h3] at this;cases this
theorem F00 {g:Graph} {inn:List Bool} {L:List Int} (h:0≤A15 g inn L):∃b:Nat,b < g.length∧A15 g inn L=b∧K0 inn b=true∧(b:Int)∉L:=by
 rcases A74 g inn L g.length with h1 | ⟨b,h1,h2,h3,_⟩
 ·have:A15 g inn L = -1:=h1.1
  omega
 ·unfold W4 at h3
  rw [J16,J16,decide_eq_true_eq] at h3
  exact ⟨b,h1,h2,h3.1.1,h3.1.2⟩
theorem F01 {g:Graph} {inn:List Bool} {f:Nat} {L:List Int} (hf:0 < f) (h:0≤A15 g inn L):B81 g inn f L=B81 g inn (f - 1) (L++[A15 g inn L]):=by
 obtain ⟨f,rfl⟩:∃k,f=k+1:=⟨f - 1,by omega⟩
 rw [B81,if_neg (by omega)];rfl
theorem G48 {g:Graph} {inn:List Bool} {f:Nat} {L:List Int} (h:A15 g inn L < 0):B81 g inn f L=L:=by
 cases f with
 | zero=>rfl
 | succ f=>rw [B81,if_pos h]
theorem G49 {g:Graph} {inn:List Bool}:∀(f:Nat) (L:List Int),L.Nodup→(∀x∈L,0≤x∧x < g.length)→(B81 g inn f L).Nodup∧∀x∈B81 g inn f L,0≤x∧x < g.length
 | 0,L,h,h2=>⟨h,h2⟩
 | f+1,L,h,h2=>by
  rw [B81]
  split
  ·exact ⟨h,h2⟩
  ·rename_i hb
   obtain ⟨b,b1,b2,_,b4⟩:=F00 (g:=g) (inn:=inn) (L:=L) (by omega)
   rw [b2]
   refine G49 f _ (List.nodup_append.2 ⟨h,by simp,fun x hx y hy e=>by rw [List.mem_singleton.1 hy] at e;exact b4 (e ▸ hx)⟩) fun x hx=>?_
   rcases List.mem_append.1 hx with hx | hx
   ·exact h2 x hx
   ·rw [List.mem_singleton.1 hx];omega
theorem B53 (g:Graph) (s:List Int):(r7 g s).Nodup∧∀x∈r7 g s,0≤x∧x < g.length:=G49 _ [] List.nodup_nil fun _ h=>by cases h
def C95 (g:Graph) (inn:List Bool) (ex:List Int) (p:Nat):Nat:=(List.range g.length).countP fun c:Nat=>K0 inn c&&decide ((c:Int)∉ex∧(p:Int)∈D9 g c)
theorem F02 {g:Graph} {inn:List Bool} {ex:List Int} {x p:Nat} (hx:(x:Int)∉ex) (hlt:x < g.length) (hon:K0 inn x=true):C95 g inn ex p=C95 g inn (ex++[(x:Int)]) p+(if (p:Int)∈D9 g x then 1 else 0):=by
 unfold C95
 rw [C15 (q:=fun c=>K0 inn c&&decide ((c:Int)∉ex∧(p:Int)∈D9 g c)) (r:=fun c=>K0 inn c&&decide ((c:Int)∉ex++[(x:Int)]∧(p:Int)∈D9 g c)) x (fun y=>?_) List.nodup_range]
 ·congr 1
  simp only [List.mem_range,hlt,true_and,decide_eq_true_eq,hx,not_false_eq_true,hon,Bool.true_and]
 ·simp only [J39,List.mem_singleton]
  by_cases h1:(y:Int)∈ex<;>by_cases h2:y=x<;>by_cases h3:(p:Int)∈D9 g y<;>cases K0 inn y<;>simp [h1,h2,h3]<;>omega
theorem I40 {g:Graph} {inn:List Bool} {ex:List Int} {p:Nat}:C95 g inn ex p=0↔∀c,c < g.length→K0 inn c=true→(p:Int)∈D9 g c→(c:Int)∈ex:=by
 unfold C95
 rw [List.countP_eq_zero]
 constructor
 ·intro h c hc ho hp
  have:=h c (List.mem_range.2 hc)
  rw [ho,Bool.true_and,decide_eq_true_eq] at this
  apply Classical.byContradiction
  exact fun hn=>this ⟨hn,hp⟩
 ·intro h c hc hh
  rw [J16,decide_eq_true_eq] at hh
  exact hh.2.1 (h c (List.mem_range.1 hc) hh.1 hh.2.2)
theorem F62 (g:Graph) (inn:List Bool) (ex:List Int) (p:Nat):C95 g inn ex p≤g.length:=by
 unfold C95
 have:=List.countP_le_length (p:=fun c=>K0 inn c&&decide ((c:Int)∉ex∧(p:Int)∈D9 g c)) (l:=List.range g.length)
 rwa [J46] at this
structure OInv (g:Graph) (inn:List Bool) (k i:Nat) (ch hp out:List Int):Prop where
 len:ch.length=g.length
 cnt:∀p,p < g.length→K0 inn p=true→atG ch p+(if (p:Int)∈(D9 g (out.getD k 0).toNat).take i then 1 else 0)=C95 g inn (out.take k) p
 off:∀p,p < g.length→K0 inn p=false→atG ch p = -1
 hpm:∀p:Nat,(p:Int)∈hp↔p < g.length∧K0 inn p=true∧(p:Int)∉out∧atG ch p=0
 hpr:∀x∈hp,0≤x∧x < g.length
 hpn:hp.Nodup
 heap:C62 (R5 g) hp.length hp
 outn:out.Nodup
 outr:∀x∈out,0≤x∧x < g.length∧K0 inn x.toNat=true∧atG ch x.toNat=0
theorem OInv.ready {g:Graph} {inn:List Bool} {ch hp out:List Int} (h:OInv g inn out.length 0 ch hp out) {c:Nat} (hc:c < g.length):W4 g inn out c=true↔(c:Int)∈hp:=by
 rw [h.hpm]
 unfold W4
 rw [J16,J16,decide_eq_true_eq,List.all_eq_true]
 have key:K0 inn c=true→((∀x∈List.range g.length,(!(decide ((c:Int)∈D9 g x)&&K0 inn x&&decide ((x:Int)∉out)))=true)↔atG ch c=0):=by
  intro ho
  have h1:=h.cnt c hc ho
  rw [J23,List.take_zero,if_neg (by simp)] at h1
  have h2:=I40 (g:=g) (inn:=inn) (ex:=out) (p:=c)
  constructor
  ·intro hall
   have:C95 g inn out c=0:=h2.2 fun k hk hok hp=>by
    have:=hall k (List.mem_range.2 hk)
    simpa [hp,hok] using this
   omega
  ·intro h0 k hk
   cases hok:K0 inn k
   ·simp
   ·by_cases hp:(c:Int)∈D9 g k
    ·have:=h2.1 (by omega) k (List.mem_range.1 hk) hok hp
     simp [hp,this]
    ·simp [hp]
 constructor
 ·rintro ⟨⟨h1,h2⟩,h3⟩;exact ⟨hc,h1,h2,(key h1).1 h3⟩
 ·rintro ⟨_,h1,h2,h3⟩;exact ⟨⟨h1,h2⟩,(key h1).2 h3⟩
theorem OInv.fin {g:Graph} {inn:List Bool} {ch out:List Int} (h:OInv g inn out.length 0 ch [] out):A15 g inn out = -1 :=
 H34 fun c hc=>by
  cases hr:W4 g inn out c
  ·rfl
  ·have:=(h.ready hc).1 hr;cases this
theorem OInv.le {g:Graph} {inn:List Bool} {k i:Nat} {ch hp out:List Int} (h:OInv g inn k i ch hp out):out.length≤g.length∧hp.length≤g.length :=
 ⟨Y6 h.outn fun x hx=>⟨(h.outr x hx).1,(h.outr x hx).2.1⟩,Y6 h.hpn h.hpr⟩
theorem I41 {l m:List Int} {n:Nat} (hn:n+1=l.length) (hs:SameL l m) (hnd:l.Nodup) {x:Int} (hx:atG m n=x):(∀y,y∈m.take n↔y∈l∧y≠x)∧(m.take n).Nodup∧(m.take n).length=n:=by
 have hml:m.length=n+1:=by rw [hs.len,hn]
 have hmn:=hs.nodup hnd
 have hlt:n < m.length:=by omega
 have e:m=m.take n++[x]:=by
  have h1:m.take (n+1)=m:=J40 (by omega)
  rw [List.take_add_one,J15 hlt,Option.toList_some] at h1
  rw [O6 hlt] at hx
  rw [hx] at h1
  exact h1.symm
 have hnd2:=hmn
 rw [e,List.nodup_append] at hnd2
 refine ⟨fun y=>?_,hnd2.1,by rw [J25];omega⟩
 rw [←hs.mem y]
 constructor
 ·intro hy
  exact ⟨List.mem_of_mem_take hy,hnd2.2.2 y hy x (by simp)⟩
 ·rintro ⟨hy,hne⟩
  rw [e] at hy
  rcases List.mem_append.1 hy with hy | hy
  ·exact hy
  ·exact absurd (List.mem_singleton.1 hy) hne
theorem OInv.pop {g:Graph} {inn:List Bool} {ch hp out:List Int} (h:OInv g inn out.length 0 ch hp out) (h0:0 < hp.length) :
  A15 g inn out=atG hp 0∧OInv g inn out.length 0 ch ((C19 (R5 g) hp).take (hp.length - 1)) (out++[atG hp 0])∧atG (C19 (R5 g) hp) (hp.length - 1)=atG hp 0:=by
 have hm:atG hp 0∈hp:=by rw [O6 h0];exact J18 h0
 have hr:=h.hpr _ hm
 obtain ⟨c,hc⟩:∃c:Nat,atG hp 0=c:=⟨(atG hp 0).toNat,by omega⟩
 have hm2:=(h.hpm c).1 (by rw [←hc];exact hm)
 obtain ⟨p1,p2,p3⟩:=popH_ok (B74 g) h.heap h0
 obtain ⟨t1,t2,t3⟩:=I41 (n:=hp.length - 1) (by omega) p2 h.hpn p3
 have hb:A15 g inn out=c:=I87 hm2.1 ((h.ready hm2.1).2 (by rw [←hc];exact hm)) fun d hd hdr=>by
  obtain ⟨j,hj,e⟩:=List.getElem_of_mem ((h.ready hd).1 hdr)
  have:=I39 (B74 g) h.heap j hj
  rw [O6 hj,e,hc] at this
  exact this
 refine ⟨by rw [hb,hc],?_,p3⟩
 rw [hc] at t1 ⊢
 refine ⟨h.len,fun p hp ho=>?_,h.off,fun p=>?_,fun x hx=>h.hpr x ((t1 x).1 hx).1,t2,?_,?_,?_⟩
 ·have h1:=h.cnt p hp ho
  rw [List.take_zero,if_neg (by simp)] at h1 ⊢
  rw [u5 (Nat.le_refl _)]
  exact h1
 ·rw [t1,h.hpm,J39,List.mem_singleton,not_or]
  constructor
  ·rintro ⟨⟨a1,a2,a3,a4⟩,a5⟩;exact ⟨a1,a2,⟨a3,a5⟩,a4⟩
  ·rintro ⟨a1,a2,⟨a3,a5⟩,a4⟩;exact ⟨⟨a1,a2,a3,a4⟩,a5⟩
 ·rw [t3]
  intro k hk hk0
  have e:∀j,j < hp.length - 1→atG ((C19 (R5 g) hp).take (hp.length - 1)) j=atG (C19 (R5 g) hp) j:=fun j hj=>by
   unfold atG;rw [List.getElem?_take,if_pos hj]
  rw [e k hk,e _ (by omega)]
  exact p1 k hk hk0
 ·exact List.nodup_append.2 ⟨h.outn,by simp,fun x hx y hy e=>by rw [List.mem_singleton.1 hy] at e;exact hm2.2.2.1 (e ▸ hx)⟩
 ·intro x hx
  rcases List.mem_append.1 hx with hx | hx
  ·exact h.outr x hx
  ·rw [List.mem_singleton.1 hx,J17];exact ⟨by omega,by omega,hm2.2.1,hm2.2.2.2⟩
theorem OInv.step {g:Graph} {inn:List Bool} (hr:related g=true) (hcl:A30 g inn) {k i:Nat} {ch hp out:List Int} (h:OInv g inn k i ch hp out) (hk:k+1=out.length) {c p:Nat} (hc:out[k]?=some (c:Int)) (hi:i < (D9 g c).length) (hpp:(D9 g c)[i]=(p:Int)) :
  p < g.length∧1≤atG ch p∧atG ch p≤g.length∧hp.length < g.length∧OInv g inn k (i+1) (V3 ch p) (if atG ch p - 1=0 then C61 (R5 g) hp p else hp) out:=by
 have hkl:k < out.length:=by omega
 have hc:out[k]=(c:Int):=by rw [J15 hkl] at hc;exact Option.some.inj hc
 have hpr:=J0 hr c
 have hpm:(p:Int)∈D9 g c:=by rw [←hpp];exact J18 hi
 have hplt:p < g.length:=by have:=hpr.1 p hpm;omega
 have hco:=h.outr out[k] (J18 hkl)
 rw [hc,J17] at hco
 have hclt:c < g.length:=by omega
 have hon:K0 inn p=true:=by have:=hcl c hco.2.2.1 p hpm;rwa [J17] at this
 have hg0:out.getD k 0=(c:Int):=by rw [J21,J15 hkl];exact hc
 have hnt:(c:Int)∉out.take k:=by rw [←hc];exact V9 h.outn hkl
 have hnp:(p:Int)∉(D9 g c).take i:=by rw [←hpp];exact V9 hpr.2 hi
 have h1:=h.cnt p hplt hon
 rw [hg0,J17,if_neg hnp] at h1
 have h2:=F02 (g:=g) (inn:=inn) (ex:=out.take k) (x:=c) (p:=p) hnt hclt hco.2.2.1
 rw [if_pos hpm] at h2
 have hle:=F62 g inn (out.take k) p
 have hge:1≤atG ch p:=by omega
 have hnout:(p:Int)∉out:=fun hm=>by have:=(h.outr _ hm).2.2.2;rw [J17] at this;omega
 have hnhp:(p:Int)∉hp:=fun hm=>by have:=((h.hpm p).1 hm).2.2.2;omega
 have hst:∀q,atG (V3 ch p) q=if p=q then atG ch p - 1 else atG ch q:=fun q=>by
  unfold V3
  rw [J17,A31 (by rw [h.len];exact hplt)]
 have hlen:hp.length < g.length:=by
  have:=Y6 (l:=(c:Int)::hp) (n:=g.length) (List.nodup_cons.2 ⟨fun hm=>((h.hpm c).1 hm).2.2.1 (by rw [←hc];exact J18 hkl),h.hpn⟩) fun x hx=>by
   rcases List.mem_cons.1 hx with rfl | hx
   ·omega
   ·exact h.hpr x hx
  rw [J19] at this;omega
 obtain ⟨u1,u2⟩:=G47 (B74 g) (p:Int) h.heap
 refine ⟨hplt,hge,by omega,hlen,⟨by unfold V3;rw [J41];exact h.len,?_,?_,?_,?_,?_,?_,h.outn,?_⟩⟩
 ·intro q hq ho
  rw [hg0,J17,hst q]
  by_cases e:p=q
  ·subst e
   rw [if_pos rfl,if_pos ((R1 hi).2 (.inr hpp.symm))];omega
  ·rw [if_neg e]
   have h3:=h.cnt q hq ho
   rw [hg0,J17] at h3
   have h4:((q:Int)∈(D9 g c).take (i+1))↔(q:Int)∈(D9 g c).take i:=by
    rw [R1 hi,hpp]
    exact ⟨fun h=>h.resolve_right (by omega),.inl⟩
   simp only [h4]
   exact h3
 ·intro q hq ho
  rw [hst q,if_neg (fun e=>by rw [e,ho] at hon;cases hon)]
  exact h.off q hq ho
 ·intro q
  rw [hst q]
  by_cases e:p=q
  ·subst e
   rw [if_pos rfl]
   split
   ·rename_i h0
    rw [u2.mem]
    exact ⟨fun _=>⟨hplt,hon,hnout,h0⟩,fun _=>by simp⟩
   ·rename_i h0
    exact ⟨fun hm=>absurd hm hnhp,fun hm=>absurd hm.2.2.2 h0⟩
  ·rw [if_neg e,←h.hpm q]
   split
   ·rw [u2.mem,J39,List.mem_singleton]
    exact ⟨fun hm=>hm.resolve_right (by omega),.inl⟩
   ·exact Iff.rfl
 ·intro x hx
  split at hx
  ·rw [u2.mem,J39,List.mem_singleton] at hx
   rcases hx with hx | rfl
   ·exact h.hpr x hx
   ·omega
  ·exact h.hpr x hx
 ·split
  ·exact u2.nodup (List.nodup_append.2 ⟨h.hpn,by simp,fun x hx y hy e=>by rw [List.mem_singleton.1 hy] at e;exact hnhp (e ▸ hx)⟩)
  ·exact h.hpn
 ·split
  ·rw [u2.len,J20,List.length_singleton];exact u1
  ·exact h.heap
 ·intro x hx
  have h3:=h.outr x hx
  refine ⟨h3.1,h3.2.1,h3.2.2.1,?_⟩
  rw [hst,if_neg (fun e=>hnout (by rw [show ((p:Nat):Int)=x by omega];exact hx))]
  exact h3.2.2.2
theorem OInv.next {g:Graph} {inn:List Bool} {k:Nat} {ch hp out:List Int} (hk:k+1=out.length) {c:Nat} (hc:out[k]?=some (c:Int)) (h:OInv g inn k (D9 g c).length ch hp out):OInv g inn out.length 0 ch hp out:=by
 refine { h with cnt:=fun p hp ho=>?_ }
 have hkl:k < out.length:=by omega
 have hc:out[k]=(c:Int):=by rw [J15 hkl] at hc;exact Option.some.inj hc
 have h1:=h.cnt p hp ho
 have hg0:out.getD k 0=(c:Int):=by rw [J21,J15 hkl];exact hc
 have hco:=h.outr out[k] (J18 hkl)
 rw [hc,J17] at hco
 rw [hg0,J17,J23] at h1
 have h2:=F02 (g:=g) (inn:=inn) (ex:=out.take k) (x:=c) (p:=p) (by rw [←hc];exact V9 h.outn hkl) (by omega) hco.2.2.1
 have e:out.take (k+1)=out.take k++[(c:Int)]:=by rw [List.take_add_one,J15 hkl,Option.toList_some,hc]
 rw [←hk,e,List.take_zero,if_neg (by simp)]
 split at h1
 ·rename_i hm;rw [if_pos hm] at h2;omega
 ·rename_i hm;rw [if_neg hm] at h2;omega
structure HInv (g:Graph) (ch hp:List Int) (i:Nat):Prop where
 mem:∀p:Nat,(p:Int)∈hp↔p < i∧atG ch p=0
 rng:∀x∈hp,0≤x∧x < i
 nodup:hp.Nodup
 heap:C62 (R5 g) hp.length hp
theorem HInv.nil (g:Graph) (ch:List Int):HInv g ch [] 0:=⟨fun p=>by simp,(fun _ h=>by cases h),List.nodup_nil,fun k hk=>by simp at hk⟩
theorem HInv.le {g:Graph} {ch hp:List Int} {i:Nat} (h:HInv g ch hp i):hp.length≤i:=Y6 h.nodup h.rng
theorem HInv.step {g:Graph} {ch hp:List Int} {i:Nat} (h:HInv g ch hp i):HInv g ch (if atG ch i=0 then C61 (R5 g) hp (i:Int) else hp) (i+1):=by
 obtain ⟨u1,u2⟩:=G47 (B74 g) (i:Int) h.heap
 split
 ·rename_i h0
  refine ⟨fun p=>?_,fun x hx=>?_,u2.nodup (List.nodup_append.2 ⟨h.nodup,by simp,fun x hx y hy e=>by rw [List.mem_singleton.1 hy] at e;have:=h.rng x hx;omega⟩),by rw [u2.len,J20,List.length_singleton];exact u1⟩
  ·rw [u2.mem,J39,List.mem_singleton,h.mem]
   constructor
   ·rintro (⟨a,b⟩ | e)
    ·exact ⟨by omega,b⟩
    ·have e:p=i:=by omega
     subst e;exact ⟨by omega,h0⟩
   ·rintro ⟨a,b⟩
    by_cases e:p=i
    ·right;omega
    ·exact .inl ⟨by omega,b⟩
  ·rw [u2.mem,J39,List.mem_singleton] at hx
   rcases hx with hx | rfl
   ·have:=h.rng x hx;omega
   ·omega
 ·rename_i h0
  refine ⟨fun p=>?_,fun x hx=>by have:=h.rng x hx;omega,h.nodup,h.heap⟩
  rw [h.mem]
  constructor
  ·rintro ⟨a,b⟩;exact ⟨by omega,b⟩
  ·rintro ⟨a,b⟩
   refine ⟨?_,b⟩
   apply Classical.byContradiction
   intro hn
   have:p=i:=by omega
   subst this;exact h0 b
def cntD (g:Graph) (D:List Int) (p:Nat):Nat:=D.countP fun x=>decide ((p:Int)∈D9 g x.toNat)
structure DInv (g:Graph) (inn:List Bool) (st:List Int) (k i:Nat) (ch opn D:List Int):Prop where
 len:ch.length=g.length
 nodup:(D++opn).Nodup
 on:∀x∈D++opn,0≤x∧x < g.length∧K0 inn x.toNat=true
 cnt:∀p:Nat,(p:Int)∈D++opn→atG ch p=cntD g (D.take k) p+(if (p:Int)∈(D9 g (D.getD k 0).toNat).take i then 1 else 0)
 off:∀p,p < g.length→(p:Int)∉D++opn→atG ch p = -1
 clo:∀x∈D.take k,∀p∈D9 g x.toNat,p∈D++opn
 clo2:∀p∈(D9 g (D.getD k 0).toNat).take i,p∈D++opn
 sts:∀f∈st,f∈D++opn
theorem DInv.start (g:Graph) (inn:List Bool):DInv g inn [] 0 0 (List.replicate g.length (-1)) [] [] where
 len:=by simp
 nodup:=List.nodup_nil
 on:=fun _ h=>by cases h
 cnt:=fun _ h=>by cases h
 off:=fun p hp _=>by unfold atG;rw [List.getElem?_replicate,if_pos hp];rfl
 clo:=fun _ h=>by cases h
 clo2:=fun _ h=>by simp at h
 sts:=fun _ h=>by cases h
theorem DInv.le {g:Graph} {inn:List Bool} {st:List Int} {k i:Nat} {ch opn D:List Int} (h:DInv g inn st k i ch opn D):D.length+opn.length≤g.length:=by
 have:=Y6 h.nodup fun x hx=>⟨(h.on x hx).1,(h.on x hx).2.1⟩
 rwa [J20] at this
theorem DInv.mem {g:Graph} {inn:List Bool} {st:List Int} {k i:Nat} {ch opn D:List Int} (h:DInv g inn st k i ch opn D) {p:Nat} (hp:p < g.length):atG ch p < 0↔(p:Int)∉D++opn:=by
 by_cases hm:(p:Int)∈D++opn
 ·have:=h.cnt p hm
  constructor
  ·intro hl;split at this<;>omega
  ·exact fun hn=>absurd hm hn
 ·have:=h.off p hp hm
  exact ⟨fun _=>hm,fun _=>by omega⟩
theorem DInv.reach {g:Graph} {inn:List Bool} {st:List Int} {k i:Nat} {ch opn D:List Int} (h:DInv g inn st k i ch opn D) (_hk:k≤D.length) {p:Nat} (hp:p < g.length) (ho:K0 inn p=true) (st':List Int) (hst:∀f∈st',f∈st∨f=p) :
  DInv g inn st' k i (if atG ch p < 0 then ch.set p 0 else ch) (if atG ch p < 0 then opn++[(p:Int)] else opn) D∧(p:Int)∈D++(if atG ch p < 0 then opn++[(p:Int)] else opn):=by
 split
 ·rename_i hl
  have hnm:=(h.mem hp).1 hl
  refine ⟨⟨by rw [J41];exact h.len,?_,?_,?_,?_,?_,?_,?_⟩,by simp⟩
  ·rw [←J28]
   exact List.nodup_append.2 ⟨h.nodup,by simp,fun x hx y hy e=>by rw [List.mem_singleton.1 hy] at e;exact hnm (e ▸ hx)⟩
  ·intro x hx
   rw [←J28] at hx
   rcases List.mem_append.1 hx with hx | hx
   ·exact h.on x hx
   ·rw [List.mem_singleton.1 hx,J17];exact ⟨by omega,by omega,ho⟩
  ·intro q hq
   rw [A31 (by rw [h.len];exact hp)]
   by_cases e:p=q
   ·subst e
    rw [if_pos rfl,if_neg (fun hm=>hnm (h.clo2 _ hm))]
    have:cntD g (D.take k) p=0:=by
     unfold cntD
     rw [List.countP_eq_zero]
     intro x hx hm
     exact hnm (h.clo x hx _ (A0 hm))
    rw [this];rfl
   ·rw [if_neg e]
    rw [←J28] at hq
    rcases List.mem_append.1 hq with hq | hq
    ·exact h.cnt q hq
    ·exact absurd (List.mem_singleton.1 hq) (by omega)
  ·intro q hq hn
   rw [←J28,J39,not_or,List.mem_singleton] at hn
   rw [A31 (by rw [h.len];exact hp),if_neg (by omega)]
   exact h.off q hq hn.1
  ·intro x hx q hq
   rw [←J28];exact List.mem_append_left _ (h.clo x hx q hq)
  ·intro q hq
   rw [←J28];exact List.mem_append_left _ (h.clo2 q hq)
  ·intro f hf
   rw [←J28]
   rcases hst f hf with hf | rfl
   ·exact List.mem_append_left _ (h.sts f hf)
   ·simp
 ·rename_i hl
  have hm:(p:Int)∈D++opn:=by
   apply Classical.byContradiction
   intro hn;exact hl ((h.mem hp).2 hn)
  refine ⟨{ h with sts:=fun f hf=>?_ },hm⟩
  rcases hst f hf with hf | rfl
  ·exact h.sts f hf
  ·exact hm
theorem DInv.count {g:Graph} {inn:List Bool} {st:List Int} {k i:Nat} {ch opn D:List Int} (h:DInv g inn st k i ch opn D) {c p:Nat} (hr:related g=true) (hc:D.getD k 0=(c:Int)) (hi:i < (D9 g c).length) (hpp:(D9 g c)[i]=(p:Int)) (hm:(p:Int)∈D++opn) :
  0≤atG ch p∧atG ch p≤g.length∧DInv g inn st k (i+1) (bump ch p) opn D:=by
 have hpr:=J0 hr c
 have hplt:p < g.length:=by have:=hpr.1 p (by rw [←hpp];exact J18 hi);omega
 have h1:=h.cnt p hm
 have hnp:(p:Int)∉(D9 g c).take i:=by rw [←hpp];exact V9 hpr.2 hi
 rw [hc,J17,if_neg hnp] at h1
 have hle:cntD g (D.take k) p≤g.length:=by
  unfold cntD
  have h2:=List.countP_le_length (p:=fun x:Int=>decide ((p:Int)∈D9 g x.toNat)) (l:=D.take k)
  rw [J25] at h2
  have:=h.le;omega
 have hst:∀q,atG (bump ch p) q=if p=q then atG ch p+1 else atG ch q:=fun q=>by
  unfold bump
  rw [J17,A31 (by rw [h.len];exact hplt)]
 refine ⟨by omega,by omega,{ h with len:=by unfold bump;rw [J41];exact h.len,cnt:=fun q hq=>?_,off:=fun q hq hn=>?_,clo2:=fun q hq=>?_ }⟩
 ·rw [hst q,hc,J17]
  by_cases e:p=q
  ·subst e
   rw [if_pos rfl,if_pos ((R1 hi).2 (.inr hpp.symm))];omega
  ·rw [if_neg e]
   have h3:=h.cnt q hq
   rw [hc,J17] at h3
   have h4:((q:Int)∈(D9 g c).take (i+1))↔(q:Int)∈(D9 g c).take i:=by
    rw [R1 hi,hpp]
    exact ⟨fun h=>h.resolve_right (by omega),.inl⟩
   simp only [h4]
   exact h3
 ·rw [hst q,if_neg (show ¬p=q from fun e=>hn (by rw [←e];exact hm))]
  exact h.off q hq hn
 ·rw [hc,J17] at hq
  rcases (R1 hi).1 hq with hq | rfl
  ·exact h.clo2 q (by rw [hc,J17];exact hq)
  ·rw [hpp];exact hm
theorem DInv.pop {g:Graph} {inn:List Bool} {st:List Int} {ch opn D:List Int} {c:Int} (h:DInv g inn st D.length 0 ch (opn++[c]) D):DInv g inn st D.length 0 ch opn (D++[c]):=by
 have hmem:∀x,x∈(D++[c])++opn↔x∈D++(opn++[c]):=fun x=>by
  simp only [J39,List.mem_singleton]
  constructor
  ·rintro ((h | h) | h)
   ·exact .inl h
   ·exact .inr (.inr h)
   ·exact .inr (.inl h)
  ·rintro (h | h | h)
   ·exact .inl (.inl h)
   ·exact .inr h
   ·exact .inl (.inr h)
 have ht:(D++[c]).take D.length=D:=by rw [u5 (Nat.le_refl _),J23]
 refine ⟨h.len,?_,fun x hx=>h.on x ((hmem x).1 hx),fun p hp=>?_,fun p hp hn=>h.off p hp fun hm=>hn ((hmem _).2 hm),fun x hx p hp=>?_,fun p hp=>by simp at hp,fun f hf=>(hmem f).2 (h.sts f hf)⟩
 ·have h1:=h.nodup
  rw [List.nodup_append,List.nodup_append] at h1
  rw [J28,List.nodup_append,List.nodup_append]
  refine ⟨h1.1,⟨by simp,h1.2.1.1,fun x hx y hy e=>?_⟩,fun x hx y hy=>?_⟩
  ·exact h1.2.1.2.2 y hy x hx e.symm
  ·refine h1.2.2 x hx y ?_
   rcases List.mem_append.1 hy with hy | hy
   ·exact List.mem_append_right _ hy
   ·exact List.mem_append_left _ hy
 ·have h1:=h.cnt p ((hmem _).1 hp)
  rw [List.take_zero,if_neg (by simp),J23] at h1
  rw [ht,List.take_zero,if_neg (by simp)]
  exact h1
 ·rw [ht] at hx
  exact (hmem p).2 (h.clo x (by rw [J23];exact hx) p hp)
theorem DInv.next {g:Graph} {inn:List Bool} {st:List Int} {k:Nat} {ch opn D:List Int} {c:Nat} (hk:k+1=D.length) (hc:D.getD k 0=(c:Int)) (h:DInv g inn st k (D9 g c).length ch opn D):DInv g inn st D.length 0 ch opn D:=by
 have hkl:k < D.length:=by omega
 have hc2:D[k]?=some (c:Int):=by
  rw [J21,J15 hkl] at hc
  rw [J15 hkl];exact congrArg some hc
 have e:D.take D.length=D.take k++[(c:Int)]:=by rw [←hk,List.take_add_one,hc2,Option.toList_some]
 refine { h with cnt:=fun p hp=>?_,clo:=fun x hx p hp=>?_,clo2:=fun p hp=>by simp at hp }
 ·have h1:=h.cnt p hp
  rw [hc,J17,J23] at h1
  rw [List.take_zero,if_neg (show ¬(p:Int)∈([]:List Int) by simp),h1,e]
  unfold cntD
  rw [List.countP_append,List.countP_singleton,J17]
  by_cases hm:(p:Int)∈D9 g c<;>simp [hm]
 ·rw [e] at hx
  rcases List.mem_append.1 hx with hx | hx
  ·exact h.clo x hx p hp
  ·rw [List.mem_singleton.1 hx,J17] at hp
   exact h.clo2 p (by rw [hc,J17,J23];exact hp)
theorem G50 {q:Int→Bool} {l m:List Int} (hl:l.Nodup) (hm:m.Nodup) (h:∀x,x∈l↔x∈m):l.countP q=m.countP q:=by
 rw [List.countP_eq_length_filter,List.countP_eq_length_filter]
 have key:∀{l m:List Int},l.Nodup→(∀x,x∈l↔x∈m)→(l.filter q).length≤(m.filter q).length:=fun hl h =>
  B68 (hl.filter _) fun x hx=>by
   rw [List.mem_filter] at hx ⊢
   exact ⟨(h x).1 hx.1,hx.2⟩
 have h1:=key hl h
 have h2:=key hm fun x=>(h x).symm
 omega
theorem DInv.fin {g:Graph} {s ch D:List Int} (hr:related g=true) (hs:∀f∈s,0≤f∧f < g.length) (h:DInv g (M9 g s) s D.length 0 ch [] D) :
  ∀p,p < g.length→atG ch p=if K0 (M9 g s) p=true then (C95 g (M9 g s) [] p:Int) else -1:=by
 have hiff:∀p:Nat,K0 (M9 g s) p=true↔(p:Int)∈D:=by
  intro p
  constructor
  ·intro ho
   obtain ⟨f,hf,h2⟩:=(B71 hr hs p).1 ho
   clear ho
   have h0:(f:Int)∈D:=by simpa using h.sts f hf
   have hcl:∀x:Nat,(x:Int)∈D→∀q:Nat,(q:Int)∈D9 g x→(q:Int)∈D:=fun x hx q hq=>by
    have:=h.clo x (by rw [J23];exact hx) q (by rw [J17];exact hq)
    simpa using this
   rcases h2 with rfl | h2
   ·exact h0
   ·induction h2 with
    | one h=>exact hcl _ h0 _ h
    | more _ h2 ih=>exact hcl _ ih _ h2
  ·intro hm
   have:=(h.on p (by simpa using hm)).2.2
   rwa [J17] at this
 intro p hp
 split
 ·rename_i ho
  have h1:=h.cnt p (by simpa using (hiff p).1 ho)
  rw [J23,List.take_zero,if_neg (by simp)] at h1
  rw [h1,Int.add_zero]
  congr 1
  have hD:D.Nodup:=by have:=h.nodup;rwa [J47] at this
  have h2:∀x∈D,0≤x∧x < g.length:=fun x hx=>by
   have:=h.on x (by simpa using hx);exact ⟨this.1,this.2.1⟩
  unfold cntD C95
  have e:(List.range g.length).countP (fun c=>K0 (M9 g s) c&&decide ((c:Int)∉([]:List Int)∧(p:Int)∈D9 g c))=(((List.range g.length).filter fun c=>K0 (M9 g s) c).map fun c:Nat=>(c:Int)).countP fun x=>decide ((p:Int)∈D9 g x.toNat):=by
   rw [List.countP_map,List.countP_filter]
   refine List.countP_congr fun c _=>?_
   simp only [List.not_mem_nil,not_false_eq_true,true_and,Function.comp_def,J17,J16,decide_eq_true_eq]
   exact And.comm
  rw [e]
  refine G50 hD ((List.nodup_range.filter _).map (fun i:Nat=>(i:Int)) fun _ _ hne e=>hne (Int.ofNat.inj e)) fun x=>?_
  rw [List.mem_map]
  constructor
  ·intro hx
   have:=h2 x hx
   refine ⟨x.toNat,List.mem_filter.2 ⟨List.mem_range.2 (by omega),(hiff _).2 (by rw [Int.toNat_of_nonneg this.1];exact hx)⟩,by omega⟩
  ·rintro ⟨c,hc,rfl⟩
   exact (hiff c).1 (List.mem_filter.1 hc).2
 ·rename_i ho
  exact h.off p hp fun hm=>ho ((hiff p).2 (by simpa using hm))
theorem OInv.start {g:Graph} {inn:List Bool} {ch hp:List Int} (hl:ch.length=g.length) (_hin:inn.length=g.length) (hc:∀p,p < g.length→atG ch p=if K0 inn p=true then (C95 g inn [] p:Int) else -1) (h:HInv g ch hp g.length):OInv g inn 0 0 ch hp [] where
 len:=hl
 cnt:=fun p hp ho=>by rw [hc p hp,if_pos ho,List.take_zero,List.take_zero];simp
 off:=fun p hp ho=>by rw [hc p hp,ho];rfl
 hpm:=fun p=>by
  rw [h.mem]
  constructor
  ·rintro ⟨a,b⟩
   refine ⟨a,?_,by simp,b⟩
   cases ho:K0 inn p
   ·rw [hc p a,ho] at b;simp at b
   ·rfl
  ·rintro ⟨a,_,_,b⟩;exact ⟨a,b⟩
 hpr:=h.rng
 hpn:=h.nodup
 heap:=h.heap
 outn:=List.nodup_nil
 outr:=fun _ h=>by cases h
end Go.AL
namespace Go.AL
open Go
def O5 (nd s:Str) (p:Nat):Option Nat:=if nd=[]∨p > s.length∨Lib.index (s.drop p) nd < 0 then none else some (p+(Lib.index (s.drop p) nd).toNat)
def x8 (nd s:Str):Nat→Nat→List Int→List Int
 | 0,_,out=>out
 | f+1,p,out=>match O5 nd s p with
  | none=>out
  | some i=>x8 nd s f (i+nd.length) (out++[(i:Int)])
def T5 (nd s:Str):List Int:=x8 nd s (s.length+2) 0 []
def X5 (nd s:Str):Int:=(T5 nd s).length
theorem v7 {nd s:Str} {p i:Nat} (h:O5 nd s p=some i):nd≠[]∧p≤s.length∧p≤i∧i+nd.length≤s.length:=by
 unfold O5 at h
 split at h
 ·cases h
 ·rename_i hn
  simp only [not_or] at hn
  have h1:=Lib.index_room (s.drop p) nd (by omega)
  rw [J29] at h1
  have e:=Option.some.inj h
  exact ⟨hn.1,by omega,by omega,by omega⟩
theorem B02 {nd s:Str} {f p i:Nat} {out:List Int} (hf:s.length < f+p) (h:O5 nd s p=some i):x8 nd s f p out=x8 nd s (f - 1) (i+nd.length) (out++[(i:Int)]):=by
 have:=v7 h
 obtain ⟨f,rfl⟩:∃k,f=k+1:=⟨f - 1,by omega⟩
 rw [x8,h];rfl
theorem A00 {nd s:Str} {f p:Nat} {out:List Int} (h:O5 nd s p=none):x8 nd s f p out=out:=by
 cases f with
 | zero=>rfl
 | succ f=>rw [x8,h]
theorem C20 {nd s:Str}:∀(f f' p:Nat) (out:List Int),s.length < f+p→s.length < f'+p→x8 nd s f p out=x8 nd s f' p out
 | 0,f',p,out,h,_=>by
  have:O5 nd s p=none:=by
   cases hn:O5 nd s p with
   | none=>rfl
   | some i=>have:=v7 hn;omega
  rw [A00 this,A00 this]
 | f+1,f',p,out,h,h'=>by
  cases hn:O5 nd s p with
  | none=>rw [A00 hn,A00 hn]
  | some i =>
   have hr:=v7 hn
   have hl:0 < nd.length:=List.length_pos_iff.2 hr.1
   rw [B02 h hn,B02 h' hn]
   exact C20 f (f' - 1) _ _ (by omega) (by omega)
def A35 (nd s:Str) (i:Nat):Bool:=decide (nd≠[]∧i+nd.length≤s.length∧(s.drop i).take nd.length=nd)
theorem C21 {nd s:Str} (hn:nd≠[]) (i:Nat):A35 nd s i=Lib.occAt s nd i:=by
 unfold A35 Lib.occAt
 have key:∀(a b:Str),a.isPrefixOf b=decide (a.length≤b.length∧b.take a.length=a):=by
  intro a
  induction a with
  | nil=>intro b;simp
  | cons x r ih =>
   intro b
   cases b with
   | nil=>simp
   | cons y t =>
    rw [List.isPrefixOf_cons_cons,ih]
    by_cases e:x=y
    ·subst e;simp
    ·have:¬y=x:=fun h=>e h.symm
     simp [e,this]
 rw [key,J29]
 have hl:0 < nd.length:=List.length_pos_iff.2 hn
 by_cases h:i+nd.length≤s.length
 ·simp only [hn,ne_eq,not_false_eq_true,h,true_and,show nd.length≤s.length - i by omega]
 ·simp only [h,false_and,and_false,decide_false,show ¬nd.length≤s.length - i by omega]
theorem G51 {nd s:Str} {p:Nat} (h:∀i,p≤i→i≤s.length→A35 nd s i=false):O5 nd s p=none:=by
 unfold O5
 split
 ·rfl
 ·rename_i hn
  simp only [not_or] at hn
  exfalso
  rcases Lib.index_spec (s.drop p) nd with ⟨h1,_⟩ | ⟨i,h1,h2,h3,_⟩
  ·omega
  ·rw [J29] at h2
   have:=h (p+i) (by omega) (by omega)
   rw [C21 hn.1] at this
   unfold Lib.occAt at this h3
   rw [List.drop_drop] at h3
   rw [this] at h3;cases h3
theorem G52 {nd s:Str} {p i:Nat} (hp:p≤i) (ho:A35 nd s i=true) (h:∀j,p≤j→j < i→A35 nd s j=false):O5 nd s p=some i:=by
 have ho2:=A0 ho
 have hl:0 < nd.length:=List.length_pos_iff.2 ho2.1
 have hidx:Lib.index (s.drop p) nd=(i - p:Nat):=by
  rw [C21 ho2.1] at ho
  refine Lib.index_first (by rw [J29];omega) ?_ fun j hj=>?_
  ·unfold Lib.occAt at ho ⊢
   rw [List.drop_drop,show p+(i - p)=i by omega];exact ho
  ·have:=h (p+j) (by omega) (by omega)
   rw [C21 ho2.1] at this
   unfold Lib.occAt at this ⊢
   rw [List.drop_drop];exact this
 unfold O5
 rw [if_neg (by rw [hidx];simp only [not_or];exact ⟨ho2.1,by omega,by omega⟩),hidx,J17]
 congr 1;omega
theorem X1 (nd s:Str):(T5 nd s).length≤s.length+2:=by
 have key:∀(f p:Nat) (out:List Int),(x8 nd s f p out).length≤out.length+f:=by
  intro f
  induction f with
  | zero=>intro p out;exact Nat.le_refl _
  | succ f ih =>
   intro p out
   rw [x8]
   split
   ·omega
   ·rename_i i _
    have:=ih (i+nd.length) (out++[(i:Int)])
    rw [J20,List.length_singleton] at this
    omega
 have:=key (s.length+2) 0 []
 unfold T5
 simpa using this
def K5 (g:Graph) (c:Nat):List File:=(g[c]?.map (·.Files)).getD []
def K9 (g:Graph) (c:Nat):List (List File):=if D9 g c=[] then [[]] else (D9 g c).map fun p=>K5 g p.toNat
def L0 (l:List File) (p:Str):Str:=(H8 l p).getD []
def F63 (t u:List File) (d:Delta):Str × Str:=(L0 t d.Path,L0 u d.Path)
def A36 (t u:List File):List (Str × Str):=(T0 t u).map (F63 t u)
def O7 (g:Graph) (c:Nat):List (List (Str × Str)):=(K9 g c).map fun t=>A36 t (K5 g c)
def differs (nd:Str) (x:Str × Str):Bool:=decide (X5 nd x.1≠X5 nd x.2)
def Z4 (f:Str × Str→Bool) (g:Graph) (c:Nat):Bool:=(O7 g c).any fun l=>l.any f
def T6 (g:Graph) (c:Int):Prop:=0≤c∧c < g.length
instance (g:Graph) (c:Int):Decidable (T6 g c):=inferInstanceAs (Decidable (_∧_))
def P6 (g:Graph) (s:Int):List Int × Int:=if J1 g≠0 then ([],J1 g) else if T6 g s then (r7 g [s],0) else ([],5)
def W8 (f:Str × Str→Bool) (g:Graph) (s:Int):List Int × Int:=if (P6 g s).2≠0 then ([],(P6 g s).2) else ((P6 g s).1.filter fun c=>Z4 f g c.toNat,0)
def Z5 (g:Graph) (s:Int) (nd:Str):List Int × Int:=if nd=[] then ([],2) else if nd.length > 256 then ([],1) else W8 (differs nd) g s
def Z0 (nd:Str) (l:List (Str × Str)):Int:=(l.map fun x=>X5 nd x.2 - X5 nd x.1).sum
def i6 (g:Graph) (c:Int):Int:=if J1 g≠0 then J1 g else if T6 g c then 0 else 5
def p6 (g:Graph) (c:Int) (nd:Str):List Int × Int:=if i6 g c≠0 then ([],i6 g c) else ((O7 g c.toNat).map (Z0 nd),0)
def A16:Str × Str→Nat→Cell:=fun x j=>match j with
 | 0=>.v (.string ⟨x.1.toArray⟩)
 | _=>.v (.string ⟨x.2.toArray⟩)
abbrev A55:List (Str × Str)→Nat→Cell:=fun l _=>.list (Str × Str) 2 A16 l
abbrev pPairs (l:List (Str × Str)):PV:=.one (.list (Str × Str) 2 A16 l)
abbrev F64 (l:List (List (Str × Str))):PV:=.one (.list (List (Str × Str)) 1 A55 l)
end Go.AL
namespace Go.AL
open Go
abbrev names4:List Str:=[[97],[98,47,120],[98,47,121],[99,32,100]]
theorem names4_asc:names4.Pairwise (fun x y=>ltS x y=true):=by decide
theorem G53:∀p∈names4,L4 p=0∧p.length≤3:=by decide
theorem F65:∀p∈names4,∀q∈names4,above p q=false:=by decide
structure GN (L:Nat) (l:List File):Prop where
 sub:(l.map (·.Path)).Sublist names4
 cnt:∀f∈l,f.Blob.count 10≤L
theorem GN.name {L:Nat} {l:List File} (h:GN L l):∀f∈l,f.Path∈names4:=fun _ hf=>h.sub.subset (List.mem_map_of_mem hf)
theorem GN.mono {L L':Nat} {l:List File} (h:GN L l) (hL:L≤L'):GN L' l:=⟨h.sub,fun f hf=>Nat.le_trans (h.cnt f hf) hL⟩
theorem F03:∀{l:List File},E12 (l.map (·.Path))→ascend l=true
 | [],_=>rfl
 | [_],_=>rfl
 | f::g::r,h=>by
  rw [J33] at h
  have h1:=List.pairwise_cons.1 h
  unfold ascend
  rw [h1.1 g.Path (by simp),F03 h1.2];rfl
theorem GN.asc {L:Nat} {l:List File} (h:GN L l):ascend l=true:=F03 (names4_asc.sublist h.sub)
theorem GN.tree {L:Nat} {l:List File} (h:GN L l) (hL:L+1≤4096) (hB:∀f∈l,f.Blob.length≤1048576):F5 l=0:=by
 have hlen:l.length≤4:=by have:=h.sub.length_le;simpa using this
 unfold F5
 rw [if_neg (by omega),if_neg (fun h1=>by
  obtain ⟨f,hf,h2⟩:=List.any_eq_true.1 h1
  exact A0 h2 (G53 _ (h.name f hf)).1),if_neg (fun h1=>by
  rw [C14 h.asc fun x hx y hy=>F65 _ (h.name x hx) _ (h.name y hy)] at h1;cases h1),if_neg (fun h1=>by
  obtain ⟨f,hf,h2⟩:=List.any_eq_true.1 h1
  refine A0 h2 ?_
  unfold Q6
  have h3:=h.cnt f hf
  have h4:=hB f hf
  have h5:=A53 f.Blob
  rw [if_neg]
  rintro (h6 | h6)
  ·omega
  ·split at h5<;>omega)]
theorem G54 {n:Int}:∀{ps seen:List Int},(∀p∈ps,0≤p∧p < n∧p∉seen)→ps.Nodup→x7 n seen ps=true
 | [],_,_,_=>rfl
 | p::r,seen,h,hn=>by
  have h1:=List.nodup_cons.1 hn
  unfold x7
  rw [decide_eq_true (h p (by simp)),Bool.true_and]
  refine G54 (fun q hq=>?_) h1.2
  have h2:=h q (by simp [hq])
  refine ⟨h2.1,h2.2.1,fun h3=>?_⟩
  rcases List.mem_append.1 h3 with h3 | h3
  ·exact h2.2.2 h3
  ·rw [List.mem_singleton.1 h3] at hq;exact h1.1 hq
def OneWay (g:Graph):Prop:=(∀c p:Nat,(p:Int)∈D9 g c→p < c)∨(∀c p:Nat,(p:Int)∈D9 g c→c < p)
theorem OneWay.acyc {g:Graph} (h:OneWay g) (c:Nat):¬Reaches g c c:=by
 rcases h with h | h
 ·have key:∀{a b:Nat},Reaches g a b→b < a:=fun {a b} hr=>by
   induction hr with
   | one h2=>exact h _ _ h2
   | more _ h2 ih=>have:=h _ _ h2;omega
  exact fun hr=>Nat.lt_irrefl _ (key hr)
 ·have key:∀{a b:Nat},Reaches g a b→a < b:=fun {a b} hr=>by
   induction hr with
   | one h2=>exact h _ _ h2
   | more _ h2 ih=>have:=h _ _ h2;omega
  exact fun hr=>Nat.lt_irrefl _ (key hr)
theorem D31:∀{g:List Commit},(∀c∈g,F5 c.Files=0)→U7 g=0
 | [],_=>rfl
 | c::r,h=>by
  unfold U7
  rw [if_neg (fun h1=>h1 (h c (by simp)))]
  exact D31 fun d hd=>h d (by simp [hd])
structure GV (g:Graph):Prop where
 len:g.length≤16
 pars:∀c∈g,c.Parents.length≤3∧(∀p∈c.Parents,0≤p∧p < (g.length:Int))∧c.Parents.Nodup∧0≤c.Date∧c.Date≤5
 way:OneWay g
 files:∀c∈g,GN 2111 c.Files∧∀f∈c.Files,f.Blob.length≤1048576
theorem GV.check {g:Graph} (h:GV g):J1 g=0:=by
 have hr:related g=true:=by
  unfold related
  rw [List.all_eq_true]
  exact fun c hc=>G54 (fun p hp=>⟨((h.pars c hc).2.1 p hp).1,((h.pars c hc).2.1 p hp).2,by simp⟩) (h.pars c hc).2.2.1
 have hcy:¬cyclic g=true:=fun h1=>by
  obtain ⟨c,hc⟩:=(A92 hr).1 h1
  exact h.way.acyc c hc
 have hl:=h.len
 have hlim:U8 g=true:=by
  unfold U8
  rw [decide_eq_true (by omega),Bool.true_and]
  cases ha:g.any fun c=>decide (c.Parents.length > 32)
  ·rfl
  obtain ⟨c,hc,h2⟩:=List.any_eq_true.1 ha
  have:=A0 h2
  have:=(h.pars c hc).1
  omega
 have hbd:¬A32 g=true:=fun h1=>by
  obtain ⟨c,hc,h2⟩:=List.any_eq_true.1 h1
  have:=A0 h2
  have:=(h.pars c hc).2.2.2
  omega
 unfold J1
 rw [hlim,hr,if_neg (by simp),if_neg (by simp),if_neg hcy,if_neg hbd]
 exact D31 fun c hc=>(h.files c hc).1.tree (by omega) (h.files c hc).2
theorem I42 {t u:List File} {p:Str} (h:H8 t p≠H8 u p):∃d∈T0 t u,d.Path=p:=by
 have hm:p∈x1 (t.map (·.Path)) (u.map (·.Path)):=by
  rw [g9]
  by_cases h1:p∈t.map (·.Path)
  ·exact .inl h1
  ·by_cases h2:p∈u.map (·.Path)
   ·exact .inr h2
   ·exact absurd ((findF_none.2 h1).trans (findF_none.2 h2).symm) h
 have hd:∃d,y7 t u p=some d:=by
  unfold y7
  cases h1:H8 t p with
  | none=>exact ⟨_,rfl⟩
  | some x =>
   cases h2:H8 u p with
   | none=>exact ⟨_,rfl⟩
   | some y =>
    have:x≠y:=fun e=>h (by rw [h1,h2,e])
    exact ⟨_,if_pos this⟩
 obtain ⟨d,hd⟩:=hd
 exact ⟨d,List.mem_filterMap.2 ⟨p,hm,hd⟩,A90 hd⟩
theorem H35 {t u:List File} {d:Delta} (h:d∈T0 t u):d.Path∈t.map (·.Path)∨d.Path∈u.map (·.Path):=by
 obtain ⟨p,hp,hd⟩:=List.mem_filterMap.1 h
 rw [A90 hd]
 exact (g9 _ _ _).1 hp
def A37 (f:Str × Str→Bool) (t u:List File):Bool:=names4.any fun p=>f (L0 t p,L0 u p)
theorem G55 {f:Str × Str→Bool} (hf:∀x,f (x,x)=false) {t u:List File} (ht:∀x∈t,x.Path∈names4) (hu:∀x∈u,x.Path∈names4):(A36 t u).any f=A37 f t u:=by
 rw [Bool.eq_iff_iff,A37,List.any_eq_true,List.any_eq_true]
 constructor
 ·rintro ⟨x,hx,hfx⟩
  obtain ⟨d,hd,rfl⟩:=List.mem_map.1 hx
  refine ⟨d.Path,?_,hfx⟩
  rcases H35 hd with h | h<;>obtain ⟨y,hy,e⟩:=List.mem_map.1 h<;>rw [←e]
  ·exact ht y hy
  ·exact hu y hy
 ·rintro ⟨p,_,hfp⟩
  have hne:H8 t p≠H8 u p:=fun e=>by
   have:L0 t p=L0 u p:=by unfold L0;rw [e]
   rw [this,hf] at hfp;cases hfp
  obtain ⟨d,hd,e⟩:=I42 hne
  exact ⟨_,List.mem_map.2 ⟨d,hd,rfl⟩,by unfold F63;rw [e];exact hfp⟩
def C63 (f:Str × Str→Bool) (g:Graph) (c:Nat):Bool:=(K9 g c).any fun t=>A37 f t (K5 g c)
theorem D32 {g:Graph} (h:GV g) (c:Nat):∀x∈K5 g c,x.Path∈names4:=by
 unfold K5
 by_cases hc:c < g.length
 ·rw [J15 hc]
  exact (h.files _ (J18 hc)).1.name
 ·rw [J34 (by omega)];exact fun x hx=>by cases hx
theorem E30 {α:Type} {f g:α→Bool}:∀{l:List α},(∀x∈l,f x=g x)→l.any f=l.any g
 | [],_=>rfl
 | x::r,h=>by rw [List.any_cons,List.any_cons,h x (by simp),E30 fun y hy=>h y (by simp [hy])]
theorem E60 {f:Str × Str→Bool} (hf:∀x,f (x,x)=false) {g:Graph} (h:GV g) (c:Nat):Z4 f g c=C63 f g c:=by
 unfold Z4 C63 O7
 rw [List.any_map]
 refine E30 fun t ht=>?_
 refine G55 hf (fun x hx=>?_) (D32 h c)
 unfold K9 at ht
 split at ht
 ·rw [List.mem_singleton.1 ht] at hx;cases hx
 ·obtain ⟨p,_,rfl⟩:=List.mem_map.1 ht
  exact D32 h _ x hx
theorem F66 {f:Str × Str→Bool} (hf:∀x,f (x,x)=false) {g:Graph} (h:GV g) {s:Int} (hs:T6 g s):W8 f g s=((r7 g [s]).filter fun c=>C63 f g c.toNat,0):=by
 have hE:P6 g s=(r7 g [s],0):=by unfold P6;rw [h.check,if_neg (fun e=>e rfl),if_pos hs]
 unfold W8
 rw [hE,if_neg (fun e=>e rfl)]
 congr 1
 exact List.filter_congr fun c _=>E60 hf h c.toNat
theorem F67 (nd:Str) (x:Str):differs nd (x,x)=false:=by unfold differs;simp
end Go.AL
namespace Go.AL
open Go
structure Set4 where
 a:Int
 b:Int
 c:Int
 d:Int
 deriving DecidableEq
def orI (x y:Int):Int:=((x.toNat ||| y.toNat:Nat):Int)
def set0:Set4:=⟨0,0,0,0⟩
def Set4.with_ (s:Set4) (c:Nat):Set4:=match c / 64 with
 | 0=>{ s with a:=orI s.a (2 ^ (c % 64)) }
 | 1=>{ s with b:=orI s.b (2 ^ (c % 64)) }
 | 2=>{ s with c:=orI s.c (2 ^ (c % 64)) }
 | _=>{ s with d:=orI s.d (2 ^ (c % 64)) }
def F04:Nat→Nat→Set4→Set4
 | 0,_,s=>s
 | n+1,c,s=>F04 n (c+1) (s.with_ c)
def Set4.through (s:Set4) (a b:Nat):Set4:=F04 (b+1 - a) a s
def Set4.compl (s:Set4):Set4:=⟨18446744073709551615 - s.a,18446744073709551615 - s.b,18446744073709551615 - s.c,18446744073709551615 - s.d⟩
def namedS (s:Set4) (name:Str):Option Set4 :=
 if name=[97,108,112,104,97] then some ((s.through 97 122).through 65 90)
 else if name=[100,105,103,105,116] then some (s.through 48 57)
 else if name=[97,108,110,117,109] then some (((s.through 97 122).through 65 90).through 48 57)
 else if name=[117,112,112,101,114] then some (s.through 65 90)
 else if name=[108,111,119,101,114] then some (s.through 97 122)
 else if name=[115,112,97,99,101] then some ((s.through 9 13).with_ 32)
 else if name=[112,117,110,99,116] then some ((((s.through 33 47).through 58 64).through 91 96).through 123 126)
 else none
structure Node where
 Kind:Int
 Set:Set4
 Min:Int
 Max:Int
 Kids:List Int
 deriving DecidableEq
def B11:Node→Nat→Cell:=fun n j=>match j with
 | 0=>.v (.int .i64 n.Kind)
 | 1=>.v (.int .u64 n.Set.a)
 | 2=>.v (.int .u64 n.Set.b)
 | 3=>.v (.int .u64 n.Set.c)
 | 4=>.v (.int .u64 n.Set.d)
 | 5=>.v (.int .i64 n.Min)
 | 6=>.v (.int .i64 n.Max)
 | _=>.list Int 1 E3 n.Kids
abbrev H76 (s:Set4):PV:=.agg [.v (.int .u64 s.a),.v (.int .u64 s.b),.v (.int .u64 s.c),.v (.int .u64 s.d)]
abbrev D33 (n:Node):PV:=.agg [.v (.int .i64 n.Kind),.v (.int .u64 n.Set.a),.v (.int .u64 n.Set.b),.v (.int .u64 n.Set.c),.v (.int .u64 n.Set.d),.v (.int .i64 n.Min),.v (.int .i64 n.Max),.list Int 1 E3 n.Kids]
abbrev B54 (l:List Node):PV:=.one (.list Node 8 B11 l)
def B98:Node:=⟨0,set0,0,0,[]⟩
structure PSt where
 at_:Nat
 depth:Nat
 nodes:List Node
abbrev Ps (α:Type):=Except Int (PSt × α)
section
variable (s:Str)
def E31 (c:UInt8) (st:PSt):Bool:=decide (s[st.at_]?=some c)
def PSt.skip (st:PSt) (n:Nat):PSt:={ st with at_:=st.at_+n }
def hasSt (c:UInt8) (st:PSt):PSt:=if E31 s c st=true then st.skip 1 else st
def takeP (st:PSt):Ps UInt8:=match s[st.at_]? with
 | none=>.error 40
 | some c=>.ok (st.skip 1,c)
def addP (n:Node) (st:PSt):PSt × Int:=({ st with nodes:=st.nodes++[n] },st.nodes.length)
def H36 (kind:Int) (kids:List Int) (st:PSt):PSt × Int:=match kids with
 | []=>addP B98 st
 | [k]=>(st,k)
 | _=>addP { B98 with Kind:=kind,Kids:=kids } st
def setP (t:Set4) (st:PSt):PSt × Int:=addP { B98 with Kind:=1,Set:=t } st
def starts2 (a b:UInt8) (l:Str):Bool:=decide (l[0]?=some a∧l[1]?=some b)
def itemP (t:Set4) (st:PSt):Ps Set4 :=
 let rest:=s.drop st.at_
 if starts2 91 58 rest=true then
  let r:=rest.drop 2
  if Lib.index r [58,93] < 0 then .error 40
  else match namedS t (r.take (Lib.index r [58,93]).toNat) with
   | none=>.error 40
   | some t'=>.ok (st.skip (4+(Lib.index r [58,93]).toNat),t')
 else match s[st.at_]? with
  | none=>.error 40
  | some c =>
   let r:=s.drop (st.at_+1)
   if r.length < 2∨r[0]?≠some 45∨r[1]?=some 93 then .ok (st.skip 1,t.with_ c.toNat)
   else if (r.getD 1 0).toNat < c.toNat then .error 40
   else .ok (st.skip 3,t.through c.toNat (r.getD 1 0).toNat)
def itemsP:Nat→Set4→PSt→Ps Set4
 | 0,_,_=>.error 0
 | f+1,t,st=>if E31 s 93 st=true then .ok (st.skip 1,t) else match itemP s t st with
  | .error e=>.error e
  | .ok (st',t')=>itemsP f t' st'
def classP (f:Nat) (st:PSt):Ps Int :=
 let st1:=st.skip 1
 let st2:=hasSt s 94 st1
 match itemP s set0 st2 with
 | .error e=>.error e
 | .ok (st3,t)=>match itemsP s f t st3 with
  | .error e=>.error e
  | .ok (st4,t')=>.ok (setP (if E31 s 94 st1=true then t'.compl else t') st4)
def H77 (kind:Int) (st:PSt):Ps Int :=
 let r:=addP { B98 with Kind:=kind } (st.skip 1)
 match s[r.1.at_]? with
 | some c=>if c∈([42,43,63,123]:Str) then .error 40 else .ok r
 | none=>.ok r
def numP (num:Str→Nat→Option (Int × Nat)) (st:PSt):Ps Int:=match num s st.at_ with
 | none=>.error 40
 | some (n,e)=>if n > 100 then .error 40 else .ok ({ st with at_:=e },n)
def boundsP (num:Str→Nat→Option (Int × Nat)) (st:PSt):Ps (Int × Int):=match numP s num st with
 | .error e=>.error e
 | .ok (st1,least) =>
  let fin:=fun (st:PSt) (most:Int)=>(if E31 s 125 st=false∨(0≤most∧most < least) then .error 40 else .ok (st.skip 1,(least,most)):Ps (Int × Int))
  if E31 s 44 st1=true then
   let st2:=st1.skip 1
   match s[st2.at_]? with
   | none=>fin st2 (-1)
   | some c=>if c=125 then fin st2 (-1) else match numP s num st2 with
    | .error e=>.error e
    | .ok (st3,most)=>fin st3 most
  else fin st1 least
def quantP (num:Str→Nat→Option (Int × Nat)) (st:PSt):Ps (Option (Int × Int)) :=
 if E31 s 42 st=true then .ok (st.skip 1,some (0,-1))
 else if E31 s 43 st=true then .ok (st.skip 1,some (1,-1))
 else if E31 s 63 st=true then .ok (st.skip 1,some (0,1))
 else if E31 s 123 st=true then match boundsP s num (st.skip 1) with
  | .error e=>.error e
  | .ok (st',b)=>.ok (st',some b)
 else .ok (st,none)
def H78 (st:PSt):Ps Int:=match takeP s st with
 | .error e=>.error e
 | .ok (st',c)=>.ok (setP (set0.with_ c.toNat) st')
def escapeP (st:PSt):Ps Int:=H78 s (st.skip 1)
def anyP (st:PSt):PSt × Int:=setP set0.compl (st.skip 1)
def C64 (num:Str→Nat→Option (Int × Nat)) (r:Ps Int):Ps Int:=match r with
 | .error e=>.error e
 | .ok (st,atom)=>match quantP s num st with
  | .error e=>.error e
  | .ok (st',none)=>.ok (st',atom)
  | .ok (st',some (least,most))=>.ok (addP { B98 with Kind:=6,Min:=least,Max:=most,Kids:=[atom] } st')
mutual
def patP (num:Str→Nat→Option (Int × Nat)):Nat→PSt→Ps Int
 | 0,_=>.error 0
 | f+1,st=>match altP num f st [] with
  | .error e=>.error e
  | .ok (st',k)=>H79 num f st' [k]
def H79 (num:Str→Nat→Option (Int × Nat)):Nat→PSt→List Int→Ps Int
 | 0,_,_=>.error 0
 | f+1,st,kids=>if E31 s 124 st=true then match altP num f (st.skip 1) [] with
   | .error e=>.error e
   | .ok (st',k)=>H79 num f st' (kids++[k])
  else .ok (H36 5 kids st)
def altP (num:Str→Nat→Option (Int × Nat)):Nat→PSt→List Int→Ps Int
 | 0,_,_=>.error 0
 | f+1,st,kids=>match s[st.at_]? with
  | none=>.ok (H36 4 kids st)
  | some c=>if c=124∨c=41 then .ok (H36 4 kids st) else match pieceP num f st c with
   | .error e=>.error e
   | .ok (st',k)=>altP num f st' (kids++[k])
def pieceP (num:Str→Nat→Option (Int × Nat)):Nat→PSt→UInt8→Ps Int
 | 0,_,_=>.error 0
 | f+1,st,c =>
  if c=94 then H77 s 2 st
  else if c=36 then H77 s 3 st
  else if c=40 then C64 s num (parenP num f st)
  else if c=91 then C64 s num (classP s (s.length+2) st)
  else if c=46 then C64 s num (.ok (anyP st))
  else if c=92 then C64 s num (escapeP s st)
  else if c∈([42,43,63,123]:Str) then .error 40
  else C64 s num (H78 s st)
def parenP (num:Str→Nat→Option (Int × Nat)):Nat→PSt→Ps Int
 | 0,_=>.error 0
 | f+1,st=>if st.depth=50 then .error 1 else match patP num f { st with at_:=st.at_+1,depth:=st.depth+1 } with
  | .error e=>.error e
  | .ok (st',n)=>if E31 s 41 st'=true then .ok ({ st' with at_:=st'.at_+1,depth:=st'.depth - 1 },n) else .error 40
end
end
def B99 (a b:Int):Int:=if b < a then b else a
def sumW (w:List Int):Int→List Int→Int
 | acc,[]=>acc
 | acc,k::r=>sumW w (B99 (acc+atG w k.toNat) 4001) r
def D51 (n:Node) (w:List Int):Int :=
 let sum:=sumW w 0 n.Kids
 if n.Kind=4 then sum
 else if n.Kind=5 then B99 (sum+n.Kids.length - 1) 4001
 else if n.Kind=6 then (if n.Max < 0 then B99 (n.Min*sum+sum+1) 4001 else B99 (n.Min*sum+(n.Max - n.Min)*(sum+1)) 4001)
 else 1
def F05:List Node→Nat→List Int→List Int
 | [],_,w=>w
 | n::r,i,w=>F05 r (i+1) (w.set i (D51 n w))
structure State where
 Kind:Int
 Set:Set4
 Next:Int
 Other:Int
 deriving DecidableEq
def Z1:State→Nat→Cell:=fun n j=>match j with
 | 0=>.v (.int .i64 n.Kind)
 | 1=>.v (.int .u64 n.Set.a)
 | 2=>.v (.int .u64 n.Set.b)
 | 3=>.v (.int .u64 n.Set.c)
 | 4=>.v (.int .u64 n.Set.d)
 | 5=>.v (.int .i64 n.Next)
 | _=>.v (.int .i64 n.Other)
structure Auto where
 States:List State
 Start:Int
 deriving DecidableEq
abbrev H37 (n:State):PV:=.agg [.v (.int .i64 n.Kind),.v (.int .u64 n.Set.a),.v (.int .u64 n.Set.b),.v (.int .u64 n.Set.c),.v (.int .u64 n.Set.d),.v (.int .i64 n.Next),.v (.int .i64 n.Other)]
abbrev H80 (l:List State):PV:=.one (.list State 7 Z1 l)
abbrev C65 (a:Auto):PV:=.agg [.list State 7 Z1 a.States,.v (.int .i64 a.Start)]
def Z8:State:=⟨0,set0,0,0⟩
abbrev Bld:=List State × Int
def addS (q:State) (st:List State):Bld:=(st++[q],st.length)
section
variable (ns:List Node) (w:List Int)
mutual
def C96:Nat→Int→Int→List State→Option Bld
 | 0,_,_,_=>none
 | f + 1,i,next,st =>
  if atG w i.toNat=0 then some (st,next)
  else
   let n:=ns.getD i.toNat B98
   if n.Kind=1 then some (addS { Z8 with Kind:=0,Set:=n.Set,Next:=next } st)
   else if n.Kind=2 then some (addS { Z8 with Kind:=2,Next:=next } st)
   else if n.Kind=3 then some (addS { Z8 with Kind:=3,Next:=next } st)
   else if n.Kind=4 then catB f n.Kids.reverse next st
   else if n.Kind=5 then match n.Kids.reverse with
    | []=>none
    | k::r=>match C96 f k next st with
     | none=>none
     | some (st',start)=>altB f r next start st'
   else if n.Kind=6 then
    let kid:=n.Kids.getD 0 0
    if n.Max < 0 then
     let loop:Int:=st.length
     match C96 f kid loop (st++[{ Z8 with Kind:=1,Other:=next }]) with
     | none=>none
     | some (st',start)=>minB f kid n.Min.toNat loop (st'.set loop.toNat { (st'.getD loop.toNat Z8) with Next:=start })
    else match maxB f kid (n.Max - n.Min).toNat next next st with
     | none=>none
     | some (st',next')=>minB f kid n.Min.toNat next' st'
   else some (st,next)
def catB:Nat→List Int→Int→List State→Option Bld
 | 0,_,_,_=>none
 | _+1,[],next,st=>some (st,next)
 | f+1,k::r,next,st=>match C96 f k next st with
  | none=>none
  | some (st',next')=>catB f r next' st'
def altB:Nat→List Int→Int→Int→List State→Option Bld
 | 0,_,_,_,_=>none
 | _+1,[],_,start,st=>some (st,start)
 | f+1,k::r,next,start,st=>match C96 f k next st with
  | none=>none
  | some (st',b)=>altB f r next st'.length (st'++[{ Z8 with Kind:=1,Next:=b,Other:=start }])
def maxB:Nat→Int→Nat→Int→Int→List State→Option Bld
 | 0,_,_,_,_,_=>none
 | _+1,_,0,_,next,st=>some (st,next)
 | f+1,kid,m+1,last,next,st=>match C96 f kid next st with
  | none=>none
  | some (st',b)=>maxB f kid m last st'.length (st'++[{ Z8 with Kind:=1,Next:=b,Other:=last }])
def minB:Nat→Int→Nat→Int→List State→Option Bld
 | 0,_,_,_,_=>none
 | _+1,_,0,next,st=>some (st,next)
 | f+1,kid,m+1,next,st=>match C96 f kid next st with
  | none=>none
  | some (st',next')=>minB f kid m next' st'
end
end
end Go.AL
namespace Go.AL
open Go
def m9 (q:State) (start fin:Bool):List Int :=
 if q.Kind=1 then [q.Next,q.Other] else if q.Kind=2 then (if start=true then [q.Next] else []) else if q.Kind=3 then (if fin=true then [q.Next] else []) else []
structure Thread where
 state:Int
 from_:Int
 deriving DecidableEq
def Z6:Thread→Nat→Cell:=fun t j=>match j with
 | 0=>.v (.int .i64 t.state)
 | _=>.v (.int .i64 t.from_)
section
variable (a:Auto) (s:Str)
def C97 (i:Int):State:=a.States.getD i.toNat Z8
def A01:List Thread→Int
 | [] => -1
 | t::r=>if (C97 a t.state).Kind=4 then t.from_ else A01 r
end
end Go.AL
namespace Go.AL
open Go
end Go.AL
