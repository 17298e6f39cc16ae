/- Plain facts about data; no project text. -/
import Derived.Test.YtgejaedjnbjpoaaGreatDoorD
import Derived.Lib.Strings
import Derived.Lib.Bytealg
import Derived.Lib.Join
import Derived.Lib.ItoaNum
import Derived.Test.YtgejaedjnbjpoaaGreatDoorAn
namespace Go.AL
open Go
theorem F02 (c:UInt8):((c.toNat:Int)=10)↔c=10:=by
 constructor
 ·intro h
  have:c.toNat=10:=by omega
  exact UInt8.toNat_inj.1 (by simpa using this)
 ·rintro rfl;rfl
def G1 (cur:Str):Str→List Str
 | []=>if cur=[] then [] else [cur]
 | c::r=>if c=10 then (cur++[c])::G1 [] r else G1 (cur++[c]) r
def C8 (b:Str):List Str:=G1 [] b
theorem A93 (cur:Str) (s:Str):(G1 cur s).length≤s.length+1:=by
 induction s generalizing cur with
 | nil=>unfold G1;split<;>simp
 | cons c r ih=>unfold G1;split<;>simp<;>(have:=ih [];have:=ih (cur++[c]);omega)
theorem B60 (s:Str):(G1 [] s).length≤s.length:=by
 have key:∀(s cur:Str),cur≠[]→(G1 cur s).length≤s.length+1:=fun s cur _=>A93 cur s
 induction s with
 | nil=>simp [G1]
 | cons c r ih=>unfold G1;split<;>simp<;>(have:=A93 ([]++[c]) r;simp at this;omega)
theorem Q1 (b:Str):(C8 b).length≤b.length:=B60 b
theorem U7 (cur r:Str) (c:UInt8):G1 cur (c::r)=if c=10 then (cur++[c])::G1 [] r else G1 (cur++[c]) r:=rfl
theorem F52 (cur:Str) (h:cur≠[]):G1 cur []=[cur]:=by simp [G1,h]
theorem or_pick {p q:Prop} [Decidable p] [Decidable q]:(if decide p=true then true else decide q)=decide (p∨q):=by by_cases p<;>simp [*]
theorem L2 {p q:Prop} [Decidable p] [Decidable q]:(if decide p=true then decide q else false)=decide (p∧q):=by by_cases p<;>simp [*]
theorem V7 {α:Type} (l:List (List α)) (i:Nat) (h:i < l.length):(l.take (i+1)).flatten=(l.take i).flatten++l[i]:=by
 rw [List.take_add_one,J03 h,Option.toList_some,J27];simp
theorem U4 {α:Type} (l:List (List α)) (i:Nat):(l.take i).flatten.length≤l.flatten.length:=by
 conv=>rhs;rw [←J41 i l,J27,J01]
 omega
theorem G94 (i:Nat):((i:Int)+1).toNat=i+1:=by omega
theorem F03 {α:Type} (b:List α) (f i:Nat) (hf:f≤i) (hi:i < b.length):(b.drop f).take (i - f)++[b[i]]=(b.drop f).take (i+1 - f):=by
 rw [show i+1 - f=(i - f)+1 by omega,List.take_add_one,J26,show f+(i - f)=i by omega,J03 hi]
 rfl
def ended (s:Str):Bool:=s.getLast? == some 10
theorem I47 (s:Str):ended s=(if decide (s≠[])=true then decide (((s.getLastD 0).toNat:Int)=10) else false):=by
 unfold ended
 by_cases h:s=[]
 ·simp [h]
 ·rw [List.getLast?_eq_some_getLast h,List.getLastD_eq_getLast?,List.getLast?_eq_some_getLast h]
  simp only [ne_eq,h,not_false_eq_true,decide_true,if_true,Option.getD_some,F02]
  rfl
def S3:List Str→Str→Int→Int
 | [],_,_ => -1
 | x::r,s,i=>if x=s then i else S3 r s (i+1)
theorem F53 (l:List Str) (s:Str) (k:Nat) (h:k < l.length):S3 (l.drop k) s k=if l[k]=s then (k:Int) else S3 (l.drop (k+1)) s ((k:Int)+1):=by
 rw [J07 h]
 simp [S3]
theorem G23 (l:List Str) (s:Str):∀(k:Int),0≤k→((S3 l s k < 0)↔s∉l):=by
 induction l with
 | nil=>intro k _;simp [S3]
 | cons x r ih =>
  intro k hk
  unfold S3
  by_cases h:x=s
  ·simp [h];omega
  ·have:=ih (k+1) (by omega)
   simp [h,this,Ne.symm h]
def I0 (s:Str):Bool:=s.dropLast.all (·≠10)&&s != []
def Y4:List Str→Bool
 | []=>true
 | s::r=>I0 s&&(r.isEmpty||ended s)&&Y4 r
def C27 (b:Str):Int:=if b.length > 1048576∨(C8 b).length > 4096 then 1 else 0
def J5 (out:List Str) (s:Str):List Str:=if s∈out then out else out++[s]
def G2 (files:List (List Str)):List Str:=files.flatten.foldl J5 []
def S7 (names:List Str) (file:List Str):List Int:=file.map (fun s=>S3 names s 0)
theorem C79 (out:List Str) (s:Str):(J5 out s).length≤out.length+1:=by unfold J5;split<;>simp
theorem A08 (l out:List Str):(l.foldl J5 out).length≤out.length+l.length:=by
 induction l generalizing out with
 | nil=>simp
 | cons s r ih=>have h1:=ih (J5 out s);have h2:=C79 out s;simp only [J39,J02];omega
theorem E00 (fs:List (List Str)):(G2 fs).length≤fs.flatten.length:=by have:=A08 fs.flatten [];simpa [G2] using this
end Go.AL
namespace Go.AL
open Go
def W9 (i j:Int):List Span→Int→Int→List Change
 | [],m,n=>if m > i∨n > j then [⟨i,m - i,j,n - j⟩] else []
 | x::r,m,n=>(if x.From > i∨x.To > j then [⟨i,x.From - i,j,x.To - j⟩] else [])++W9 (x.From+1) (x.To+1) r m n
def C80 (p:List Span) (m n:Int):List Change:=W9 0 0 p m n
theorem B72 (p:List Span) (i j m n:Int):(W9 i j p m n).length≤p.length+1:=by
 induction p generalizing i j with
 | nil=>unfold W9;split<;>simp
 | cons x r ih=>unfold W9;have:=ih (x.From+1) (x.To+1);split<;>simp<;>omega
def Q6 (i j:Int) (n:Nat):List Span:=(List.range n).map fun (t:Nat)=>⟨i+(t:Int),j+(t:Int)⟩
theorem B24 (i j:Int) (n:Nat):(Q6 i j n).length=n:=by simp [Q6]
theorem C28 (i j:Int) (n:Nat):Q6 i j (n+1)=⟨i,j⟩::Q6 (i+1) (j+1) n:=by
 unfold Q6
 rw [List.range_succ_eq_map,J08,J46]
 congr 1
 ·simp
 ·refine List.map_congr_left fun t _=>?_
  simp only [Function.comp,Span.mk.injEq]
  omega
def K2 (i j:Int):List Change→Int→List Span
 | [],m=>Q6 i j (m - i).toNat
 | c::r,m=>Q6 i j (c.Old - i).toNat++K2 (max i c.Old+c.OldLen) (j+(c.Old - i).toNat+c.NewLen) r m
def c8 (l:List Change) (m:Int):List Span:=K2 0 0 l m
def dist:List Int→List Int→Nat
 | [],b=>b.length
 | x::a,[]=>(x::a).length
 | x::a,y::b=>if x=y then dist a b else 1+min (dist a (y::b)) (dist (x::a) b)
theorem E01 (a:List Int):dist a []=a.length:=by cases a<;>simp [dist]
theorem F54 (a b:List Int):dist a b≤a.length+b.length:=by
 induction a generalizing b with
 | nil=>simp [dist]
 | cons x a iha =>
  induction b with
  | nil=>simp [dist]
  | cons y b ihb =>
   unfold dist
   split
   ·have:=iha b;simp;omega
   ·have:=iha (y::b);have:=ihb;simp only [J02] at *;omega
def I1 (i j:Int):List Int→List Int→List Span
 | [],_=>[]
 | _::_,[]=>[]
 | x::a,y::b=>if x=y then ⟨i,j⟩::I1 (i+1) (j+1) a b else if dist a (y::b)+1=dist (x::a) (y::b) then I1 (i+1) j a (y::b) else I1 i (j+1) (x::a) b
def l5 (a b:List Int):List Change:=C80 (I1 0 0 a b) a.length b.length
theorem H95 (a b:List Int) (i j:Nat) (hi:i < a.length) (hj:j < b.length) :
  dist (a.drop i) (b.drop j)=if a[i]=b[j] then dist (a.drop (i+1)) (b.drop (j+1)) else 1+min (dist (a.drop (i+1)) (b.drop j)) (dist (a.drop i) (b.drop (j+1))):=by
 rw [J07 hi,J07 hj]
 conv=>lhs;rw [dist]
theorem B25 (a b:List Int) (i j:Nat) (hi:i < a.length) (hj:j < b.length) (p q:Int) :
  I1 p q (a.drop i) (b.drop j)=if a[i]=b[j] then ⟨p,q⟩::I1 (p+1) (q+1) (a.drop (i+1)) (b.drop (j+1)) else
   if dist (a.drop (i+1)) (b.drop j)+1=dist (a.drop i) (b.drop j) then I1 (p+1) q (a.drop (i+1)) (b.drop j) else I1 p (q+1) (a.drop i) (b.drop (j+1)):=by
 rw [J07 hi,J07 hj]
 conv=>lhs;rw [I1]
theorem A94 (p q:Int) (b:List Int):I1 p q [] b=[]:=by simp [I1]
theorem A46 (p q:Int) (a:List Int):I1 p q a []=[]:=by cases a<;>simp [I1]
theorem s8 (p q:Int) (a b:List Int):(I1 p q a b).length≤a.length:=by
 induction a generalizing p q b with
 | nil=>simp [I1]
 | cons x a iha =>
  induction b generalizing p q with
  | nil=>simp [I1]
  | cons y b ihb =>
   unfold I1
   split
   ·have:=iha (p+1) (q+1) b;simp;omega
   ·split
    ·have:=iha (p+1) q (y::b);simp;omega
    ·exact ihb p (q+1)
universe u
theorem C81 {α:Type u} (n k:Nat) (f g:Nat→α) (v:α) (hv:k < n→g k=v) (h:∀q,q < n→q≠k→g q=f q):((List.range n).map f).set k v=(List.range n).map g:=by
 refine List.ext_getElem (by simp) fun q h1 h2=>?_
 have hq:q < n:=by simpa using h2
 rw [List.getElem_set]
 by_cases he:k=q
 ·subst he;simp [hv hq]
 ·rw [if_neg he];simp [h q hq (Ne.symm he)]
theorem C82 {α:Type u} (n k:Nat) (f:Nat→α) (h:k < n):((List.range n).map f)[k]?=some (f k):=by simp [h]
def O4 (a b:List Int) (i q:Nat):List Int:=(List.range (b.length+1)).map fun j=>if q≤j then (dist (a.drop i) (b.drop j):Int) else 0
def L9 (a b:List Int) (i:Nat):List (List Int):=(List.range (a.length+1)).map fun r=>if i≤r then O4 a b r 0 else []
def B48 (a b:List Int):List (List Int):=L9 a b 0
theorem E02 (a b:List Int) (i q:Nat):(O4 a b i q).length=b.length+1:=by simp [O4]
theorem x1 (a b:List Int) (i:Nat):(L9 a b i).length=a.length+1:=by simp [L9]
theorem F55 (a b:List Int) (i:Nat):List.replicate (b.length+1) 0=O4 a b i (b.length+1):=by
 refine List.ext_getElem (by simp [O4]) fun q h1 h2=>?_
 have:¬(b.length+1≤q):=by simp at h1;omega
 simp [O4,this]
theorem E54 (a b:List Int):List.replicate (a.length+1) []=L9 a b (a.length+1):=by
 refine List.ext_getElem (by simp [L9]) fun q h1 h2=>?_
 have:¬(a.length+1≤q):=by simp at h1;omega
 simp [L9,this]
theorem G24 (a b:List Int) (i j:Nat):(O4 a b i (j+1)).set j (dist (a.drop i) (b.drop j):Int)=O4 a b i j:=by
 unfold O4
 refine C81 _ _ _ _ _ (fun _=>by simp) fun q hq hne=>?_
 by_cases h:j≤q
 ·rw [if_pos h,if_pos (by omega)]
 ·rw [if_neg h,if_neg (by omega)]
theorem u5 (a b:List Int) (i q j:Nat) (h:q≤j) (hj:j≤b.length):(O4 a b i q)[j]?=some (dist (a.drop i) (b.drop j):Int):=by
 unfold O4
 rw [C82 _ _ _ (by omega),if_pos h]
theorem F56 (a b:List Int) (i:Nat):(L9 a b (i+1)).set i (O4 a b i 0)=L9 a b i:=by
 unfold L9
 refine C81 _ _ _ _ _ (fun _=>by simp) fun q hq hne=>?_
 by_cases h:i≤q
 ·rw [if_pos h,if_pos (by omega)]
 ·rw [if_neg h,if_neg (by omega)]
theorem A69 (a b:List Int) (i r:Nat) (h:i≤r) (hr:r≤a.length):(L9 a b i)[r]?=some (O4 a b r 0):=by
 unfold L9
 rw [C82 _ _ _ (by omega),if_pos h]
def J7 (l:List Merged):List Int:=l.map (·.Line)
theorem C29 (i j:Int):Q6 i j 0=[]:=rfl
theorem C30 (i j:Int) (n:Nat):Q6 i j (n+1)=Q6 i j n++[⟨i+n,j+n⟩]:=by simp [Q6,J43]
def Asc (m n:Int):Int→Int→List Span→Prop
 | i,j,[]=>i≤m∧j≤n
 | i,j,x::r=>i≤x.From∧j≤x.To∧Asc m n (x.From+1) (x.To+1) r
theorem Asc.le {m n:Int}:∀{p:List Span} {i j:Int},Asc m n i j p→i≤m∧j≤n
 | [],i,j,h=>h
 | x::r,i,j,h=>by have:=Asc.le h.2.2;have:=h.1;have:=h.2.1;omega
theorem Asc.weaken {m n:Int} {p:List Span} {i j i' j':Int} (h:Asc m n i j p) (hi:i'≤i) (hj:j'≤j):Asc m n i' j' p:=by
 cases p with
 | nil=>exact ⟨by have:=h.1;omega,by have:=h.2;omega⟩
 | cons x r=>exact ⟨by have:=h.1;omega,by have:=h.2.1;omega,h.2.2⟩
theorem A70 (a b:List Int):∀(p q:Int),Asc (p+a.length) (q+b.length) p q (I1 p q a b):=by
 induction a generalizing b with
 | nil=>intro p q;rw [A94];simp only [Asc,J05];omega
 | cons x a iha =>
  induction b with
  | nil=>intro p q;rw [A46];simp only [Asc,J05];omega
  | cons y b ihb =>
   intro p q
   rw [I1]
   split
   ·have:=iha b (p+1) (q+1)
    refine ⟨Int.le_refl _,Int.le_refl _,?_⟩
    simp only [J02]
    rwa [show p+((a.length+1:Nat):Int)=p+1+a.length by omega,show q+((b.length+1:Nat):Int)=q+1+b.length by omega]
   ·split
    ·have:=(iha (y::b) (p+1) q).weaken (i':=p) (j':=q) (by omega) (Int.le_refl _)
     rwa [show p+((x::a).length:Int)=p+1+a.length by simp;omega]
    ·have:=(ihb p (q+1)).weaken (i':=p) (j':=q) (Int.le_refl _) (by omega)
     rwa [show q+((y::b).length:Int)=q+1+b.length by simp;omega]
theorem Asc.made {m n:Int}:∀{p:List Span} {i j:Int},Asc m n i j p→∀c∈W9 i j p m n,i≤c.Old∧j≤c.New∧0≤c.OldLen∧0≤c.NewLen∧c.Old+c.OldLen≤m∧c.New+c.NewLen≤n
 | [],i,j,h,c,hc=>by
  unfold W9 at hc
  split at hc
  ·simp only [List.mem_singleton] at hc;subst hc
   have:=h.1;have:=h.2
   simp only;omega
  ·cases hc
 | x::r,i,j,h,c,hc=>by
  unfold W9 at hc
  obtain ⟨h1,h2,h3⟩:=h
  have h4:=h3.le
  rcases List.mem_append.1 hc with hc | hc
  ·split at hc
   ·simp only [List.mem_singleton] at hc;subst hc
    simp only;omega
   ·cases hc
  ·have:=Asc.made h3 c hc;omega
theorem E03 (i j m:Int) (l:List Change) (h:∀c∈l,i+1≤c.Old) (hm:l=[]→i+1≤m):K2 i j l m=⟨i,j⟩::K2 (i+1) (j+1) l m:=by
 cases l with
 | nil =>
  have:=hm rfl
  rw [K2,K2,show (m - i).toNat=(m - (i+1)).toNat+1 by omega,C28]
 | cons c r =>
  have:=h c (List.mem_cons_self ..)
  rw [K2,K2,show (c.Old - i).toNat=(c.Old - (i+1)).toNat+1 by omega,C28]
  rw [show max (i+1) c.Old=max i c.Old by omega,show (j+1+((c.Old - (i+1)).toNat:Int))=j+(((c.Old - (i+1)).toNat+1:Nat):Int) by omega]
  rfl
theorem C31 {m n:Int}:∀{p:List Span} {i j:Int},Asc m n i j p→K2 i j (W9 i j p m n) m=p
 | [],i,j,h=>by
  have h1:=h.1;have h2:=h.2
  unfold W9
  split
  ·rw [K2,K2,show (i - i).toNat=0 by omega,show (m - (max i i+(m - i))).toNat=0 by omega];rfl
  ·rw [K2,show (m - i).toNat=0 by omega];rfl
 | x::r,i,j,h=>by
  obtain ⟨h1,h2,h3⟩:=h
  have ih:=C31 h3
  have hm:=h3.le
  have hd:=E03 x.From x.To m (W9 (x.From+1) (x.To+1) r m n) (fun c hc=>(h3.made c hc).1) (fun _=>hm.1)
  rw [ih] at hd
  unfold W9
  split
  ·rw [J47,K2,show (i - i).toNat=0 by omega,show max i i+(x.From - i)=x.From by omega,show j+((0:Nat):Int)+(x.To - j)=x.To by omega,hd];rfl
  ·have e1:i=x.From:=by omega
   have e2:j=x.To:=by omega
   rw [J29,e1,e2,hd]
theorem C32 (a b:List Int):c8 (l5 a b) a.length=I1 0 0 a b:=by
 have:=A70 a b 0 0
 rw [Int.zero_add,Int.zero_add] at this
 exact C31 this
theorem C33 (a b:List Int):∀c∈l5 a b,0≤c.Old∧0≤c.New∧0≤c.OldLen∧0≤c.NewLen∧c.Old+c.OldLen≤a.length∧c.New+c.NewLen≤b.length:=by
 have:=A70 a b 0 0
 rw [Int.zero_add,Int.zero_add] at this
 exact this.made
def Q9 (p:Int):Int:=IntKind.u32.wrap (1*2 ^ (min (IntKind.u64.wrap p).toNat IntKind.u32.bits))
def S2 (a b:Int):Int:=IntKind.u32.wrap ((BitVec.ofInt IntKind.u32.bits a ||| BitVec.ofInt IntKind.u32.bits b).toNat:Int)
def V1 (l:List Merged) (list:List Int) (bit:Int) (i j:Nat):List Span→List Merged
 | []=>(l.drop i).take (l.length - i)++((list.drop j).take (list.length - j)).map fun v=>⟨v,bit⟩
 | x::r=>(l.drop i).take (x.From.toNat - i)++(((list.drop j).take (x.To.toNat - j)).map fun v=>⟨v,bit⟩)++((l[x.From.toNat]?.map fun y=>(⟨y.Line,S2 y.Parents bit⟩:Merged)).toList++V1 l list bit (x.From.toNat+1) (x.To.toNat+1) r)
def l6 (l:List Merged) (list:List Int) (p:Int):List Merged:=V1 l list (Q9 p) 0 0 (I1 0 0 (J7 l) list)
theorem B26 {α:Type} (l:List α) (i t:Nat) (h:i+t < l.length):(l.drop i).take (t+1)=(l.drop i).take t++[l[i+t]]:=by
 rw [List.take_add_one,J26,J03 h];rfl
theorem B73 (l:List Merged) (list:List Int) (bit:Int):∀(p:List Span) (i j:Nat),(V1 l list bit i j p).length≤l.length*(p.length+1)+list.length*(p.length+1)+p.length
 | [],i,j=>by simp [V1];omega
 | x::r,i,j=>by
  have:=B73 l list bit r (x.From.toNat+1) (x.To.toNat+1)
  have h1:((l.drop i).take (x.From.toNat - i)).length≤l.length:=by simp;omega
  have h2:((list.drop j).take (x.To.toNat - j)).length≤list.length:=by simp;omega
  have h3:((l[x.From.toNat]?.map fun y=>(⟨y.Line,S2 y.Parents bit⟩:Merged)).toList).length≤1:=by cases l[x.From.toNat]?<;>simp
  simp only [V1,J01,J35,J02,Nat.mul_add,Nat.mul_one] at *
  omega
end Go.AL
namespace Go.AL
open Go
def A19 (m:Int) (c:Nat):Bool:=m / 2 ^ c % 2 == 1
def Z9 (r:Row) (c:Int):Bool:=if c = -1 then !r.Lost else if c < -1∨32≤c then false else A19 r.Marks c.toNat == r.Lost
def N8 (rows:List Row) (c:Int):List Str:=(rows.filter (Z9 · c)).map (·.Text)
def X0 (n:Nat) (r:Row):Bool:=r.Marks / 2 ^ n == 0&&!(r.Lost&&r.Marks == 0)
def M4 (rows:List Row) (n:Nat):Bool:=rows.all (X0 n)
def l7 (rows:List Row) (n:Nat):Bool:=rows.all (fun r=>I0 r.Text)&&(List.range (n+1)).all fun k=>Y4 (N8 rows ((k:Int) - 1))
def R7 (t:Table):Int:=if t.Parents < 1∨32 < t.Parents then 2 else if M4 t.Rows t.Parents.toNat=false then 180 else if l7 t.Rows t.Parents.toNat=false then 4 else 0
theorem C34 (r:Row) (rs:List Row) (n:Nat):M4 (r::rs) n=(X0 n r&&M4 rs n):=rfl
def I8 (rows:List Row):Prop:=∀r∈rows,0≤r.Marks∧r.Marks < 4294967296
def N9 (rows:List Row):Nat:=(rows.map (·.Text)).flatten.length
theorem C83 (rows:List Row) (c:Int):(N8 rows c).length≤rows.length:=by unfold N8;rw [J35];exact List.length_filter_le _ _
theorem G95 (rows:List Row) (c:Int):(N8 rows c).flatten.length≤N9 rows:=by
 unfold N8 N9
 induction rows with
 | nil=>simp
 | cons r rs ih =>
  rw [List.filter_cons]
  split
  ·simp only [J08,J14,J01];omega
  ·simp only [J08,J14,J01];omega
theorem H96 (rows:List Row) (c:Int):∀s∈N8 rows c,∃r∈rows,r.Text=s:=by
 intro s hs
 unfold N8 at hs
 obtain ⟨r,hr,rfl⟩:=List.mem_map.1 hs
 exact ⟨r,(List.mem_filter.1 hr).1,rfl⟩
theorem E04 (rows:List Row):∀r∈rows,r.Text.length≤N9 rows:=by
 intro r hr
 unfold N9
 exact (List.sublist_flatten_of_mem (List.mem_map_of_mem hr)).length_le
theorem B27 (x:Int) (h:0≤x∧x < 4294967296):IntKind.u32.wrap ((BitVec.ofInt IntKind.u32.bits x &&& BitVec.ofInt IntKind.u32.bits 1).toNat:Int)=x % 2:=by
 have h1:(BitVec.ofInt IntKind.u32.bits x &&& BitVec.ofInt IntKind.u32.bits 1).toNat=x.toNat % 2:=by
  rw [BitVec.toNat_and,BitVec.toNat_ofInt,BitVec.toNat_ofInt]
  have e1:(x % ((2 ^ IntKind.u32.bits:Nat):Int)).toNat=x.toNat:=by
   rw [show ((2 ^ IntKind.u32.bits:Nat):Int)=4294967296 by rfl];omega
  have e2:((1:Int) % ((2 ^ IntKind.u32.bits:Nat):Int)).toNat=1:=by rfl
  rw [e1,e2,Nat.and_one_is_mod]
 rw [h1]
 have h2:IntKind.u32.wrap ((x.toNat % 2:Nat):Int)=((x.toNat % 2:Nat):Int):=by
  simp [IntKind.wrap,IntKind.signed,IntKind.bits];omega
 rw [h2];omega
theorem B92 {n:Int} (h:0≤n∧n < 18446744073709551616):IntKind.u64.wrap n=n:=by simp [IntKind.wrap,IntKind.signed,IntKind.bits];omega
theorem E05 (m c:Int) (hc:0≤c∧c≤32):m.fdiv (2 ^ (min c.toNat IntKind.u32.bits))=m / 2 ^ c.toNat:=by
 rw [show min c.toNat IntKind.u32.bits=c.toNat from Nat.min_eq_left (by show c.toNat≤32;omega),Int.fdiv_eq_ediv_of_nonneg _ (Int.pow_nonneg (by decide))]
theorem shr64' (m c:Int) (hc:0≤c∧c≤64):m.fdiv (2 ^ (min c.toNat IntKind.u64.bits))=m / 2 ^ c.toNat:=by
 rw [show min c.toNat IntKind.u64.bits=c.toNat from Nat.min_eq_left (by show c.toNat≤64;omega),Int.fdiv_eq_ediv_of_nonneg _ (Int.pow_nonneg (by decide))]
theorem shr_eq (m c:Int) (b:Nat) (hc:0≤c∧c≤b):m.fdiv (2 ^ (min c.toNat b))=m / 2 ^ c.toNat:=by
 rw [show min c.toNat b=c.toNat by omega,Int.fdiv_eq_ediv_of_nonneg _ (Int.pow_nonneg (by decide))]
end Go.AL
namespace Go.AL
open Go
theorem E06 (n:Int):0≤IntKind.u32.wrap n∧IntKind.u32.wrap n < 4294967296:=by simp [IntKind.wrap,IntKind.signed,IntKind.bits];omega
def clrBit (a b:Int):Int:=IntKind.u32.wrap ((BitVec.ofInt IntKind.u32.bits a &&& ~~~BitVec.ofInt IntKind.u32.bits b).toNat:Int)
def N4 (acc:List Merged) (p:Nat):List (List Int)→List Merged × Int
 | []=>(acc,0)
 | x::r=>if 4096 < acc.length∨4096 < x.length then ([],1) else N4 (l6 acc x p) (p+1) r
def I2 (lists:List (List Int)):List Merged × Int:=if 32 < lists.length then ([],1) else N4 [] 0 lists
theorem D13 (l:List Merged) (list:List Int) (bit:Int):∀(ps:List Span) (i j:Nat),i≤l.length→j≤list.length→Asc l.length list.length i j ps→(V1 l list bit i j ps).length≤(l.length - i)+(list.length - j)
 | [],i,j,hi,hj,_=>by simp [V1]
 | x::r,i,j,hi,hj,ha=>by
  obtain ⟨h1,h2,h3⟩:=ha
  have h4:=h3.le
  have e1:((x.From.toNat+1:Nat):Int)=x.From+1:=by omega
  have e2:((x.To.toNat+1:Nat):Int)=x.To+1:=by omega
  have ih:=D13 l list bit r (x.From.toNat+1) (x.To.toNat+1) (by omega) (by omega) (by rw [e1,e2];exact h3)
  have h5:((l[x.From.toNat]?.map fun y=>(⟨y.Line,S2 y.Parents bit⟩:Merged)).toList).length≤1:=by cases l[x.From.toNat]?<;>simp
  simp only [V1,J01,J35,J15,J12]
  omega
theorem G25 (l:List Merged) (list:List Int) (p:Int):(l6 l list p).length≤l.length+list.length:=by
 have hasc:=A70 (J7 l) list 0 0
 rw [Int.zero_add,Int.zero_add,show (J7 l).length=l.length by simp [J7]] at hasc
 have:=D13 l list (Q9 p) (I1 0 0 (J7 l) list) 0 0 (Nat.zero_le _) (Nat.zero_le _) hasc
 simpa [l6] using this
theorem Z1 {α:Type} {l:List α} {i n:Nat} {x:α} (h:x∈(l.drop i).take n):x∈l:=List.mem_of_mem_drop (List.mem_of_mem_take h)
theorem E07 (l:List Merged) (list:List Int) (bit:Int) (hb:0≤bit∧bit < 4294967296) (hl:∀m∈l,0≤m.Parents∧m.Parents < 4294967296) (Q:Int→Prop) (hq1:∀m∈l,Q m.Line) (hq2:∀v∈list,Q v) :
  ∀(ps:List Span) (i j:Nat),∀m∈V1 l list bit i j ps,(0≤m.Parents∧m.Parents < 4294967296)∧Q m.Line
 | [],i,j,m,hm=>by
  rcases List.mem_append.1 hm with h | h
  ·have:=Z1 h;exact ⟨hl _ this,hq1 _ this⟩
  ·obtain ⟨v,hv,rfl⟩:=List.mem_map.1 h
   exact ⟨hb,hq2 _ (Z1 hv)⟩
 | x :: r,i,j,m,hm=>by
  unfold V1 at hm
  rcases List.mem_append.1 hm with h | h
  ·rcases List.mem_append.1 h with h | h
   ·have:=Z1 h;exact ⟨hl _ this,hq1 _ this⟩
   ·obtain ⟨v,hv,rfl⟩:=List.mem_map.1 h
    exact ⟨hb,hq2 _ (Z1 hv)⟩
  ·rcases List.mem_append.1 h with h | h
   ·cases hx:l[x.From.toNat]? with
    | none=>simp [hx] at h
    | some y =>
     simp [hx] at h
     subst h
     exact ⟨E06 _,hq1 y (J22 hx)⟩
   ·exact E07 l list bit hb hl Q hq1 hq2 r _ _ m h
theorem A20 (Q:Int→Prop) (B:Nat):∀(ls:List (List Int)) (acc:List Merged) (p:Nat),(∀x∈ls,x.length≤B∧∀v∈x,Q v)→(∀m∈acc,(0≤m.Parents∧m.Parents < 4294967296)∧Q m.Line) →
  (N4 acc p ls).1.length≤acc.length+ls.length*B∧∀m∈(N4 acc p ls).1,(0≤m.Parents∧m.Parents < 4294967296)∧Q m.Line
 | [],acc,p,_,ha=>by simp only [N4];exact ⟨by simp,ha⟩
 | x::r,acc,p,hl,ha=>by
  unfold N4
  split
  ·exact ⟨by simp,by simp⟩
  ·have hx:=hl x (List.mem_cons_self ..)
   have hj:=G25 acc x p
   have hm:=E07 acc x (Q9 p) (E06 _) (fun m hm=>(ha m hm).1) Q (fun m hm=>(ha m hm).2) hx.2 (I1 0 0 (J7 acc) x) 0 0
   have ih:=A20 Q B r (l6 acc x p) (p+1) (fun y hy=>hl y (List.mem_cons_of_mem _ hy)) hm
   refine ⟨?_,ih.2⟩
   have h1:=ih.1
   have h2:=hx.1
   simp only [J02,J30,Nat.one_mul]
   omega
theorem B74 (Q:Int→Prop) (B:Nat) (ls:List (List Int)) (h:∀x∈ls,x.length≤B∧∀v∈x,Q v):(I2 ls).1.length≤ls.length*B∧∀m∈(I2 ls).1,(0≤m.Parents∧m.Parents < 4294967296)∧Q m.Line:=by
 unfold I2
 split
 ·exact ⟨by simp,by simp⟩
 ·have:=A20 Q B ls [] 0 h (by simp)
  simpa using this
def M6 (p:Int) (ms:List Int) (x:Span):List Int:=ms.set x.To.toNat (clrBit (ms.getD x.To.toNat 0) (Q9 p))
def R0 (p:Nat) (file:List Int) (g:Nat→List (List Int)) (c:Change):Nat→List (List Int):=fun k =>
 if k=c.New.toNat then (g k).set p ((file.drop c.Old.toNat).take ((c.Old+c.OldLen).toNat - c.Old.toNat)) else g k
abbrev Loom:=List Int × (Nat→List (List Int))
def p9 (ids:List (List Int)) (s:Loom) (p:Nat):Loom :=
 let file:=ids.getD (p+1) []
 let sc:=l5 file (ids.getD 0 [])
 ((c8 sc file.length).foldl (M6 p) (s.1.map (S2 · (Q9 p))),sc.foldl (R0 p file) s.2)
def G26 (lines n:Nat):Loom:=(List.replicate lines 0,fun _=>List.replicate n [])
def A32 (ids:List (List Int)) (lines n p:Nat):Loom:=(List.range p).foldl (p9 ids) (G26 lines n)
def r8 (names:List Str) (file:List Str) (s:Loom) (k:Nat):List Row :=
 (I2 (s.2 k)).1.map (fun m=>(⟨true,m.Parents,names.getD m.Line.toNat []⟩:Row))++(if k < file.length then [⟨false,s.1.getD k 0,file.getD k []⟩] else [])
def x2 (names:List Str) (file:List Str) (s:Loom) (k:Nat):List Row:=((List.range k).map (r8 names file s)).flatten
def I9 (result:Str) (parents:List Str):Table × Int :=
 if parents.length < 1∨32 < parents.length then (⟨0,[]⟩,2) else
 let fs:=C8 result::parents.map C8
 let names:=G2 fs
 let s:=A32 (fs.map (S7 names)) (C8 result).length parents.length parents.length
 if ∃k,k < (C8 result).length+1∧(I2 (s.2 k)).2≠0 then (⟨0,[]⟩,1) else (⟨parents.length,x2 names (C8 result) s ((C8 result).length+1)⟩,0)
theorem D14 (names file:List Str) (s:Loom) (k:Nat):x2 names file s (k+1)=x2 names file s k++r8 names file s k:=by
 unfold x2;rw [J43,J17,J27];simp
structure LoomOk (Q:Int→Prop) (B lines n:Nat) (s:Loom):Prop where
 len:s.1.length=lines
 marks:∀m∈s.1,0≤m∧m < 4294967296
 gaps:∀k,(s.2 k).length=n∧∀x∈s.2 k,x.length≤B∧∀v∈x,Q v
theorem I48 (Q:Int→Prop) (B lines n:Nat):LoomOk Q B lines n (G26 lines n) where
 len:=by simp [G26]
 marks:=fun m hm=>by have:=List.eq_of_mem_replicate hm;subst this;decide
 gaps:=fun k=>⟨by simp [G26],fun x hx=>by have:=List.eq_of_mem_replicate hx;subst this;simp⟩
theorem H97 {Q:Int→Prop} {B n p:Nat} {file:List Int} (hf:file.length≤B∧∀v∈file,Q v) {g:Nat→List (List Int)} (hg:∀k,(g k).length=n∧∀x∈g k,x.length≤B∧∀v∈x,Q v) (c:Change) :
  ∀k,(R0 p file g c k).length=n∧∀x∈R0 p file g c k,x.length≤B∧∀v∈x,Q v:=by
 intro k
 unfold R0
 split
 ·refine ⟨by rw [List.length_set];exact (hg k).1,fun x hx=>?_⟩
  rcases List.mem_or_eq_of_mem_set hx with h | rfl
  ·exact (hg k).2 x h
  ·exact ⟨by simp;omega,fun v hv=>hf.2 v (Z1 hv)⟩
 ·exact hg k
theorem A71 {Q:Int→Prop} {B n p:Nat} {file:List Int} (hf:file.length≤B∧∀v∈file,Q v):∀(sc:List Change) {g:Nat→List (List Int)},(∀k,(g k).length=n∧∀x∈g k,x.length≤B∧∀v∈x,Q v) →
  ∀k,(sc.foldl (R0 p file) g k).length=n∧∀x∈sc.foldl (R0 p file) g k,x.length≤B∧∀v∈x,Q v
 | [],_,hg=>hg
 | c::r,_,hg=>A71 hf r (H97 hf hg c)
theorem G27 {p:Int} {ms:List Int} {x:Span} (h:∀m∈ms,0≤m∧m < 4294967296):(M6 p ms x).length=ms.length∧∀m∈M6 p ms x,0≤m∧m < 4294967296:=by
 refine ⟨by simp [M6],fun m hm=>?_⟩
 rcases List.mem_or_eq_of_mem_set hm with h' | rfl
 ·exact h m h'
 ·exact E06 _
theorem B28 {p:Int}:∀(ps:List Span) {ms:List Int},(∀m∈ms,0≤m∧m < 4294967296)→(ps.foldl (M6 p) ms).length=ms.length∧∀m∈ps.foldl (M6 p) ms,0≤m∧m < 4294967296
 | [],ms,h=>⟨rfl,h⟩
 | x::r,ms,h=>by
  have h1:=G27 (p:=p) (x:=x) h
  have h2:=B28 (p:=p) r h1.2
  exact ⟨h2.1.trans h1.1,h2.2⟩
theorem E55 {Q:Int→Prop} {B lines n:Nat} {ids:List (List Int)} (hids:∀x∈ids,x.length≤B∧∀v∈x,Q v) {s:Loom} (h:LoomOk Q B lines n s) (p:Nat):LoomOk Q B lines n (p9 ids s p):=by
 have hf:(ids.getD (p+1) []).length≤B∧∀v∈ids.getD (p+1) [],Q v:=by
  rw [J06]
  cases hx:ids[p+1]? with
  | none=>simp
  | some x=>exact hids x (J22 hx)
 have hr:∀m∈s.1.map (S2 · (Q9 p)),0≤m∧m < 4294967296:=fun m hm=>by
  obtain ⟨v,_,rfl⟩:=List.mem_map.1 hm;exact E06 _
 have hc:=B28 (p:=p) (c8 (l5 (ids.getD (p+1) []) (ids.getD 0 [])) (ids.getD (p+1) []).length) hr
 exact { len:=by rw [p9];simp only;rw [hc.1,J35];exact h.len,marks:=hc.2,gaps:=A71 hf _ h.gaps }
theorem D15 (ids:List (List Int)) (lines n p:Nat):A32 ids lines n (p+1)=p9 ids (A32 ids lines n p) p:=by
 unfold A32;rw [J43,J42];rfl
theorem C84 {Q:Int→Prop} {B lines n:Nat} {ids:List (List Int)} (hids:∀x∈ids,x.length≤B∧∀v∈x,Q v):∀p,LoomOk Q B lines n (A32 ids lines n p)
 | 0=>I48 Q B lines n
 | p+1=>by rw [D15];exact E55 hids (C84 hids p) p
theorem G96 (l:List Str) (s:Str):∀k:Int,0≤k→s∈l→k≤S3 l s k∧S3 l s k < k+l.length:=by
 induction l with
 | nil=>intro k _ h;cases h
 | cons x r ih =>
  intro k hk h
  unfold S3
  by_cases hx:x=s
  ·rw [if_pos hx];simp;omega
  ·rw [if_neg hx]
   have:=ih (k+1) (by omega) (by rcases List.mem_cons.1 h with rfl | h;exact absurd rfl hx;exact h)
   simp only [J02];omega
theorem D37 (l:List Str):∀(out:List Str) (s:Str),s∈out∨s∈l→s∈l.foldl J5 out:=by
 induction l with
 | nil=>intro out s h;rcases h with h | h;exact h;cases h
 | cons x r ih =>
  intro out s h
  apply ih
  rcases h with h | h
  ·left;unfold J5;split;exact h;exact List.mem_append_left _ h
  ·rcases List.mem_cons.1 h with rfl | h
   ·left;unfold J5;split;assumption;simp
   ·exact .inr h
theorem G28 (fs:List (List Str)) (s:Str) (f:List Str) (hf:f∈fs) (hs:s∈f):s∈G2 fs:=D37 _ _ _ (.inr (List.mem_flatten.2 ⟨f,hf,hs⟩))
theorem ids_in (fs:List (List Str)):∀x∈fs.map (S7 (G2 fs)),∀v∈x,0≤v∧v < (G2 fs).length:=by
 intro x hx v hv
 obtain ⟨f,hf,rfl⟩:=List.mem_map.1 hx
 obtain ⟨s,hs,rfl⟩:=List.mem_map.1 hv
 have:=G96 (G2 fs) s 0 (Int.le_refl _) (G28 fs s f hf hs)
 omega
theorem D38 (l:List Str):∀(out:List Str) (s:Str),s∈l.foldl J5 out→s∈out∨s∈l:=by
 induction l with
 | nil=>intro out s h;exact .inl h
 | cons x r ih =>
  intro out s h
  rcases ih _ _ h with h | h
  ·unfold J5 at h
   split at h
   ·exact .inl h
   ·rcases List.mem_append.1 h with h | h
    ·exact .inl h
    ·simp at h;subst h;exact .inr (by simp)
  ·exact .inr (List.mem_cons_of_mem _ h)
theorem G29 (fs:List (List Str)) (s:Str) (h:s∈G2 fs):s∈fs.flatten:=by
 rcases D38 _ _ _ h with h | h
 ·cases h
 ·exact h
end Go.AL
namespace Go.AL
open Go
theorem C35 (s:Str):Lib.hasSuffix s [10]=ended s:=by
 unfold Lib.hasSuffix ended
 rw [Bool.eq_iff_iff,List.isSuffixOf_iff_suffix,beq_iff_eq]
 constructor
 ·rintro ⟨t,rfl⟩;simp
 ·intro h
  obtain ⟨hne,h2⟩:=List.getLast?_eq_some_iff.1 h
  exact ⟨hne,h2.symm⟩
def A72 (s:Str):Str:=if ended s then s.dropLast else s
theorem B75 (s:Str):Lib.trimSuffix s [10]=A72 s:=by
 unfold Lib.trimSuffix A72
 rw [C35,List.dropLast_eq_take];rfl
theorem Z3 (c:UInt8):∀l:Str,(c∉l∧Lib.indexByte l c = -1)∨∃a b,l=a++c::b∧c∉a∧Lib.indexByte l c=a.length
 | []=>.inl ⟨by simp,rfl⟩
 | x::l=>by
  unfold Lib.indexByte
  by_cases hx:x=c
  ·exact .inr ⟨[],l,by rw [hx];rfl,by simp,by simp [hx]⟩
  ·rcases Z3 c l with ⟨h1,h2⟩ | ⟨a,b,h1,h2,h3⟩
   ·exact .inl ⟨by simp [h1,Ne.symm hx],by simp [hx,h2]⟩
   ·refine .inr ⟨x::a,b,by rw [h1];rfl,by simp [h2,Ne.symm hx],?_⟩
    have h4:¬((a.length:Int) = -1):=by omega
    simp [hx,h3,h4]
theorem E56 (c:UInt8) (l:Str):0≤Lib.indexByte l c↔c∈l:=by
 rcases Z3 c l with ⟨h1,h2⟩ | ⟨a,b,h1,h2,h3⟩
 ·rw [h2];simp [h1]
 ·rw [h3,h1];simp
theorem B93 (s:Str):I0 s=true↔s≠[]∧10∉s.dropLast:=by
 unfold I0
 rw [J04,List.all_eq_true]
 constructor
 ·rintro ⟨h1,h2⟩
  exact ⟨by simpa using h2,fun h=>by have:=h1 10 h;simp at this⟩
 ·rintro ⟨h1,h2⟩
  exact ⟨fun x hx=>by simpa using fun e:x=10=>h2 (e ▸ hx),by simpa using h1⟩
theorem I49 (s:Str):10∈A72 s↔10∈s.dropLast:=by
 unfold A72
 split
 ·exact Iff.rfl
 ·rename_i h
  by_cases hs:s=[]
  ·subst hs;simp
  ·constructor
   ·intro h2
    have e:=(List.dropLast_concat_getLast hs).symm
    rw [e] at h2
    rcases List.mem_append.1 h2 with h3 | h3
    ·exact h3
    ·exfalso
     refine h ?_
     unfold ended
     rw [List.getLast?_eq_some_getLast hs]
     simp at h3;simp [←h3]
   ·exact fun h2=>List.dropLast_subset s h2
theorem H98 (s:Str):(if decide (s≠[])=true then !decide (0≤Lib.indexByte (A72 s) 10) else false)=I0 s:=by
 rw [Bool.eq_iff_iff,B93]
 have h:=I49 s
 have h2:=E56 10 (A72 s)
 by_cases hs:s=[]
 ·simp [hs]
 ·simp [hs,h2,h]
theorem G30 (s:Str) (r:List Str):Y4 (s::r)=(I0 s&&(r.isEmpty||ended s)&&Y4 r):=rfl
def G31 (a b:Int):Int:=IntKind.u32.wrap ((BitVec.ofInt IntKind.u32.bits a &&& BitVec.ofInt IntKind.u32.bits b).toNat:Int)
def not32 (a:Int):Int:=IntKind.u32.wrap ((BitVec.ofInt IntKind.u32.bits IntKind.u32.max ^^^ BitVec.ofInt IntKind.u32.bits a).toNat:Int)
theorem C85 (n c:Nat):A19 (n:Int) c=n.testBit c:=by
 unfold A19
 rw [Nat.testBit_eq_decide_div_mod_eq]
 have:((n:Int) / 2 ^ c % 2 == 1)=decide (n / 2 ^ c % 2=1):=by
  rw [Bool.eq_iff_iff,beq_iff_eq,decide_eq_true_iff]
  have e:(n:Int) / 2 ^ c % 2=((n / 2 ^ c % 2:Nat):Int):=by simp
  rw [e];omega
 exact this
theorem D44 (n:Nat) (h:n < 4294967296):IntKind.u32.wrap (n:Int)=n:=by simp [IntKind.wrap,IntKind.signed,IntKind.bits];omega
theorem C86 (n:Nat):BitVec.ofInt IntKind.u32.bits (n:Int)=BitVec.ofNat 32 n:=BitVec.ofInt_natCast 32 n
theorem H99 (n m:Nat) (hn:n < 4294967296) (hm:m < 4294967296):G31 n m=((n &&& m:Nat):Int):=by
 unfold G31
 rw [C86,C86]
 have e:(BitVec.ofNat 32 n &&& BitVec.ofNat 32 m).toNat=n &&& m:=by
  rw [BitVec.toNat_and,BitVec.toNat_ofNat,BitVec.toNat_ofNat,Nat.mod_eq_of_lt (by omega),Nat.mod_eq_of_lt (by omega)]
 have h2:n &&& m < 2 ^ 32:=Nat.and_lt_two_pow n (by omega)
 show IntKind.u32.wrap ((BitVec.ofNat 32 n &&& BitVec.ofNat 32 m).toNat:Int)=_
 rw [e,D44 _ (by omega)]
theorem C36 (n m:Nat) (hn:n < 4294967296) (hm:m < 4294967296):S2 n m=((n ||| m:Nat):Int)∧n ||| m < 4294967296:=by
 unfold S2
 rw [C86,C86]
 have e:(BitVec.ofNat 32 n ||| BitVec.ofNat 32 m).toNat=n ||| m:=by
  rw [BitVec.toNat_or,BitVec.toNat_ofNat,BitVec.toNat_ofNat,Nat.mod_eq_of_lt (by omega),Nat.mod_eq_of_lt (by omega)]
 have h2:n ||| m < 2 ^ 32:=Nat.or_lt_two_pow (by omega) (by omega)
 refine ⟨?_,by omega⟩
 show IntKind.u32.wrap ((BitVec.ofNat 32 n ||| BitVec.ofNat 32 m).toNat:Int)=_
 rw [e,D44 _ (by omega)]
theorem I00 (n:Nat) (hn:n < 4294967296):not32 n=((4294967295 ^^^ n:Nat):Int)∧4294967295 ^^^ n < 4294967296:=by
 unfold not32
 rw [C86,show IntKind.u32.max=((4294967295:Nat):Int) from rfl,C86]
 have e:(BitVec.ofNat 32 4294967295 ^^^ BitVec.ofNat 32 n).toNat=4294967295 ^^^ n:=by
  rw [BitVec.toNat_xor,BitVec.toNat_ofNat,BitVec.toNat_ofNat,Nat.mod_eq_of_lt (by omega),Nat.mod_eq_of_lt (by omega)]
 have h2:4294967295 ^^^ n < 2 ^ 32:=Nat.xor_lt_two_pow (by omega) (by omega)
 refine ⟨?_,by omega⟩
 show IntKind.u32.wrap ((BitVec.ofNat 32 4294967295 ^^^ BitVec.ofNat 32 n).toNat:Int)=_
 rw [e,D44 _ (by omega)]
theorem I50 (c:Nat) (h:c < 32):(4294967295:Nat).testBit c=true:=by
 have:(4294967295:Nat)=2 ^ 32 - 1:=rfl
 rw [this,Nat.testBit_two_pow_sub_one];simpa using h
def E57 (r:Row):Int:=if r.Lost then r.Marks else not32 r.Marks
def D16 (res:Bool) (par:Int) (r:Row):Bool:=decide (G31 par (E57 r)=0)&&(r.Lost||!res)
def B29 (res:Bool) (r:Row):Bool:=if ended r.Text then res else res||!r.Lost
def B30 (par:Int) (r:Row):Int:=if ended r.Text then par else S2 par (E57 r)
def S8:Bool→Int→List Row→Bool
 | _,_,[]=>true
 | res,par,r::rs=>I0 r.Text&&D16 res par r&&S8 (B29 res r) (B30 par r) rs
theorem G32 (r:Row) (hr:0≤r.Marks∧r.Marks < 4294967296):∃m:Nat,m < 4294967296∧E57 r=m∧∀c,c < 32→m.testBit c=Z9 r c:=by
 obtain ⟨k,hk⟩:∃k:Nat,r.Marks=k:=⟨r.Marks.toNat,by omega⟩
 have hv:∀c:Nat,c < 32→Z9 r c=(k.testBit c == r.Lost):=by
  intro c hc
  rw [Z9,if_neg (by omega),if_neg (by omega),hk,J09,C85]
 unfold E57
 cases hl:r.Lost
 ·have:=I00 k (by omega)
  refine ⟨4294967295 ^^^ k,this.2,by rw [if_neg (by simp),hk];exact this.1,fun c hc=>?_⟩
  rw [hv c hc,hl,Nat.testBit_xor,I50 c hc]
  cases k.testBit c<;>rfl
 ·refine ⟨k,by omega,by rw [if_pos rfl];exact hk,fun c hc=>?_⟩
  rw [hv c hc,hl]
  cases k.testBit c<;>rfl
theorem A73 (r:Row):Z9 r (-1)=!r.Lost:=by rw [Z9,if_pos rfl]
def Z4:Bool→List Str→Bool
 | _,[]=>true
 | b,s::r=>!b&&I0 s&&Z4 (!ended s) r
theorem F57 (l:List Str):Z4 true l=l.isEmpty:=by cases l<;>simp [Z4]
theorem G33 (l:List Str):Y4 l=Z4 false l:=by
 induction l with
 | nil=>rfl
 | cons s r ih =>
  rw [G30,ih,Z4]
  cases he:ended s
  ·rw [show (!false)=true from rfl,F57]
   cases r<;>simp [Z4]
  ·simp
structure EndsAt (res:Bool) (par:Int) (bad:Int→Bool):Prop where
 res:res=bad (-1)
 par:∃p:Nat,p < 4294967296∧par=p∧∀c:Nat,c < 32→p.testBit c=bad c
theorem I51 (n m:Nat) (hm:m < 4294967296):n &&& m=0↔∀c,c < 32→m.testBit c=true→n.testBit c=false:=by
 constructor
 ·intro h c hc hm1
  have:(n &&& m).testBit c=false:=by rw [h];simp
  rw [Nat.testBit_and,hm1] at this
  simpa using this
 ·intro h
  refine Nat.eq_of_testBit_eq fun c=>?_
  rw [Nat.testBit_and,Nat.zero_testBit]
  by_cases hc:c < 32
  ·cases hm1:m.testBit c
   ·simp
   ·rw [h c hc hm1];rfl
  ·have:m.testBit c=false:=Nat.testBit_lt_two_pow (Nat.lt_of_lt_of_le (by omega:m < 2 ^ 32) (Nat.pow_le_pow_right (by omega) (by omega)))
   rw [this];simp
theorem I01 {res:Bool} {par:Int} {bad:Int→Bool} (h:EndsAt res par bad) (r:Row) (hr:0≤r.Marks∧r.Marks < 4294967296):D16 res par r=true↔∀c:Int,-1≤c→c < 32→Z9 r c=true→bad c=false:=by
 obtain ⟨m,hm,he,hb⟩:=G32 r hr
 obtain ⟨p,hp,hpe,hpb⟩:=h.par
 unfold D16
 rw [he,hpe,H99 p m hp hm,J04,decide_eq_true_iff,show (((p &&& m:Nat):Int)=0)↔p &&& m=0 by omega,I51 p m hm]
 constructor
 ·rintro ⟨h1,h2⟩ c hc1 hc2 hv
  by_cases hc:c = -1
  ·subst hc
   rw [A73] at hv
   rw [←h.res]
   simpa [show r.Lost=false by simpa using hv] using h2
  ·obtain ⟨k,rfl⟩:∃k:Nat,c=k:=⟨c.toNat,by omega⟩
   rw [←hpb k (by omega)]
   exact h1 k (by omega) (by rw [hb k (by omega)];exact hv)
 ·intro h1
  refine ⟨fun c hc hm1=>?_,?_⟩
  ·rw [hpb c hc]
   exact h1 c (by omega) (by omega) (by rw [←hb c hc];exact hm1)
  ·cases hl:r.Lost
   ·have:=h1 (-1) (by omega) (by omega) (by rw [A73,hl];rfl)
    rw [h.res,this];rfl
   ·rfl
theorem I02 {res:Bool} {par:Int} {bad:Int→Bool} (h:EndsAt res par bad) (r:Row) (hr:0≤r.Marks∧r.Marks < 4294967296):EndsAt (B29 res r) (B30 par r) (fun c=>bad c||(Z9 r c&&!ended r.Text)):=by
 obtain ⟨m,hm,he,hb⟩:=G32 r hr
 obtain ⟨p,hp,hpe,hpb⟩:=h.par
 unfold B29 B30
 cases hen:ended r.Text
 ·have ho:=C36 p m hp hm
  refine ⟨?_,p ||| m,ho.2,?_,fun c hc=>?_⟩
  ·rw [if_neg (by simp),h.res,A73];simp
  ·rw [if_neg (by simp),he,hpe];exact ho.1
  ·rw [Nat.testBit_or,hpb c hc,hb c hc];simp
 ·refine ⟨?_,p,hp,?_,fun c hc=>?_⟩
  ·rw [if_pos rfl,h.res];simp
  ·rw [if_pos rfl];exact hpe
  ·rw [hpb c hc];simp
theorem B94 (r:Row) (rs:List Row) (c:Int):N8 (r::rs) c=if Z9 r c then r.Text::N8 rs c else N8 rs c:=by
 unfold N8
 cases hv:Z9 r c<;>simp [hv]
theorem E08:∀(rows:List Row) (res:Bool) (par:Int) (bad:Int→Bool),EndsAt res par bad→I8 rows→(S8 res par rows=true↔(∀r∈rows,I0 r.Text=true)∧∀c:Int,-1≤c→c < 32→Z4 (bad c) (N8 rows c)=true)
 | [],res,par,bad,_,_=>by simp [S8,N8,Z4]
 | r :: rs,res,par,bad,h,hr=>by
  have hr1:=hr r (by simp)
  have ih:=E08 rs _ _ _ (I02 h r hr1) (fun x hx=>hr x (by simp [hx]))
  rw [S8,J04,J04,I01 h r hr1,ih]
  constructor
  ·rintro ⟨⟨h1,h2⟩,h3,h4⟩
   refine ⟨fun x hx=>?_,fun c hc1 hc2=>?_⟩
   ·rcases List.mem_cons.1 hx with rfl | hx
    ·exact h1
    ·exact h3 x hx
   ·have h5:=h4 c hc1 hc2
    rw [B94]
    cases hv:Z9 r c
    ·rw [if_neg (by simp)];simpa [hv] using h5
    ·rw [if_pos rfl,Z4,h2 c hc1 hc2 hv,h1]
     rw [h2 c hc1 hc2 hv,hv] at h5
     simpa using h5
  ·rintro ⟨h1,h2⟩
   refine ⟨⟨h1 r (by simp),fun c hc1 hc2 hv=>?_⟩,fun x hx=>h1 x (by simp [hx]),fun c hc1 hc2=>?_⟩
   ·have h3:=h2 c hc1 hc2
    rw [B94,hv,if_pos rfl,Z4] at h3
    simp only [J04,Bool.not_eq_true'] at h3
    exact h3.1.1
   ·have h3:=h2 c hc1 hc2
    rw [B94] at h3
    cases hv:Z9 r c
    ·rw [hv,if_neg (by simp)] at h3;simpa using h3
    ·rw [hv,if_pos rfl,Z4] at h3
     simp only [J04,Bool.not_eq_true'] at h3
     rw [h3.1.1];simpa using h3.2
theorem ends0:EndsAt false 0 (fun _=>false):=⟨rfl,0,by omega,rfl,fun c _=>by simp⟩
theorem F58 (m:Int) (n c:Nat) (h0:0≤m) (h:m / 2 ^ n=0) (hc:n≤c):A19 m c=false:=by
 obtain ⟨k,rfl⟩:∃k:Nat,m=k:=⟨m.toNat,by omega⟩
 rw [C85]
 have h1:(k:Int) / 2 ^ n=((k / 2 ^ n:Nat):Int):=by simp
 rw [h1] at h
 have h2:k / 2 ^ n=0:=by omega
 have h3:k < 2 ^ n:=by
  rcases Nat.div_eq_zero_iff.1 h2 with h3 | h3
  ·have:=Nat.two_pow_pos n;omega
  ·exact h3
 exact Nat.testBit_lt_two_pow (Nat.lt_of_lt_of_le h3 (Nat.pow_le_pow_right (by omega) hc))
theorem F59 (rows:List Row) (n:Nat) (hm:M4 rows n=true) (hr:I8 rows) (c:Int) (h1:(n:Int)≤c) (h2:c < 32):N8 rows c=N8 rows (-1):=by
 unfold N8
 have:rows.filter (Z9 · c)=rows.filter (Z9 · (-1)):=by
  refine List.filter_congr fun r hmem=>?_
  have h3:X0 n r=true:=List.all_eq_true.1 hm r hmem
  unfold X0 at h3
  simp only [J04,beq_iff_eq] at h3
  have h4:=F58 r.Marks n c.toNat (hr r hmem).1 h3.1 (by omega)
  rw [A73,Z9,if_neg (by omega),if_neg (by omega),h4]
  cases r.Lost<;>rfl
 rw [this]
theorem G97 (rows:List Row) (n:Nat) (hn:n≤32) (hm:M4 rows n=true) (hr:I8 rows):S8 false 0 rows=l7 rows n:=by
 rw [Bool.eq_iff_iff,E08 rows false 0 _ ends0 hr,l7,J04,List.all_eq_true,List.all_eq_true]
 refine and_congr Iff.rfl ?_
 constructor
 ·intro h k hk
  have hk:=List.mem_range.1 hk
  rw [G33]
  exact h _ (by omega) (by omega)
 ·intro h c hc1 hc2
  have key:∀c:Int,-1≤c→c < n→Z4 false (N8 rows c)=true:=by
   intro c h1 h2
   have:=h (c+1).toNat (List.mem_range.2 (by omega))
   rw [show (((c+1).toNat:Nat):Int) - 1=c by omega,G33] at this
   exact this
  by_cases hcn:c < n
  ·exact key c hc1 hcn
  ·rw [F59 rows n hm hr c (by omega) hc2]
   exact key (-1) (by omega) (by omega)
end Go.AL
namespace Go.AL
open Go
def O8 (c:UInt8):Bool:=decide (33≤c.toNat∧c.toNat≤126∧c.toNat≠34∧c.toNat≠92)
def digs8:Str:=[48,49,50,51,52,53,54,55]
def digs10:Str:=[48,49,50,51,52,53,54,55,56,57]
def C37 (c:UInt8):Str:=(digs8.drop (c.toNat / 64)).take 1++(digs8.drop (c.toNat / 8 % 8)).take 1++(digs8.drop (c.toNat % 8)).take 1
def M7 (c:UInt8):Str:=if c.toNat=34∨c.toNat=92 then [92,c] else if c.toNat=10 then [92,110] else if c.toNat=9 then [92,116] else if c.toNat < 32∨126 < c.toNat then 92::C37 c else [c]
def H2 (s:Str):Str:=if s≠[]∧s.all O8=true then s else 34::((s.map M7).flatten++[34])
theorem F04 (c:UInt8):(C37 c).length≤3:=by unfold C37;simp only [J01,J15];omega
theorem F05 (c:UInt8):(M7 c).length≤4:=by
 have:=F04 c
 unfold M7;split
 ·simp
 ·split
  ·simp
  ·split
   ·simp
   ·split
    ·simp only [J02];omega
    ·simp
theorem C38 (s:Str):((s.map M7).flatten).length≤4*s.length:=by
 induction s with
 | nil=>simp
 | cons c r ih=>have:=F05 c;simp only [J08,J14,J01,J02];omega
theorem G34 (s:Str):(H2 s).length≤4*s.length+2:=by
 unfold H2;have:=C38 s
 split
 ·omega
 ·simp only [J02,J01,J05];omega
def H4 (n:Int):Str:=if n < 0∨2147483647 < n then [] else Lib.itoa n
def G4 (a n:Int):Str:=if a < 0∨n < 0∨2147483647 < a∨2147483647 - a < n then [] else if n=0 then H4 a++[44,48] else if n=1 then H4 (a+1) else H4 (a+1)++[44]++H4 n
theorem B76:∀(k u:Nat),u < 10 ^ (k+1)→(Lib.decDigits u).length≤k+1
 | 0,u,h=>by rw [Lib.decDigits,dif_pos (by omega)];simp
 | k+1,u,h=>by
  rw [Lib.decDigits]
  split
  ·simp
  ·have:=B76 k (u / 10) (by rw [Nat.div_lt_iff_lt_mul (by omega)];rw [Nat.pow_succ] at h;omega)
   simp only [J01,J02,J05];omega
theorem S9 (n:Int):(H4 n).length≤10:=by
 unfold H4;split
 ·simp
 ·unfold Lib.itoa
  rw [if_neg (by omega)]
  exact B76 9 n.toNat (by omega)
theorem A21 (a n:Int):(G4 a n).length≤21:=by
 have:=S9 a;have:=S9 (a+1);have:=S9 n
 unfold G4
 split
 ·simp
 ·split
  ·simp only [J01,J02,J05];omega
  ·split
   ·omega
   ·simp only [J01,J02,J05];omega
theorem dig10 (k:Nat) (h:k < 10):(digs10.drop k).take 1=[UInt8.ofNat (48+k)]:=by
 have:∀k:Fin 10,(digs10.drop k.1).take 1=[UInt8.ofNat (48+k.1)]:=by decide
 exact this ⟨k,h⟩
theorem I03 (n:Int) (h0:0≤n) (h:n < 10):H4 n=(digs10.drop n.toNat).take 1:=by
 unfold H4 Lib.itoa
 rw [if_neg (by omega),if_neg (by omega),dig10 _ (by omega),Lib.decDigits,dif_pos (by omega)]
theorem fmt_big (n:Int) (h0:10≤n) (h:n≤2147483647):H4 n=H4 (n / 10)++(digs10.drop (n % 10).toNat).take 1:=by
 unfold H4 Lib.itoa
 rw [if_neg (by omega),if_neg (by omega),if_neg (by omega),if_neg (by omega),dig10 _ (by omega),Lib.decDigits,dif_neg (by omega)]
 have e1:n.toNat / 10=(n / 10).toNat:=by omega
 have e2:n.toNat % 10=(n % 10).toNat:=by omega
 rw [e1,e2]
theorem dig8 (k:Nat) (h:k < 8):(digs8.drop k).take 1=[UInt8.ofNat (48+k)]:=by
 have:∀k:Fin 8,(digs8.drop k.1).take 1=[UInt8.ofNat (48+k.1)]:=by decide
 exact this ⟨k,h⟩
theorem A22 (c:UInt8):C37 c=[UInt8.ofNat (48+c.toNat / 64),UInt8.ofNat (48+c.toNat / 8 % 8),UInt8.ofNat (48+c.toNat % 8)]:=by
 have:=c.toNat_lt
 unfold C37
 rw [dig8 _ (by omega),dig8 _ (by omega),dig8 _ (by omega)];rfl
def escs (s:Str) (i:Nat):Str:=((s.take i).map M7).flatten
theorem I04 (s:Str):escs s 0=[]:=rfl
theorem F06 (s:Str) (i:Nat) (h:i < s.length):escs s (i+1)=escs s i++M7 s[i]:=by
 unfold escs;rw [J10 h,J17,J27];simp only [J08,J37,J14,J44,J25]
theorem G35 (s:Str) (i:Nat) (h:i≤s.length):(escs s i).length≤4*i:=by
 have:=C38 (s.take i);unfold escs;rw [J15] at this;omega
def plains (s:Str) (i:Nat):Bool:=decide (s≠[])&&(s.take i).all O8
theorem D17 (s:Str):plains s 0=decide (s≠[]):=by simp [plains]
theorem D18 (s:Str) (i:Nat) (h:i < s.length):plains s (i+1)=(plains s i&&O8 s[i]):=by
 unfold plains;rw [J10 h,List.all_append];simp only [List.all_cons,List.all_nil,Bool.and_true,Bool.and_assoc]
theorem A74 (s:Str):H2 s=if plains s s.length=true then s else (34::escs s s.length)++[34]:=by
 unfold H2 plains escs
 rw [J23]
 simp only [J04,decide_eq_true_eq,J32]
end Go.AL
namespace Go.AL
open Go
theorem E09 (s cur:Str):(G1 cur s).length=s.count 10+if s=[] then (if cur=[] then 0 else 1) else if ended s=true then 0 else 1:=by
 induction s generalizing cur with
 | nil=>by_cases h:cur=[]<;>simp [G1,h]
 | cons c r ih =>
  have he:ended (c::r)=if r=[] then c == 10 else ended r:=by
   cases r with
   | nil=>simp [ended]
   | cons d t=>simp [ended,List.getLast?_cons_cons]
  rw [G1,if_neg (List.cons_ne_nil _ _),he]
  by_cases hc:c=10
  ·subst hc
   rw [if_pos rfl,J02,ih,List.count_cons_self]
   by_cases hr:r=[]<;>simp [hr]
   omega
  ·rw [if_neg hc,ih,List.count_cons_of_ne hc]
   by_cases hr:r=[]<;>simp [hr,hc]
theorem E58 (s:Str):(C8 s).length=s.count 10+if s≠[]∧ended s=false then 1 else 0:=by
 unfold C8
 rw [E09]
 by_cases hs:s=[]<;>simp [hs]
 cases ended s<;>simp
theorem B49 {α:Type} (P:List α) (z x:α) (i:Nat) (h:P[i]?=some x):(P.take i++List.replicate (P.length - i) z).set i x=P.take (i+1)++List.replicate (P.length - (i+1)) z:=by
 obtain ⟨hi,hx⟩:=List.getElem?_eq_some_iff.1 h
 have hl:(P.take i).length=i:=by rw [J15];omega
 rw [List.set_append_right _ _ (by omega),hl,J52,show P.length - i=(P.length - (i+1))+1 by omega,List.replicate_succ,List.set_cons_zero,J10 hi,hx,J13]
 rfl
end Go.AL
namespace Go.AL
open Go
def M8 (n:Int):Prop:=0≤n∧n≤4096
instance (n:Int):Decidable (M8 n):=by unfold M8;exact inferInstance
def badC (k:Nat) (i j:Int) (c:Change):Prop:=((((((¬M8 c.Old∨¬M8 c.OldLen)∨¬M8 c.New)∨¬M8 c.NewLen)∨c.OldLen+c.NewLen=0)∨c.Old - i≠c.New - j)∨c.Old < i)∨(0 < (k:Int)∧c.Old=i)
instance (k:Nat) (i j:Int) (c:Change):Decidable (badC k i j c):=by unfold badC;exact inferInstance
def O0 (k:Nat) (i j:Int):List Change→Int→Int→Bool
 | [],m,n=>decide (¬(m - i≠n - j∨m < i))
 | c::r,m,n=>decide (¬badC k i j c)&&O0 (k+1) (c.Old+c.OldLen) (c.New+c.NewLen) r m n
def check8 (l:List Change) (m n:Int):Int:=if ¬M8 m∨¬M8 n then 80 else if O0 0 0 0 l m n=true then 0 else 80
def ScOk (i j:Int):List Change→Int→Int→Prop
 | [],m,n=>i≤m∧j≤n
 | c::r,m,n=>M8 c.Old∧M8 c.OldLen∧M8 c.New∧M8 c.NewLen∧i≤c.Old∧j≤c.New∧ScOk (c.Old+c.OldLen) (c.New+c.NewLen) r m n
theorem B31:∀(l:List Change) (k:Nat) (i j m n:Int),O0 k i j l m n=true→ScOk i j l m n
 | [],k,i,j,m,n,h=>by simp only [O0,decide_eq_true_eq] at h;simp only [ScOk];omega
 | c::r,k,i,j,m,n,h=>by
  simp only [O0,J04,decide_eq_true_eq] at h
  obtain ⟨h1,h2⟩:=h
  unfold badC at h1
  refine ⟨?_,?_,?_,?_,?_,?_,B31 r _ _ _ m n h2⟩
  all_goals (by_cases a1:M8 c.Old<;>by_cases a2:M8 c.OldLen<;>by_cases a3:M8 c.New<;>by_cases a4:M8 c.NewLen<;>simp [a1,a2,a3,a4] at h1 ⊢<;>omega)
def cAt (l:List Change) (k:Nat):Change:=l.getD k ⟨0,0,0,0⟩
theorem ScOk.end_le:∀{l:List Change} {i j m n:Int},ScOk i j l m n→i≤m∧j≤n
 | [],_,_,_,_,h=>h
 | c::r,i,j,m,n,⟨h1,h2,h3,h4,h5,h6,h7⟩=>by have:=h7.end_le;unfold M8 at *;omega
theorem ScOk.get:∀{l:List Change} {i j m n:Int} (k:Nat),ScOk i j l m n→k < l.length→M8 (cAt l k).Old∧M8 (cAt l k).OldLen∧M8 (cAt l k).New∧M8 (cAt l k).NewLen∧(cAt l k).Old+(cAt l k).OldLen≤m∧(cAt l k).New+(cAt l k).NewLen≤n
 | c::r,i,j,m,n,0,⟨h1,h2,h3,h4,h5,h6,h7⟩,_=>by have:=h7.end_le;exact ⟨h1,h2,h3,h4,this.1,this.2⟩
 | c::r,i,j,m,n,k+1,⟨h1,h2,h3,h4,h5,h6,h7⟩,hk=>by
  have:=h7.get k (by simpa using hk)
  simpa [cAt] using this
theorem ScOk.next:∀{l:List Change} {i j m n:Int} (k:Nat),ScOk i j l m n→k+1 < l.length→(cAt l k).Old+(cAt l k).OldLen≤(cAt l (k+1)).Old
 | [c],_,_,_,_,_,_,hk=>by simp at hk
 | c::c2::r,i,j,m,n,0,⟨_,_,_,_,_,_,h7⟩,_=>by simpa [cAt] using h7.2.2.2.2.1
 | c::c2::r,i,j,m,n,k+1,⟨_,_,_,_,_,_,h7⟩,hk=>by
  have:=h7.next k (by simpa using hk)
  simpa [cAt] using this
theorem ScOk.mono {l:List Change} {m n:Int} (h:ScOk 0 0 l m n):∀(a b:Nat),a≤b→b < l.length→(cAt l a).Old≤(cAt l b).Old∧(cAt l a).Old+(cAt l a).OldLen≤(cAt l b).Old+(cAt l b).OldLen
 | a,0,h1,h2=>by rw [show a=0 by omega];omega
 | a,b+1,h1,h2=>by
  by_cases hab:a=b+1
  ·subst hab;omega
  ·have h3:=h.mono a b (by omega) (by omega)
   have h4:=h.next b h2
   have h5:=h.get b (by omega)
   have h6:=h.get (b+1) h2
   unfold M8 at *;omega
def F60 (a b:Int):Int:=if b < a then b else a
def opens (l:List Change) (ctx:Int) (k:Nat):Prop:=k=0∨2*ctx < (cAt l k).Old - (cAt l (k - 1)).Old - (cAt l (k - 1)).OldLen
instance (l:List Change) (ctx:Int) (k:Nat):Decidable (opens l ctx k):=by unfold opens;exact inferInstance
def H40:Hunk:=⟨0,0,⟨0,0⟩,⟨0,0⟩⟩
def A47 (l:List Change) (ctx:Int) (k:Nat):Hunk:=⟨k,0,⟨(cAt l k).Old - F60 ctx (cAt l k).Old,0⟩,⟨(cAt l k).New - F60 ctx (cAt l k).Old,0⟩⟩
def C39 (l:List Change) (m ctx:Int) (k:Nat) (h:Hunk):Hunk :=
 let c:=cAt l k
 let a:=F60 ctx (m - (c.Old+c.OldLen))
 ⟨h.First,k+1,⟨h.Old.From,c.Old+c.OldLen+a⟩,⟨h.New.From,c.New+c.NewLen+a⟩⟩
def C87 (l:List Change) (ctx:Int) (k:Nat) (out:List Hunk):List Hunk:=if opens l ctx k then out++[A47 l ctx k] else out
def V8 (l:List Change) (m ctx:Int):Nat→List Hunk
 | 0=>[]
 | k+1=>let out:=C87 l ctx k (V8 l m ctx k);out.set (out.length - 1) (C39 l m ctx k (out.getD (out.length - 1) H40))
theorem D19 (l:List Change) (m ctx:Int):∀k,(V8 l m ctx k).length≤k∧(0 < k→0 < (V8 l m ctx k).length)
 | 0=>by simp [V8]
 | k+1=>by
  have h:=D19 l m ctx k
  simp only [V8,List.length_set,C87]
  split
  ·simp only [J01,J02,J05];omega
  ·rename_i ho
   have:k≠0:=fun e=>ho (.inl e)
   omega
end Go.AL
namespace Go.AL
open Go
def T0 (s:Str):Bool:=decide (1≤s.length∧s.length≤200)
def F9 (ls:List PatchLine) (k:UInt8):List Str:=(ls.filter (fun x=>decide (x.Kind≠k))).map (·.Text)
def badLn (x:PatchLine):Prop:=((x.Kind≠32∧x.Kind≠45)∧x.Kind≠43)∨I0 x.Text=false
instance (x:PatchLine):Decidable (badLn x):=by unfold badLn;exact inferInstance
def B95 (x:PatchLine):Bool:=decide (¬badLn x)
def A33 (ls:List PatchLine):Bool:=ls.any (fun x=>decide (x.Kind≠32))
def C40 (some:Bool) (i j:Int) (h:PatchHunk):Prop:=((((some=false∨h.Old < i)∨h.New < j)∨4096 < h.Old)∨4096 < h.New)∨h.Old - i≠h.New - j
instance (s:Bool) (i j:Int) (h:PatchHunk):Decidable (C40 s i j h):=by unfold C40;exact inferInstance
def A48 (h:PatchHunk):Int:=(F9 h.Lines 43).length
def A49 (h:PatchHunk):Int:=(F9 h.Lines 45).length
def C88 (i j:Int):List PatchHunk→Bool
 | []=>true
 | h::r=>h.Lines.all B95&&(decide (¬C40 (A33 h.Lines) i j h)&&(decide (¬(4096 < h.Old+A48 h∨4096 < h.New+A49 h))&&C88 (h.Old+A48 h) (h.New+A49 h) r))
def L7 (hs:List PatchHunk) (k:UInt8):List Str:=(hs.map (fun h=>F9 h.Lines k)).flatten
def X1:List Str→Bool
 | []=>true
 | x::r=>(r.isEmpty||ended x)&&X1 r
def G98 (hs:List PatchHunk) (k:UInt8):Bool:=X1 (L7 hs k)
def C89 (hs:List PatchHunk):Bool:=C88 0 0 hs&&(G98 hs 43&&G98 hs 45)
def markS:Str:=[10,92,32,78,111,32,110,101,119,108,105,110,101,32,97,116,32,101,110,100,32,111,102,32,102,105,108,101,10]
def linePs (x:PatchLine):List Str:=if ended x.Text then [[x.Kind]++x.Text] else [[x.Kind]++x.Text,markS]
def headW (h:PatchHunk):Str:=[64,64,32,45]++G4 h.Old (A48 h)++[32,43]++G4 h.New (A49 h)++[32,64,64,10]
def hunkPs (h:PatchHunk):List Str:=headW h::(h.Lines.map linePs).flatten
def namePs (p:Patch):List Str:=[[45,45,45,32]++H2 p.OldName++[10],[43,43,43,32]++H2 p.NewName++[10]]
def writePs (p:Patch):List Str:=namePs p++(p.Hunks.map hunkPs).flatten
def H41 (p:Patch):Str:=(writePs p).flatten
def C41 (p:Patch):Int:=if T0 p.OldName=false∨T0 p.NewName=false then 120 else if C89 p.Hunks=false then 121 else if 16777216 < (H41 p).length then 1 else 0
def szL (x:PatchLine):Nat:=x.Text.length+64
def szH (h:PatchHunk):Nat:=64+(h.Lines.map szL).sum
def szP (hs:List PatchHunk):Nat:=(hs.map szH).sum
structure PFit (p:Patch):Prop where
 old:p.OldName.length≤4194304
 new:p.NewName.length≤4194304
 hunks:szP p.Hunks≤268435456
theorem szL_len (ls:List PatchLine):64*ls.length≤(ls.map szL).sum:=by
 induction ls with
 | nil=>simp
 | cons x r ih=>simp only [J08,J28,J02,szL];omega
end Go.AL
namespace Go.AL
open Go
def A23 (k:UInt8) (ts:List Str):List PatchLine:=ts.map fun t=>⟨k,t⟩
def sub (x:List Str) (a b:Int):List Str:=(x.drop a.toNat).take (b.toNat - a.toNat)
def A99 (c:Change):Int:=c.Old+c.OldLen
def A24 (l:List Change) (i0:Int) (a t:Nat):Int:=if t=0 then i0 else A99 (cAt l (a+t - 1))
theorem G99 (l:List Change) (i0:Int) (a t:Nat):A24 l i0 a (t+1)=A99 (cAt l (a+t)):=by
 unfold A24;rw [if_neg (by omega)];congr 2
def x3 (l:List Change) (x y:List Str) (i0:Int) (a:Nat):Nat→List PatchLine
 | 0=>[]
 | t+1=>x3 l x y i0 a t++A23 32 (sub x (A24 l i0 a t) (cAt l (a+t)).Old)++A23 45 (sub x (cAt l (a+t)).Old (A99 (cAt l (a+t))))++A23 43 (sub y (cAt l (a+t)).New ((cAt l (a+t)).New+(cAt l (a+t)).NewLen))
def V9 (l:List Change) (x y:List Str) (h:Hunk):PatchHunk :=
 ⟨h.Old.From,h.New.From,x3 l x y h.Old.From h.First.toNat (h.Last.toNat - h.First.toNat)++A23 32 (sub x (A24 l h.Old.From h.First.toNat (h.Last.toNat - h.First.toNat)) h.Old.To)⟩
end Go.AL
namespace Go.AL
open Go
end Go.AL
namespace Go.AL
open Go
def G36 (i j:Int) (h:PatchHunk):Prop:=((((h.Old < 0∨h.New < 0)∨4096 < h.Old)∨4096 < h.New)∨h.Old < i)∨h.Old - i≠h.New - j
instance (i j:Int) (h:PatchHunk):Decidable (G36 i j h):=by unfold G36;exact inferInstance
end Go.AL
namespace Go.AL
open Go
theorem textsLen_le (rows:List Row) (B:Nat) (h:∀r∈rows,r.Text.length≤B):N9 rows≤rows.length*B:=by
 unfold N9
 induction rows with
 | nil=>simp
 | cons r rs ih =>
  have h1:=ih fun x hx=>h x (by simp [hx])
  have h2:=h r (by simp)
  simp only [J08,J14,J01,J02,J30,Nat.one_mul]
  omega
theorem G37 (b s:Str) (h:s∈C8 b):s.length≤b.length:=by
 have h1:(C8 b).flatten=b:=by
  have key:∀(s cur:Str),(G1 cur s).flatten=cur++s:=by
   intro s
   induction s with
   | nil=>intro cur;unfold G1;split<;>simp [*]
   | cons c r ih=>intro cur;unfold G1;split<;>simp [ih]
  exact key b []
 have h2:∀(l:List Str),s∈l→s.length≤l.flatten.length:=by
  intro l
  induction l with
  | nil=>intro h;cases h
  | cons x r ih =>
   intro h
   rcases List.mem_cons.1 h with rfl | h
   ·simp
   ·have:=ih h;simp only [J14,J01];omega
 have:=h2 _ h;rw [h1] at this;exact this
end Go.AL
namespace Go.AL
open Go
theorem D45 {x:List Str} {a b:Int} {s:Str} (h:s∈sub x a b):s∈x:=by
 unfold sub at h
 exact List.mem_of_mem_drop (List.mem_of_mem_take h)
end Go.AL
namespace Go.AL
open Go
def F61 (c:Change):Int:=c.New+c.NewLen
def eoI (i:Int) (l:List Change) (k:Nat):Int:=if k=0 then i else A99 (cAt l (k - 1))
def enI (j:Int) (l:List Change) (k:Nat):Int:=if k=0 then j else F61 (cAt l (k - 1))
theorem u6 (i:Int) (c:Change) (r:List Change) (k:Nat):eoI i (c::r) (k+1)=eoI (A99 c) r k:=by
 cases k<;>rfl
theorem u7 (j:Int) (c:Change) (r:List Change) (k:Nat):enI j (c::r) (k+1)=enI (F61 c) r k:=by
 cases k<;>rfl
theorem B32 (i:Int) (l:List Change) (k:Nat):eoI i l (k+1)=A99 (cAt l k):=rfl
theorem B33 (j:Int) (l:List Change) (k:Nat):enI j l (k+1)=F61 (cAt l k):=rfl
theorem C42 (c:Change) (r:List Change) (k:Nat):cAt (c::r) (k+1)=cAt r k:=rfl
def C90 (x y:List Str) (i j:Int):List Change→Prop
 | []=>sub x i x.length=sub y j y.length
 | c::r=>sub x i c.Old=sub y j c.New∧C90 x y (A99 c) (F61 c) r
theorem x4 (m n:Int):∀(l:List Change) (k0:Nat) (i j:Int),O0 k0 i j l m n=true→∀k,k < l.length →
  M8 (cAt l k).Old∧M8 (cAt l k).OldLen∧M8 (cAt l k).New∧M8 (cAt l k).NewLen∧(cAt l k).OldLen+(cAt l k).NewLen≠0∧(cAt l k).Old - eoI i l k=(cAt l k).New - enI j l k∧eoI i l k≤(cAt l k).Old∧(0 < k0+k→eoI i l k < (cAt l k).Old)
 | [],_,_,_,_,k,hk=>by simp at hk
 | c :: r,k0,i,j,h,k,hk=>by
  simp only [O0,J04,decide_eq_true_eq] at h
  obtain ⟨h1,h2⟩:=h
  cases k with
  | zero =>
   unfold badC at h1
   show M8 c.Old∧M8 c.OldLen∧M8 c.New∧M8 c.NewLen∧c.OldLen+c.NewLen≠0∧c.Old - i=c.New - j∧i≤c.Old∧(0 < k0+0→i < c.Old)
   have d1:M8 c.Old:=by by_cases q:M8 c.Old;exact q;exact absurd (.inl (.inl (.inl (.inl (.inl (.inl (.inl q))))))) h1
   have d2:M8 c.OldLen:=by by_cases q:M8 c.OldLen;exact q;exact absurd (.inl (.inl (.inl (.inl (.inl (.inl (.inr q))))))) h1
   have d3:M8 c.New:=by by_cases q:M8 c.New;exact q;exact absurd (.inl (.inl (.inl (.inl (.inl (.inr q)))))) h1
   have d4:M8 c.NewLen:=by by_cases q:M8 c.NewLen;exact q;exact absurd (.inl (.inl (.inl (.inl (.inr q))))) h1
   refine ⟨d1,d2,d3,d4,fun q=>h1 (.inl (.inl (.inl (.inr q)))),?_,?_,fun h0=>?_⟩
   ·by_cases q:c.Old - i=c.New - j
    ·exact q
    ·exact absurd (.inl (.inl (.inr q))) h1
   ·by_cases q:c.Old < i
    ·exact absurd (.inl (.inr q)) h1
    ·omega
   ·by_cases q:c.Old < i
    ·exact absurd (.inl (.inr q)) h1
    ·by_cases q2:c.Old=i
     ·exact absurd (.inr ⟨by omega,q2⟩) h1
     ·omega
  | succ k =>
   have:=x4 m n r (k0+1) _ _ h2 k (by simpa using hk)
   rw [C42,u6,u7]
   obtain ⟨e1,e2,e3,e4,e5,e6,e7,e8⟩:=this
   exact ⟨e1,e2,e3,e4,e5,e6,e7,fun h0=>e8 (by omega)⟩
theorem F62 (m n:Int):∀(l:List Change) (k0:Nat) (i j:Int),O0 k0 i j l m n=true→m - eoI i l l.length=n - enI j l l.length∧eoI i l l.length≤m
 | [],_,i,j,h=>by
  simp only [O0,decide_eq_true_eq] at h
  show m - i=n - j∧i≤m
  omega
 | c::r,k0,i,j,h=>by
  simp only [O0,J04,decide_eq_true_eq] at h
  rw [J02,u6,u7]
  exact F62 m n r _ _ _ h.2
theorem E10 (x y:List Str):∀(l:List Change) (i j:Int),C90 x y i j l→∀k,k < l.length→sub x (eoI i l k) (cAt l k).Old=sub y (enI j l k) (cAt l k).New
 | [],_,_,_,k,hk=>by simp at hk
 | c::r,i,j,h,k,hk=>by
  cases k with
  | zero=>exact h.1
  | succ k=>rw [u6,u7,C42];exact E10 x y r _ _ h.2 k (by simpa using hk)
theorem F63 (x y:List Str):∀(l:List Change) (i j:Int),C90 x y i j l→sub x (eoI i l l.length) x.length=sub y (enI j l l.length) y.length
 | [],_,_,h=>h
 | c::r,i,j,h=>by rw [J02,u6,u7];exact F63 x y r _ _ h.2
def mkH (l:List Change) (m ctx:Int) (a b:Nat):Hunk:=C39 l m ctx (b - 1) (A47 l ctx a)
def GrOk (l:List Change) (m ctx:Int):Nat→List Hunk→Nat→Prop
 | a,[],k=>a=k
 | a,h::r,k=>∃b,a < b∧opens l ctx a∧h=mkH l m ctx a b∧GrOk l m ctx b r k
theorem GrOk.le {l:List Change} {m ctx:Int}:∀{hs:List Hunk} {a k:Nat},GrOk l m ctx a hs k→a≤k
 | [],a,k,h=>Nat.le_of_eq h
 | _::_,a,k,⟨b,h1,_,_,h2⟩=>by have:=GrOk.le h2;omega
theorem GrOk.snoc {l:List Change} {m ctx:Int} {k:Nat} (ho:opens l ctx k):∀{hs:List Hunk} {a:Nat},GrOk l m ctx a hs k→GrOk l m ctx a (hs++[mkH l m ctx k (k+1)]) (k+1)
 | [],a,h=>by
  obtain rfl:a=k:=h
  exact ⟨a+1,by omega,ho,rfl,rfl⟩
 | _::_,a,⟨b,h1,h2,h3,h4⟩=>⟨b,h1,h2,h3,GrOk.snoc ho h4⟩
theorem GrOk.last {l:List Change} {m ctx:Int} {k:Nat}:∀{hs:List Hunk} {a:Nat},GrOk l m ctx a hs k→hs≠[]→GrOk l m ctx a (hs.set (hs.length - 1) (C39 l m ctx k (hs.getD (hs.length - 1) H40))) (k+1)
 | [],_,_,h0=>absurd rfl h0
 | [h],a,⟨b,h1,h2,h3,h4⟩,_=>by
  obtain rfl:b=k:=h4
  subst h3
  exact ⟨b+1,by omega,h2,rfl,rfl⟩
 | h::h'::r,a,⟨b,h1,h2,h3,h4⟩,_=>by
  have ih:=GrOk.last h4 (by simp)
  refine ⟨b,h1,h2,h3,?_⟩
  simpa using ih
theorem A75 (l:List Change) (m ctx:Int):∀k,GrOk l m ctx 0 (V8 l m ctx k) k
 | 0=>rfl
 | k+1=>by
  have ih:=A75 l m ctx k
  have hne:=(D19 l m ctx k).2
  simp only [V8,C87]
  by_cases ho:opens l ctx k
  ·rw [if_pos ho]
   have e:(V8 l m ctx k++[A47 l ctx k]).set ((V8 l m ctx k++[A47 l ctx k]).length - 1) (C39 l m ctx k ((V8 l m ctx k++[A47 l ctx k]).getD ((V8 l m ctx k++[A47 l ctx k]).length - 1) H40))=V8 l m ctx k++[mkH l m ctx k (k+1)]:=by
    simp [mkH]
   rw [e]
   exact ih.snoc ho
  ·rw [if_neg ho]
   refine ih.last ?_
   have:k≠0:=fun e=>ho (.inl e)
   have:=hne (by omega)
   intro e;rw [e] at this;simp at this
theorem A76 (x:List Str) {a b c:Int} (h0:0≤a) (h1:a≤b) (h2:b≤c):sub x a b++sub x b c=sub x a c:=by
 unfold sub
 obtain ⟨u,rfl⟩:∃u:Nat,(u:Int)=a:=⟨a.toNat,by omega⟩
 obtain ⟨v,rfl⟩:∃v:Nat,(v:Int)=b:=⟨b.toNat,by omega⟩
 obtain ⟨w,rfl⟩:∃w:Nat,(w:Int)=c:=⟨c.toNat,by omega⟩
 simp only [J09]
 have h3:x.drop v=(x.drop u).drop (v - u):=by rw [List.drop_drop];congr 1;omega
 rw [h3,show w - u=(v - u)+(w - v) by omega,List.take_add]
theorem H42 (x:List Str) (a:Int):sub x a a=[]:=by simp [sub]
theorem A77 (x:List Str) {a b:Int} (h0:0≤a) (h1:a≤b) (h2:b≤x.length):((sub x a b).length:Int)=b - a:=by
 unfold sub;rw [J15,J12];omega
theorem B34 {x y:List Str} {p q p' q' e:Int} (h:sub x p q=sub y p' q') (h0:0≤p) (h0':0≤p') (he:0≤e) (h1:e≤q - p) (h2:q - p=q' - p'):sub x (q - e) q=sub y (q' - e) q':=by
 have key:∀(z:List Str) (a b:Int),0≤a→e≤b - a→sub z (b - e) b=(sub z a b).drop (b - a - e).toNat:=by
  intro z a b ha hb
  unfold sub
  rw [List.drop_take,List.drop_drop]
  congr 1
  ·omega
  ·congr 1;omega
 rw [key x p q h0 h1,key y p' q' h0' (by omega),h,h2]
theorem E11 {x y:List Str} {p q p' q' e:Int} (h:sub x p q=sub y p' q') (h0:0≤p) (h0':0≤p') (he:0≤e) (h1:e≤q - p) (h2:q - p=q' - p'):sub x p (p+e)=sub y p' (p'+e):=by
 have key:∀(z:List Str) (a b:Int),0≤a→e≤b - a→sub z a (a+e)=(sub z a b).take e.toNat:=by
  intro z a b ha hb
  unfold sub
  rw [List.take_take]
  congr 1
  omega
 rw [key x p q h0 h1,key y p' q' h0' (by omega),h]
theorem A78 (p q:List PatchLine) (k:UInt8):F9 (p++q) k=F9 p k++F9 q k:=by simp [F9]
theorem A79 (k k':UInt8) (ts:List Str):F9 (A23 k ts) k'=if k=k' then [] else ts:=by
 unfold F9 A23
 by_cases h:k=k'
 ·rw [if_pos h];subst h
  simp [List.filter_eq_nil_iff]
 ·rw [if_neg h]
  rw [List.filter_eq_self.2 (by simp [h])]
  simp [Function.comp_def]
structure ScFit (x y:List Str) (l:List Change):Prop where
 lx:(x.length:Int)≤4096
 ly:(y.length:Int)≤4096
 sc:O0 0 0 0 l x.length y.length=true
 eq:C90 x y 0 0 l
section
variable {x y:List Str} {l:List Change}
theorem ScFit.ok (h:ScFit x y l):ScOk 0 0 l x.length y.length:=B31 _ _ _ _ _ _ h.sc
theorem ScFit.check (h:ScFit x y l):check8 l x.length y.length=0:=by
 have h1:=h.lx
 have h2:=h.ly
 unfold check8
 rw [if_neg (by unfold M8;omega),if_pos h.sc]
theorem ScFit.nn (h:ScFit x y l) (k:Nat) (hk:k≤l.length):0≤eoI 0 l k∧0≤enI 0 l k∧eoI 0 l k≤x.length∧enI 0 l k≤y.length:=by
 cases k with
 | zero=>exact ⟨Int.le_refl _,Int.le_refl _,Int.natCast_nonneg _,Int.natCast_nonneg _⟩
 | succ k =>
  obtain ⟨⟨a1,a2⟩,⟨b1,b2⟩,⟨c1,c2⟩,⟨d1,d2⟩,h5,h6⟩:=h.ok.get k (by omega)
  rw [B32,B33];unfold A99 F61
  omega
def eA (l:List Change) (ctx:Int) (a:Nat):Int:=F60 ctx (cAt l a).Old
def eB (l:List Change) (m ctx:Int) (b:Nat):Int:=F60 ctx (m - eoI 0 l b)
theorem H43 {a b:Int} (h:0≤a) (h':0≤b):0≤F60 a b∧F60 a b≤a∧F60 a b≤b:=by unfold F60;split<;>omega
theorem B50 {ctx:Int} {a:Nat} (ho:opens l ctx a) (ha:a≠0):2*ctx < (cAt l a).Old - eoI 0 l a:=by
 rcases ho with h | h
 ·exact absurd h ha
 ·unfold eoI;rw [if_neg ha];unfold A99;omega
theorem ScFit.before (h:ScFit x y l) {ctx:Int} (hc:0≤ctx) {a:Nat} (ha:a < l.length) (ho:opens l ctx a) :
  0≤eA l ctx a∧eA l ctx a≤ctx∧eA l ctx a≤(cAt l a).Old - eoI 0 l a:=by
 obtain ⟨⟨a1,a2⟩,_⟩:=h.ok.get a ha
 have h3:=H43 hc a1
 unfold eA
 by_cases h0:a=0
 ·subst h0
  show _∧_∧_≤(cAt l 0).Old - 0
  omega
 ·have:=B50 ho h0;omega
theorem ScFit.after (h:ScFit x y l) {ctx:Int} (hc:0≤ctx) {b:Nat} (hb:b≤l.length) (ho:b < l.length→opens l ctx b) (hb0:b≠0) :
  0≤eB l x.length ctx b∧eB l x.length ctx b≤ctx∧eoI 0 l b+eB l x.length ctx b≤x.length∧enI 0 l b+eB l x.length ctx b≤y.length ∧
   sub x (eoI 0 l b) (eoI 0 l b+eB l x.length ctx b)=sub y (enI 0 l b) (enI 0 l b+eB l x.length ctx b):=by
 obtain ⟨h1,h2,h3,h4⟩:=h.nn b hb
 have h5:=H43 hc (show 0≤(x.length:Int) - eoI 0 l b by omega)
 unfold eB
 rcases Nat.lt_or_ge b l.length with hlt | hge
 ·obtain ⟨g1,g2,g3,g4,g5,g6,g7,g8⟩:=x4 _ _ _ _ _ _ h.sc b hlt
  obtain ⟨⟨a1,a2⟩,⟨b1,b2⟩,⟨c1,c2⟩,⟨d1,d2⟩,k5,k6⟩:=h.ok.get b hlt
  have hg:=B50 (ho hlt) hb0
  refine ⟨h5.1,h5.2.1,by omega,by omega,E11 (E10 x y l 0 0 h.eq b hlt) h1 h2 h5.1 (by omega) (by omega)⟩
 ·have e:b=l.length:=by omega
  subst e
  obtain ⟨g1,g2⟩:=F62 _ _ _ _ _ _ h.sc
  refine ⟨h5.1,h5.2.1,by omega,by omega,E11 (F63 x y l 0 0 h.eq) h1 h2 h5.1 (by omega) (by omega)⟩
def F64 (l:List Change) (j0:Int) (a t:Nat):Int:=if t=0 then j0 else F61 (cAt l (a+t - 1))
theorem E12 (i0:Int) (a t:Nat) (ht:t≠0):A24 l i0 a t=eoI 0 l (a+t):=by
 unfold A24 eoI;rw [if_neg ht,if_neg (by omega)]
theorem H44 (j0:Int) (a t:Nat) (ht:t≠0):F64 l j0 a t=enI 0 l (a+t):=by
 unfold F64 enI;rw [if_neg ht,if_neg (by omega)]
theorem ScFit.made (h:ScFit x y l) {ctx:Int} (hc:0≤ctx) {a:Nat} (ho:opens l ctx a):∀t,a+t≤l.length→(t=0→a < l.length) →
  F9 (x3 l x y ((cAt l a).Old - eA l ctx a) a t) 43=sub x ((cAt l a).Old - eA l ctx a) (A24 l ((cAt l a).Old - eA l ctx a) a t) ∧
  F9 (x3 l x y ((cAt l a).Old - eA l ctx a) a t) 45=sub y ((cAt l a).New - eA l ctx a) (F64 l ((cAt l a).New - eA l ctx a) a t)
 | 0,_,_=>by
  unfold A24 F64
  rw [if_pos rfl,if_pos rfl,H42,H42]
  exact ⟨rfl,rfl⟩
 | t + 1,hl,_=>by
  have hlt:a+t < l.length:=by omega
  have hla:a < l.length:=by omega
  obtain ⟨ih1,ih2⟩:=ScFit.made h hc ho t (by omega) (fun _=>hla)
  obtain ⟨q1,q2,q3⟩:=h.before hc hla ho
  obtain ⟨p1,p2,p3,p4⟩:=h.nn (a+t) (by omega)
  obtain ⟨r1,r2,r3,r4⟩:=h.nn a (by omega)
  obtain ⟨g1,g2,g3,g4,g5,g6,g7,g8⟩:=x4 _ _ _ _ _ _ h.sc (a+t) hlt
  obtain ⟨k1,⟨k2,k2'⟩,k3,⟨k4,k4'⟩,k5,k6,k7,k8⟩:=x4 _ _ _ _ _ _ h.sc a hla
  obtain ⟨⟨a1,a2⟩,⟨b1,b2⟩,⟨c1,c2⟩,⟨d1,d2⟩,w5,w6⟩:=h.ok.get (a+t) hlt
  have hrun:sub x (A24 l ((cAt l a).Old - eA l ctx a) a t) (cAt l (a+t)).Old=sub y (F64 l ((cAt l a).New - eA l ctx a) a t) (cAt l (a+t)).New ∧
    (cAt l a).Old - eA l ctx a≤A24 l ((cAt l a).Old - eA l ctx a) a t∧A24 l ((cAt l a).Old - eA l ctx a) a t≤(cAt l (a+t)).Old ∧
    (cAt l a).New - eA l ctx a≤F64 l ((cAt l a).New - eA l ctx a) a t∧F64 l ((cAt l a).New - eA l ctx a) a t≤(cAt l (a+t)).New:=by
   have hrun:=E10 x y l 0 0 h.eq (a+t) hlt
   by_cases ht:t=0
   ·subst ht
    unfold A24 F64
    rw [if_pos rfl,if_pos rfl]
    rw [show a+0=a from rfl] at *
    exact ⟨B34 hrun r1 r2 q1 (by omega) (by omega),by omega,by omega,by omega,by omega⟩
   ·rw [E12 _ _ _ ht,H44 _ _ _ ht]
    have m1:=h.ok.mono a (a+t - 1) (by omega) (by omega)
    have m2:eoI 0 l (a+t)=(cAt l (a+t - 1)).Old+(cAt l (a+t - 1)).OldLen:=by unfold eoI;rw [if_neg (by omega)];rfl
    have m4:∀u,u≤t→(cAt l a).New≤enI 0 l (a+u)∨u=0:=by
     intro u
     induction u with
     | zero=>exact fun _=>.inr rfl
     | succ u ihu =>
      intro hu
      obtain ⟨e1,e2,⟨e3,e3'⟩,⟨e4,e4'⟩,e5,e6,e7,e8⟩:=x4 _ _ _ _ _ _ h.sc (a+u) (by omega)
      have e9:enI 0 l (a+(u+1))=(cAt l (a+u)).New+(cAt l (a+u)).NewLen:=rfl
      rcases ihu (by omega) with h' | h'
      ·left;omega
      ·left;subst h';rw [e9];show (cAt l a).New≤(cAt l a).New+(cAt l a).NewLen;exact Int.le_add_of_nonneg_right e4
    have m5:=(m4 t (Nat.le_refl _)).resolve_right ht
    refine ⟨hrun,by omega,by omega,by omega,by omega⟩
  obtain ⟨hr1,hr2,hr3,hr4,hr5⟩:=hrun
  simp (decide:=true) only [x3,A78,A79,ih1,ih2,if_true,if_false,J25]
  have e1:A24 l ((cAt l a).Old - eA l ctx a) a (t+1)=A99 (cAt l (a+t)):=G99 _ _ _ _
  have e2:F64 l ((cAt l a).New - eA l ctx a) a (t+1)=F61 (cAt l (a+t)):=rfl
  rw [e1,e2]
  have s0:0≤(cAt l a).Old - eA l ctx a:=by omega
  have s1:0≤(cAt l a).New - eA l ctx a:=by omega
  refine ⟨?_,?_⟩
  ·rw [A76 x s0 hr2 hr3,A76 x s0 (by omega) (by unfold A99;omega)]
  ·rw [hr1,A76 y s1 hr4 hr5]
   exact A76 y s1 (by omega) (by omega)
end
end Go.AL
namespace Go.AL
open Go
section
variable {x y:List Str} {l:List Change}
structure HunkIs (x y:List Str) (l:List Change) (ctx:Int) (a b:Nat) (h:PatchHunk):Prop where
 old:h.Old=(cAt l a).Old - eA l ctx a
 new:h.New=(cAt l a).New - eA l ctx a
 o0:0≤h.Old
 n0:0≤h.New
 oe:h.Old+A48 h=eoI 0 l b+eB l x.length ctx b
 ne:h.New+A49 h=enI 0 l b+eB l x.length ctx b
 ox:h.Old+A48 h≤x.length
 ny:h.New+A49 h≤y.length
 ol:F9 h.Lines 43=sub x h.Old (h.Old+A48 h)
 nl:F9 h.Lines 45=sub y h.New (h.New+A49 h)
 ch:A33 h.Lines=true
 gl:(∀s∈x,I0 s=true)→(∀s∈y,I0 s=true)→h.Lines.all B95=true
theorem E13 (p q:List PatchLine):A33 (p++q)=(A33 p||A33 q):=by simp [A33]
theorem E14 {k:UInt8} {ts:List Str} (hk:k≠32) (h:ts≠[]):A33 (A23 k ts)=true:=by
 cases ts with
 | nil=>exact absurd rfl h
 | cons t ts=>simp [A33,A23,hk]
theorem A80 {k:UInt8} {ts:List Str} (hk:k=32∨k=45∨k=43) (h:∀t∈ts,I0 t=true):(A23 k ts).all B95=true:=by
 rw [List.all_eq_true]
 intro q hq
 unfold A23 at hq
 obtain ⟨t,ht,rfl⟩:=List.mem_map.1 hq
 unfold B95
 refine decide_eq_true ?_
 rintro (⟨⟨h1,h2⟩,h3⟩ | h1)
 ·rcases hk with e | e | e
  ·exact h1 e
  ·exact h2 e
  ·exact h3 e
 ·rw [show (PatchLine.mk k t).Text=t from rfl,h t ht] at h1;cases h1
theorem D20 (hx:∀s∈x,I0 s=true) (hy:∀s∈y,I0 s=true) (i0:Int) (a:Nat):∀t,(x3 l x y i0 a t).all B95=true
 | 0=>rfl
 | t+1=>by
  simp only [x3,List.all_append,D20 hx hy i0 a t,Bool.true_and,J04]
  exact ⟨⟨A80 (.inl rfl) (fun s hs=>hx s (D45 hs)),A80 (.inr (.inl rfl)) (fun s hs=>hx s (D45 hs))⟩,A80 (.inr (.inr rfl)) (fun s hs=>hy s (D45 hs))⟩
theorem ScFit.hunk (h:ScFit x y l) {ctx:Int} (hc:0≤ctx) {a b:Nat} (hab:a < b) (hb:b≤l.length) (ho:opens l ctx a) (hob:b < l.length→opens l ctx b) :
  HunkIs x y l ctx a b (V9 l x y (mkH l x.length ctx a b)):=by
 have hla:a < l.length:=by omega
 obtain ⟨q1,q2,q3⟩:=h.before hc hla ho
 obtain ⟨w1,w2,w3,w4,w5⟩:=h.after hc hb hob (by omega)
 obtain ⟨m1,m2⟩:=h.made hc ho (b - a) (by omega) (fun e=>by omega)
 rw [E12 _ _ _ (by omega)] at m1
 rw [H44 _ _ _ (by omega)] at m2
 rw [show a+(b - a)=b by omega] at m1 m2
 obtain ⟨r1,r2,r3,r4⟩:=h.nn a (by omega)
 obtain ⟨s1,s2,s3,s4⟩:=h.nn b hb
 obtain ⟨k1,⟨k2,k2'⟩,k3,⟨k4,k4'⟩,k5,k6,k7,k8⟩:=x4 _ _ _ _ _ _ h.sc a hla
 have hlb:b - 1 < l.length:=by omega
 obtain ⟨g1,⟨g2,g2'⟩,g3,⟨g4,g4'⟩,g5,g6,g7,g8⟩:=x4 _ _ _ _ _ _ h.sc (b - 1) hlb
 have eo:eoI 0 l b=(cAt l (b - 1)).Old+(cAt l (b - 1)).OldLen:=by unfold eoI;rw [if_neg (by omega)];rfl
 have en:enI 0 l b=(cAt l (b - 1)).New+(cAt l (b - 1)).NewLen:=by unfold enI;rw [if_neg (by omega)];rfl
 have mo:=h.ok.mono a (b - 1) (by omega) (by omega)
 have mn:(cAt l a).New≤enI 0 l b:=by
  have m4:∀u,a+u≤l.length→(cAt l a).New≤enI 0 l (a+u)∨u=0:=by
   intro u
   induction u with
   | zero=>exact fun _=>.inr rfl
   | succ u ihu =>
    intro hu
    obtain ⟨e1,e2,⟨e3,e3'⟩,⟨e4,e4'⟩,e5,e6,e7,e8⟩:=x4 _ _ _ _ _ _ h.sc (a+u) (by omega)
    have e9:enI 0 l (a+(u+1))=(cAt l (a+u)).New+(cAt l (a+u)).NewLen:=rfl
    rcases ihu (by omega) with h' | h'
    ·left;omega
    ·left;subst h';rw [e9];show (cAt l a).New≤(cAt l a).New+(cAt l a).NewLen;exact Int.le_add_of_nonneg_right e4
  have:=(m4 (b - a) (by omega)).resolve_right (by omega)
  rwa [show a+(b - a)=b by omega] at this
 have hF:(mkH l x.length ctx a b).First.toNat=a:=by show ((a:Int)).toNat=a;omega
 have hL:(mkH l x.length ctx a b).Last.toNat - (mkH l x.length ctx a b).First.toNat=b - a:=by
  show (((b - 1:Nat):Int)+1).toNat - ((a:Int)).toNat=b - a;omega
 have hOF:(mkH l x.length ctx a b).Old.From=(cAt l a).Old - eA l ctx a:=rfl
 have hNF:(mkH l x.length ctx a b).New.From=(cAt l a).New - eA l ctx a:=rfl
 have hOT:(mkH l x.length ctx a b).Old.To=eoI 0 l b+eB l x.length ctx b:=by
  unfold eB;rw [eo];rfl
 obtain ⟨P,hP⟩:∃P,P=V9 l x y (mkH l x.length ctx a b):=⟨_,rfl⟩
 have hPl:P.Lines=x3 l x y ((cAt l a).Old - eA l ctx a) a (b - a)++A23 32 (sub x (eoI 0 l b) (eoI 0 l b+eB l x.length ctx b)):=by
  rw [hP];unfold V9
  show x3 l x y _ (mkH l x.length ctx a b).First.toNat ((mkH l x.length ctx a b).Last.toNat - (mkH l x.length ctx a b).First.toNat)++A23 32 (sub x (A24 l _ (mkH l x.length ctx a b).First.toNat ((mkH l x.length ctx a b).Last.toNat - (mkH l x.length ctx a b).First.toNat)) _)=_
  rw [hL,hF,hOF,hOT,E12 _ _ _ (by omega),show a+(b - a)=b by omega]
 have hPO:P.Old=(cAt l a).Old - eA l ctx a:=by rw [hP];rfl
 have hPN:P.New=(cAt l a).New - eA l ctx a:=by rw [hP];rfl
 have h43:F9 P.Lines 43=sub x ((cAt l a).Old - eA l ctx a) (eoI 0 l b+eB l x.length ctx b):=by
  rw [hPl,A78,A79,if_neg (by decide),m1]
  exact A76 x (by omega) (by omega) (by omega)
 have h45:F9 P.Lines 45=sub y ((cAt l a).New - eA l ctx a) (enI 0 l b+eB l x.length ctx b):=by
  rw [hPl,A78,A79,if_neg (by decide),m2,w5]
  exact A76 y (by omega) (by omega) (by omega)
 have hon:A48 P=eoI 0 l b+eB l x.length ctx b - ((cAt l a).Old - eA l ctx a):=by
  unfold A48;rw [h43];exact A77 x (by omega) (by omega) (by omega)
 have hnn:A49 P=enI 0 l b+eB l x.length ctx b - ((cAt l a).New - eA l ctx a):=by
  unfold A49;rw [h45];exact A77 y (by omega) (by omega) (by omega)
 rw [←hP]
 refine ⟨hPO,hPN,by omega,by omega,by omega,by omega,by omega,by omega,?_,?_,?_,?_⟩
 ·rw [h43];congr 1
  ·exact hPO.symm
  ·omega
 ·rw [h45];congr 1
  ·exact hPN.symm
  ·omega
 ·rw [hPl,E13]
  have e:x3 l x y ((cAt l a).Old - eA l ctx a) a (b - a)=x3 l x y ((cAt l a).Old - eA l ctx a) a (b - 1 - a+1):=by congr 1;omega
  rw [e]
  simp only [x3,E13]
  rw [show a+(b - 1 - a)=b - 1 by omega]
  have key:A33 (A23 45 (sub x (cAt l (b - 1)).Old (A99 (cAt l (b - 1)))))=true∨A33 (A23 43 (sub y (cAt l (b - 1)).New ((cAt l (b - 1)).New+(cAt l (b - 1)).NewLen)))=true:=by
   obtain ⟨g3a,g3b⟩:=g3
   obtain ⟨g1a,g1b⟩:=g1
   by_cases h0:(cAt l (b - 1)).OldLen=0
   ·right
    refine E14 (by decide) fun e0=>?_
    have:=A77 y (a:=(cAt l (b - 1)).New) (b:=(cAt l (b - 1)).New+(cAt l (b - 1)).NewLen) g3a (by omega) (by omega)
    rw [e0] at this;simp at this;omega
   ·left
    refine E14 (by decide) fun e0=>?_
    have:=A77 x (a:=(cAt l (b - 1)).Old) (b:=A99 (cAt l (b - 1))) g1a (by unfold A99;omega) (by unfold A99;omega)
    rw [e0] at this;unfold A99 at this;simp at this;omega
  rcases key with e1 | e1<;>rw [e1]<;>simp
 ·intro hx hy
  rw [hPl,List.all_append,D20 hx hy,Bool.true_and]
  exact A80 (.inl rfl) (fun s hs=>hx s (D45 hs))
theorem ScFit.hunks (h:ScFit x y l) {ctx:Int} (hc:0≤ctx) (hx:∀s∈x,I0 s=true) (hy:∀s∈y,I0 s=true):∀(hs:List Hunk) (a:Nat),GrOk l x.length ctx a hs l.length →
  ∀(i j e:Int),i=eoI 0 l a+e→j=enI 0 l a+e→0≤e→e≤ctx→(a=0→e=0) →
  C88 i j (hs.map (V9 l x y))=true∧(L7 (hs.map (V9 l x y)) 43).Sublist (x.drop i.toNat)∧(L7 (hs.map (V9 l x y)) 45).Sublist (y.drop j.toNat) ∧
   ∀p∈hs.map (V9 l x y),(p.Old+A48 p≤x.length∧p.New+A49 p≤y.length∧0≤p.Old∧0≤p.New)∧F9 p.Lines 43=sub x p.Old (p.Old+A48 p)∧F9 p.Lines 45=sub y p.New (p.New+A49 p)
 | [],a,_,i,j,e,_,_,_,_,_=>⟨rfl,by simp [L7],by simp [L7],by simp⟩
 | hk::hs,a,⟨b,hab,ho,hE,hr⟩,i,j,e,hi,hj,he,hec,he0=>by
  have hb:=hr.le
  have hob:b < l.length→opens l ctx b:=by
   intro hlt
   cases hs with
   | nil=>exact absurd hr (by show ¬b=l.length;omega)
   | cons h2 hs2=>obtain ⟨_,_,ho2,_⟩:=hr;exact ho2
  obtain ⟨w1,w2,w3,w4,w5⟩:=h.after hc hb hob (by omega)
  obtain ⟨q1,q2,q3⟩:=h.before hc (show a < l.length by omega) ho
  have H:=h.hunk hc hab hb ho hob
  rw [←hE] at H
  obtain ⟨P,hP⟩:∃P,P=V9 l x y hk:=⟨_,rfl⟩
  rw [←hP] at H
  obtain ⟨i1,i2,i3,i4⟩:=ScFit.hunks h hc hx hy hs b hr (P.Old+A48 P) (P.New+A49 P) (eB l x.length ctx b) H.oe H.ne w1 w2 (by omega)
  obtain ⟨k1,⟨k2,k2'⟩,k3,⟨k4,k4'⟩,k5,k6,k7,k8⟩:=x4 _ _ _ _ _ _ h.sc a (show a < l.length by omega)
  have h1:=H.old
  have h2:=H.new
  have h3:=H.o0
  have h4:=H.n0
  have h5:=H.ox
  have h6:=H.ny
  have h7:=h.lx
  have h8:=h.ly
  have n1:0≤A48 P:=by unfold A48;omega
  have n2:0≤A49 P:=by unfold A49;omega
  have hgap:e+eA l ctx a≤(cAt l a).Old - eoI 0 l a:=by
   by_cases h0:a=0
   ·have:=he0 h0;omega
   ·have:=B50 ho h0;omega
  obtain ⟨r1,r2,r3,r4⟩:=h.nn a (by omega)
  have hij:i≤P.Old∧j≤P.New∧P.Old - i=P.New - j∧0≤i∧0≤j:=by omega
  have hsub:∀(z:List Str) (i f t:Int),0≤i→i≤f→f≤t→∀r:List Str,r.Sublist (z.drop t.toNat)→(sub z f t++r).Sublist (z.drop i.toNat):=by
   intro z i f t h0 h1 h2 r hr
   have e1:z.drop f.toNat=sub z f t++z.drop t.toNat:=by
    unfold sub
    rw [show t.toNat=f.toNat+(t.toNat - f.toNat) by omega,←List.drop_drop,show f.toNat+(t.toNat - f.toNat) - f.toNat=t.toNat - f.toNat by omega,J41]
   have e2:z.drop f.toNat=(z.drop i.toNat).drop (f.toNat - i.toNat):=by rw [List.drop_drop];congr 1;omega
   refine List.Sublist.trans ?_ (List.drop_sublist (f.toNat - i.toNat) (z.drop i.toNat))
   rw [←e2,e1]
   exact List.Sublist.append_left hr _
  have key:∀(k:UInt8),L7 ((hk::hs).map (V9 l x y)) k=F9 P.Lines k++L7 (hs.map (V9 l x y)) k:=by
   intro k;rw [hP];simp [L7]
  refine ⟨?_,?_,?_,?_⟩
  ·rw [J08,←hP]
   simp only [C88,H.gl hx hy,i1,Bool.and_true,Bool.true_and,J04,decide_eq_true_eq]
   refine ⟨?_,by omega⟩
   unfold C40
   rw [H.ch]
   rintro (((((e0 | e0) | e0) | e0) | e0) | e0)
   ·cases e0
   all_goals omega
  ·rw [key,H.ol]
   exact hsub x i P.Old (P.Old+A48 P) hij.2.2.2.1 hij.1 (by omega) _ i2
  ·rw [key,H.nl]
   exact hsub y j P.New (P.New+A49 P) hij.2.2.2.2 hij.2.1 (by omega) _ i3
  ·rw [J08,←hP]
   intro p hp
   rcases List.mem_cons.1 hp with rfl | hp
   ·exact ⟨⟨h5,h6,h3,h4⟩,H.ol,H.nl⟩
   ·exact i4 p hp
theorem C43:∀{s z:List Str},s.Sublist z→X1 z=true→X1 s=true:=by
 intro s z hs
 induction hs with
 | slnil=>exact fun h=>h
 | cons a _ ih =>
  intro h
  simp only [X1,J04] at h
  exact ih h.2
 | cons_cons a hs2 ih =>
  intro h
  simp only [X1,J04,J36] at h ⊢
  refine ⟨?_,ih h.2⟩
  rcases h.1 with h1 | h1
  ·left
   rw [List.isEmpty_iff] at h1 ⊢
   rw [h1] at hs2
   exact List.sublist_nil.1 hs2
  ·exact .inr h1
def Z5 (l:List Change) (x y:List Str) (ctx:Int):List PatchHunk:=(V8 l x.length ctx l.length).map (V9 l x y)
theorem ScFit.good (h:ScFit x y l) {ctx:Int} (hc:0≤ctx) (hx:∀s∈x,I0 s=true) (hy:∀s∈y,I0 s=true) (ex:X1 x=true) (ey:X1 y=true):C89 (Z5 l x y ctx)=true:=by
 obtain ⟨h1,h2,h3,_⟩:=h.hunks hc hx hy _ 0 (A75 l x.length ctx l.length) 0 0 0 rfl rfl (Int.le_refl _) hc (fun _=>rfl)
 unfold C89 G98 Z5
 rw [h1,C43 h2 (by simpa using ex),C43 h3 (by simpa using ey)]
 rfl
theorem ScFit.texts (h:ScFit x y l) {ctx:Int} (hc:0≤ctx) (hx:∀s∈x,I0 s=true) (hy:∀s∈y,I0 s=true):∀p∈Z5 l x y ctx,(p.Old+A48 p≤x.length∧p.New+A49 p≤y.length∧0≤p.Old∧0≤p.New)∧F9 p.Lines 43=sub x p.Old (p.Old+A48 p)∧F9 p.Lines 45=sub y p.New (p.New+A49 p) :=
 (h.hunks hc hx hy _ 0 (A75 l x.length ctx l.length) 0 0 0 rfl rfl (Int.le_refl _) hc (fun _=>rfl)).2.2.2
end
theorem D21 (cur:Str) (c:UInt8) (h:∀z∈cur,z≠10):I0 (cur++[c])=true:=by
 unfold I0
 simp only [List.dropLast_concat,J04]
 refine ⟨List.all_eq_true.2 fun z hz=>by simpa using h z hz,by simp⟩
theorem B35:∀(s cur:Str),(∀z∈cur,z≠10)→(∀t∈G1 cur s,I0 t=true)∧X1 (G1 cur s)=true
 | [],cur,hc=>by
  unfold G1
  split
  ·exact ⟨by simp,rfl⟩
  ·rename_i h
   refine ⟨fun t ht=>?_,rfl⟩
   obtain rfl:t=cur:=by simpa using ht
   obtain ⟨d,r,e⟩:∃d r,t=r++[d]:=⟨t.getLast h,t.dropLast,(List.dropLast_concat_getLast h).symm⟩
   rw [e]
   exact D21 r d fun z hz=>hc z (by rw [e];simp [hz])
 | c::r,cur,hc=>by
  rw [U7]
  by_cases h:c=10
  ·rw [if_pos h]
   obtain ⟨h1,h2⟩:=B35 r [] (by simp)
   refine ⟨fun t ht=>?_,?_⟩
   ·rcases List.mem_cons.1 ht with rfl | ht
    ·exact D21 cur c hc
    ·exact h1 t ht
   ·simp only [X1,h2,Bool.and_true,J36]
    right;unfold ended;subst h;simp
  ·rw [if_neg h]
   refine B35 r (cur++[c]) fun z hz=>?_
   rcases List.mem_append.1 hz with hz | hz
   ·exact hc z hz
   ·simp at hz;subst hz;exact h
theorem H00 (b:Str):(∀t∈C8 b,I0 t=true)∧X1 (C8 b)=true:=B35 b [] (by simp)
end Go.AL
namespace Go.AL
open Go
def EqAt (X Y:List Str) (s:Span):Prop:=0≤s.From∧0≤s.To∧∃v,X[s.From.toNat]?=some v∧Y[s.To.toNat]?=some v
theorem G38 {X:List Str} {a b:Int} {v:Str} (h0:0≤a) (h1:a≤b) (hv:X[b.toNat]?=some v):sub X a (b+1)=sub X a b++[v]:=by
 rw [←A76 X h0 h1 (by omega:b≤b+1)]
 congr 1
 unfold sub
 obtain ⟨hl,e⟩:=List.getElem?_eq_some_iff.1 hv
 rw [J07 hl,e,show (b+1).toNat - b.toNat=1 by omega]
 rfl
theorem F07:∀(ls:List PatchLine),ls.all B95=true→(ls.map szL).sum≤64*((F9 ls 43).length+(F9 ls 45).length)+((F9 ls 43).flatten.length+(F9 ls 45).flatten.length)
 | [],_=>by simp
 | q::ls,h=>by
  rw [List.all_cons,J04] at h
  have ih:=F07 ls h.2
  have hk:q.Kind=32∨q.Kind=45∨q.Kind=43:=by
   have hg:=h.1
   unfold B95 at hg
   have hg:=A0 hg
   by_cases h1:q.Kind=32
   ·exact .inl h1
   by_cases h2:q.Kind=45
   ·exact .inr (.inl h2)
   by_cases h3:q.Kind=43
   ·exact .inr (.inr h3)
   exact absurd (.inl ⟨⟨h1,h2⟩,h3⟩) hg
  have hd:∀k:UInt8,F9 (q::ls) k=if q.Kind≠k then q.Text::F9 ls k else F9 ls k:=by
   intro k
   unfold F9
   by_cases e:q.Kind=k
   ·rw [if_neg (by simpa using e),List.filter_cons_of_neg (by simpa using e)]
   ·rw [if_pos e,List.filter_cons_of_pos (by simpa using e)];rfl
  rw [hd 43,hd 45,J08,J28]
  have hz:szL q=q.Text.length+64:=rfl
  rcases hk with e | e | e<;>rw [e]<;>simp (decide:=true) only [if_true,if_false,ne_eq,not_true_eq_false,not_false_eq_true,J02,J14,J01]<;>omega
theorem C44:∀(hs:List PatchHunk) (i j:Int),C88 i j hs=true→szP hs≤128*((L7 hs 43).length+(L7 hs 45).length)+((L7 hs 43).flatten.length+(L7 hs 45).flatten.length)
 | [],_,_,_=>by simp [szP]
 | h :: hs,i,j,hg=>by
  simp only [C88,J04,decide_eq_true_eq] at hg
  obtain ⟨h1,h2,h3,h4⟩:=hg
  have ih:=C44 hs _ _ h4
  have hl:=F07 h.Lines h1
  have hne:1≤h.Lines.length:=by
   cases hq:h.Lines with
   | nil=>exact absurd (.inl (.inl (.inl (.inl (.inl (by rw [hq];rfl)))))) h2
   | cons a b=>simp
  have hcnt:h.Lines.length≤(F9 h.Lines 43).length+(F9 h.Lines 45).length:=by
   have:64*h.Lines.length≤(h.Lines.map szL).sum:=szL_len h.Lines
   have key:∀ls:List PatchLine,ls.length≤(F9 ls 43).length+(F9 ls 45).length:=by
    intro ls
    induction ls with
    | nil=>simp
    | cons q ls ih =>
     have hd:∀k:UInt8,(F9 (q::ls) k).length=if q.Kind≠k then (F9 ls k).length+1 else (F9 ls k).length:=by
      intro k
      unfold F9
      by_cases e:q.Kind=k
      ·rw [if_neg (by simpa using e),List.filter_cons_of_neg (by simpa using e)]
      ·rw [if_pos e,List.filter_cons_of_pos (by simpa using e)];simp
     rw [hd 43,hd 45,J02]
     by_cases e:q.Kind=43
     ·have e2:q.Kind≠45:=by rw [e];decide
      rw [if_pos e2];split<;>omega
     ·rw [if_pos e];split<;>omega
   exact key h.Lines
  have hsz:szP (h::hs)=szH h+szP hs:=by simp [szP]
  have hszh:szH h=64+(h.Lines.map szL).sum:=rfl
  have hs1:∀k,L7 (h::hs) k=F9 h.Lines k++L7 hs k:=by intro k;simp [L7]
  rw [hsz,hszh,hs1 43,hs1 45]
  simp only [J01,J27]
  omega
theorem D22:∀{s z:List Str},s.Sublist z→s.flatten.length≤z.flatten.length:=by
 intro s z hs
 induction hs with
 | slnil=>exact Nat.le_refl _
 | cons a _ ih=>simp only [J14,J01];omega
 | cons_cons a _ ih=>simp only [J14,J01];omega
theorem ScFit.size {x y:List Str} {l:List Change} (h:ScFit x y l) {ctx:Int} (hc:0≤ctx) (hx:∀s∈x,I0 s=true) (hy:∀s∈y,I0 s=true):szP (Z5 l x y ctx)≤128*(x.length+y.length)+(x.flatten.length+y.flatten.length):=by
 obtain ⟨h1,h2,h3,_⟩:=h.hunks hc hx hy _ 0 (A75 l x.length ctx l.length) 0 0 0 rfl rfl (Int.le_refl _) hc (fun _=>rfl)
 have h4:=C44 _ _ _ h1
 have e:Z5 l x y ctx=(V8 l x.length ctx l.length).map (V9 l x y):=rfl
 rw [←e] at h2 h3 h4
 have h2':(L7 (Z5 l x y ctx) 43).Sublist x:=by simpa using h2
 have h3':(L7 (Z5 l x y ctx) 45).Sublist y:=by simpa using h3
 have:=h2'.length_le
 have:=h3'.length_le
 have:=D22 h2'
 have:=D22 h3'
 omega
theorem E15 (s:Str):∀cur:Str,(G1 cur s).flatten=cur++s:=by
 induction s with
 | nil=>intro cur;unfold G1;split<;>simp [*]
 | cons c r ih=>intro cur;rw [U7];split<;>simp [ih]
theorem E16 (a:Str):(C8 a).flatten.length=a.length∧(C8 a).length≤a.length:=⟨by unfold C8;rw [E15];rfl,Q1 a⟩
end Go.AL
namespace Go.AL
open Go
end Go.AL
namespace Go.AL
open Go
def flat (a b:List Int) (done:Nat→Nat→Bool):List Int :=
 (List.range ((a.length+1)*(b.length+1))).map fun p=>if done (p / (b.length+1)) (p % (b.length+1))=true then (dist (a.drop (p / (b.length+1))) (b.drop (p % (b.length+1))):Int) else 0
end Go.AL
namespace Go.AL
open Go
def GrX (l:List Change) (m ctx:Int):Nat→List Hunk→Nat→Prop
 | a,[],k=>a=k
 | a,h::r,k=>∃b,a < b∧opens l ctx a∧(∀c,a < c→c < b→¬opens l ctx c)∧h=mkH l m ctx a b∧GrX l m ctx b r k
theorem GrX.le {l:List Change} {m ctx:Int}:∀{hs:List Hunk} {a k:Nat},GrX l m ctx a hs k→a≤k
 | [],a,k,h=>Nat.le_of_eq h
 | _::_,a,k,⟨b,h1,_,_,_,h2⟩=>by have:=GrX.le h2;omega
theorem GrX.snoc {l:List Change} {m ctx:Int} {k n:Nat} (ho:opens l ctx k) (hk:k < n) (hno:∀c,k < c→c < n→¬opens l ctx c):∀{hs:List Hunk} {a:Nat},GrX l m ctx a hs k→GrX l m ctx a (hs++[mkH l m ctx k n]) n
 | [],a,h=>by
  obtain rfl:a=k:=h
  exact ⟨n,hk,ho,hno,rfl,rfl⟩
 | _::_,a,⟨b,h1,h2,h3,h4,h5⟩=>⟨b,h1,h2,h3,h4,GrX.snoc ho hk hno h5⟩
theorem GrX.last {l:List Change} {m ctx:Int} {k:Nat} (hno:¬opens l ctx k):∀{hs:List Hunk} {a:Nat},GrX l m ctx a hs k→hs≠[]→GrX l m ctx a (hs.set (hs.length - 1) (C39 l m ctx k (hs.getD (hs.length - 1) H40))) (k+1)
 | [],_,_,h0=>absurd rfl h0
 | [h],a,⟨b,h1,h2,h3,h4,h5⟩,_=>by
  obtain rfl:b=k:=h5
  subst h4
  refine ⟨b+1,by omega,h2,fun c hc1 hc2=>?_,rfl,rfl⟩
  by_cases hcb:c=b
  ·rw [hcb];exact hno
  ·exact h3 c hc1 (by omega)
 | h::h'::r,a,⟨b,h1,h2,h3,h4,h5⟩,_=>by
  have ih:=GrX.last hno h5 (by simp)
  refine ⟨b,h1,h2,h3,h4,?_⟩
  simpa using ih
theorem GrX.len {l:List Change} {m ctx:Int}:∀{hs:List Hunk} {a k:Nat},GrX l m ctx a hs k→hs.length≤k - a
 | [],_,_,_=>Nat.zero_le _
 | _::_,a,k,⟨b,h1,_,_,_,h2⟩=>by have:=GrX.len h2;have:=h2.le;simp only [J02];omega
end Go.AL
namespace Go.AL
open Go
end Go.AL
namespace Go.AL
open Go
theorem H45 (m n:Int):∀(l:List Change) (k0:Nat) (i j:Int),(∀k,k < l.length→M8 (cAt l k).Old∧M8 (cAt l k).OldLen∧M8 (cAt l k).New∧M8 (cAt l k).NewLen∧(cAt l k).OldLen+(cAt l k).NewLen≠0∧(cAt l k).Old - eoI i l k=(cAt l k).New - enI j l k∧eoI i l k≤(cAt l k).Old∧(0 < k0+k→eoI i l k < (cAt l k).Old)) →
  (m - eoI i l l.length=n - enI j l l.length∧eoI i l l.length≤m)→O0 k0 i j l m n=true
 | [],k0,i,j,_,h=>by
  have h1:m - i=n - j∧i≤m:=h
  simp only [O0,decide_eq_true_eq];omega
 | c::r,k0,i,j,h,he=>by
  simp only [O0,J04,decide_eq_true_eq]
  refine ⟨?_,H45 m n r (k0+1) _ _ (fun k hk=>?_) ?_⟩
  ·obtain ⟨h1,h2,h3,h4,h5,h6,h7,h8⟩:=h 0 (by simp)
   have h1:M8 c.Old:=h1
   have h2:M8 c.OldLen:=h2
   have h3:M8 c.New:=h3
   have h4:M8 c.NewLen:=h4
   have h5:c.OldLen+c.NewLen≠0:=h5
   have h6:c.Old - i=c.New - j:=h6
   have h7:i≤c.Old:=h7
   have h8:0 < k0+0→i < c.Old:=h8
   unfold badC
   rintro (((((((q | q) | q) | q) | q) | q) | q) | ⟨q,q2⟩)
   ·exact q h1
   ·exact q h2
   ·exact q h3
   ·exact q h4
   ·exact h5 q
   ·exact q h6
   ·omega
   ·have:=h8 (by omega);omega
  ·have:=h (k+1) (by simpa using hk)
   rw [C42,u6,u7] at this
   obtain ⟨e1,e2,e3,e4,e5,e6,e7,e8⟩:=this
   exact ⟨e1,e2,e3,e4,e5,e6,e7,fun h0=>e8 (by omega)⟩
  ·rw [J02,u6,u7] at he;exact he
theorem H46 (x y:List Str):∀(l:List Change) (i j:Int),(∀k,k < l.length→sub x (eoI i l k) (cAt l k).Old=sub y (enI j l k) (cAt l k).New)→sub x (eoI i l l.length) x.length=sub y (enI j l l.length) y.length→C90 x y i j l
 | [],_,_,_,h=>h
 | c::r,i,j,h,he=>by
  refine ⟨h 0 (by simp),H46 x y r _ _ (fun k hk=>?_) ?_⟩
  ·have:=h (k+1) (by simpa using hk)
   rw [C42,u6,u7] at this;exact this
  ·rw [J02,u6,u7] at he;exact he
theorem H47 {x:List Str} {p q:Int} {t:Nat} (h0:0≤p) (h:p+t < q):(sub x p q)[t]?=x[(p+t).toNat]?:=by
 unfold sub
 rw [List.getElem?_take,if_pos (by omega),J26]
 congr 1;omega
theorem F65 {x y:List Str} {p q p' q':Int} (h:sub x p q=sub y p' q') (h0:0≤p) (h0':0≤p') (hq:q≤x.length) (he:q - p=q' - p') {t:Nat} (ht:p+t < q):∃v,x[(p+t).toNat]?=some v∧y[(p'+t).toNat]?=some v:=by
 have h1:x[(p+t).toNat]?=some x[(p+t).toNat]:=J03 (by omega)
 refine ⟨_,h1,?_⟩
 rw [←H47 (q:=q') h0' (by omega),←h,H47 h0 ht];exact h1
theorem D23 {i j:Int} {n:Nat} {p:Span} (h:p∈Q6 i j n):∃t:Nat,t < n∧p=⟨i+t,j+t⟩:=by
 unfold Q6 at h
 obtain ⟨t,h1,h2⟩:=List.mem_map.1 h
 exact ⟨t,List.mem_range.1 h1,h2.symm⟩
theorem E17 {x y:List Str}:∀(l:List Change) (k0:Nat) (i j:Int),O0 k0 i j l x.length y.length=true→C90 x y i j l→0≤i→0≤j→∀p∈K2 i j l x.length,EqAt x y p
 | [],k0,i,j,hs,he,hi,hj,p,hp=>by
  simp only [O0,decide_eq_true_eq] at hs
  unfold K2 at hp
  obtain ⟨t,ht,rfl⟩:=D23 hp
  have he:sub x i x.length=sub y j y.length:=he
  exact ⟨by dsimp only;omega,by dsimp only;omega,F65 he hi hj (by omega) (by omega) (by omega)⟩
 | c::r,k0,i,j,hs,he,hi,hj,p,hp=>by
  have hok:=B31 _ _ _ _ _ _ hs
  have g:=x4 x.length y.length (c::r) k0 i j hs 0 (by simp)
  obtain ⟨g1,g2,g3,g4,g5,g6,g7,_⟩:=g
  have g1:M8 c.Old:=g1
  have g2:M8 c.OldLen:=g2
  have g3:M8 c.New:=g3
  have g4:M8 c.NewLen:=g4
  have g6:c.Old - i=c.New - j:=g6
  have g7:i≤c.Old:=g7
  simp only [O0,J04,decide_eq_true_eq] at hs
  unfold K2 at hp
  unfold M8 at g1 g2 g3 g4
  have hm:=hok.2.2.2.2.2.2.end_le
  rcases List.mem_append.1 hp with hp | hp
  ·obtain ⟨t,ht,rfl⟩:=D23 hp
   exact ⟨by dsimp only;omega,by dsimp only;omega,F65 he.1 hi hj (by omega) (by omega) (by omega)⟩
  ·rw [show max i c.Old+c.OldLen=c.Old+c.OldLen by omega,show j+((c.Old - i).toNat:Int)+c.NewLen=c.New+c.NewLen by omega] at hp
   exact E17 r (k0+1) _ _ hs.2 he.2 (by omega) (by omega) p hp
theorem ScFit.pairs {x y:List Str} {l:List Change} (h:ScFit x y l):∀p∈c8 l x.length,EqAt x y p:=E17 l 0 0 0 h.sc h.eq (Int.le_refl _) (Int.le_refl _)
def C91 (c:Change):Change:=⟨c.Old+1,c.OldLen,c.New+1,c.NewLen⟩
def A81 (l:List Change) (k:Nat):List Change:=l.set k (C91 (cAt l k))
def atI (t:List Int) (i:Int):Int:=t.getD i.toNat 0
def H48 (l:List Change) (k:Nat) (t:List Int) (f n:Int):Prop:=(f+n < t.length∧atI t f=atI t (f+n))∧(k+1=l.length∨(cAt l k).Old+(cAt l k).OldLen+1 < (cAt l (k+1)).Old)
instance (l:List Change) (k:Nat) (t:List Int) (f n:Int):Decidable (H48 l k t f n):=by unfold H48;exact inferInstance
def D46 (l:List Change) (a b:List Int) (k:Nat):Bool :=
 if (cAt l k).NewLen=0 then decide (H48 l k a (cAt l k).Old (cAt l k).OldLen) else if (cAt l k).OldLen=0 then decide (H48 l k b (cAt l k).New (cAt l k).NewLen) else false
theorem l8 (l:List Change) (k:Nat):(A81 l k).length=l.length:=by simp [A81]
theorem B51 (l:List Change) {k:Nat} (hk:k < l.length) (q:Nat):cAt (A81 l k) q=if q=k then C91 (cAt l k) else cAt l q:=by
 unfold A81
 by_cases h:q=k
 ·subst h
  have:∀z,cAt (l.set q z) q=z:=fun z=>by unfold cAt;simp [hk]
  rw [if_pos rfl,this]
 ·rw [if_neg h];unfold cAt
  simp only [J06]
  rw [List.getElem?_set_ne (Ne.symm h)]
theorem C45 (l:List Change) {k:Nat} (hk:k < l.length) (q:Nat):eoI 0 (A81 l k) q=eoI 0 l q+(if q=k+1 then 1 else 0):=by
 cases q with
 | zero=>simp [eoI]
 | succ q =>
  rw [B32,B32,B51 l hk]
  by_cases h:q=k
  ·subst h;rw [if_pos rfl,if_pos rfl];simp only [A99,C91];omega
  ·rw [if_neg h,if_neg (by omega)];omega
theorem C46 (l:List Change) {k:Nat} (hk:k < l.length) (q:Nat):enI 0 (A81 l k) q=enI 0 l q+(if q=k+1 then 1 else 0):=by
 cases q with
 | zero=>simp [enI]
 | succ q =>
  rw [B33,B33,B51 l hk]
  by_cases h:q=k
  ·subst h;rw [if_pos rfl,if_pos rfl];simp only [F61,C91];omega
  ·rw [if_neg h,if_neg (by omega)];omega
structure IdsOf (x:List Str) (a:List Int):Prop where
 len:a.length=x.length
 inj:∀(i j:Nat) (u v:Str) (z:Int),x[i]?=some u→x[j]?=some v→a[i]?=some z→a[j]?=some z→u=v
theorem ScFit.down {x y:List Str} {l:List Change} {a b:List Int} (h:ScFit x y l) (ha:IdsOf x a) (hb:IdsOf y b) {k:Nat} (hk:k < l.length) (hd:D46 l a b k=true):ScFit x y (A81 l k):=by
 have hlx:=h.lx
 have hly:=h.ly
 have hg:=x4 _ _ _ 0 0 0 h.sc
 have hge:=F62 _ _ _ 0 0 0 h.sc
 have hq:=E10 _ _ _ _ _ h.eq
 have hqe:=F63 _ _ _ _ _ h.eq
 have hok:=h.ok
 obtain ⟨c,hc⟩:∃c,c=cAt l k:=⟨_,rfl⟩
 obtain ⟨g1,g2,g3,g4,g5,g6,g7,g8⟩:=hg k hk
 have hb4:=hok.get k hk
 rw [←hc] at g1 g2 g3 g4 g5 g6 g7 g8 hb4
 unfold M8 at g1 g2 g3 g4
 have eo1:eoI 0 l (k+1)=c.Old+c.OldLen:=by rw [B32,←hc];rfl
 have en1:enI 0 l (k+1)=c.New+c.NewLen:=by rw [B33,←hc];rfl
 obtain ⟨E,E',hE1,hE2,hE3,hE4,hE5,hEn⟩:∃E E':Int,sub x (c.Old+c.OldLen) E=sub y (c.New+c.NewLen) E'∧E - (c.Old+c.OldLen)=E' - (c.New+c.NewLen)∧E≤x.length∧E'≤y.length∧(c.Old+c.OldLen < E)∧(k+1 < l.length→E=(cAt l (k+1)).Old∧E'=(cAt l (k+1)).New∧c.Old+c.OldLen+1 < E):=by
  by_cases hl:k+1=l.length
  ·rw [←hl,eo1,en1] at hge hqe
   refine ⟨x.length,y.length,hqe,by omega,by omega,by omega,?_,fun q=>absurd hl (by omega)⟩
   unfold D46 at hd
   rw [←hc] at hd
   split at hd
   ·have:=(A0 hd).1.1;rw [ha.len] at this;omega
   ·split at hd
    ·have:=(A0 hd).1.1;rw [hb.len] at this;omega
    ·cases hd
  ·have hl:k+1 < l.length:=by omega
   obtain ⟨f1,f2,f3,f4,f5,f6,f7,f8⟩:=hg (k+1) hl
   have f9:=hq (k+1) hl
   have f10:=hok.get (k+1) hl
   rw [eo1,en1] at f6 f9
   rw [eo1] at f7
   unfold M8 at f2 f4
   have hroom:c.Old+c.OldLen+1 < (cAt l (k+1)).Old:=by
    unfold D46 at hd
    rw [←hc] at hd
    split at hd
    ·have:=(A0 hd).2;rw [←hc] at this;omega
    ·split at hd
     ·have:=(A0 hd).2;rw [←hc] at this;omega
     ·cases hd
   exact ⟨_,_,f9,by omega,by omega,by omega,by omega,fun _=>⟨rfl,rfl,hroom⟩⟩
 have hv:∃v,x[c.Old.toNat]?=some v∧y[c.New.toNat]?=some v:=by
  obtain ⟨v,v1,v2⟩:=F65 (t:=0) hE1 (by omega) (by omega) (by omega) hE2 (by omega)
  simp only [Int.natCast_zero,Int.add_zero] at v1 v2
  unfold D46 at hd
  rw [←hc] at hd
  split at hd
  ·rename_i hn
   have:=(A0 hd).1.2
   rw [hn,Int.add_zero] at v2
   refine ⟨v,?_,v2⟩
   have l1:c.Old.toNat < a.length:=by rw [ha.len];omega
   have l2:(c.Old+c.OldLen).toNat < a.length:=by rw [ha.len];omega
   have hx:x[c.Old.toNat]?=some x[c.Old.toNat]:=J03 (by omega)
   have ea:a[c.Old.toNat]?=some (atI a c.Old):=by unfold atI;rw [J06,J03 l1];rfl
   have eb:a[(c.Old+c.OldLen).toNat]?=some (atI a (c.Old+c.OldLen)):=by unfold atI;rw [J06,J03 l2];rfl
   rw [←this] at eb
   have:=ha.inj _ _ _ _ _ hx v1 ea eb
   rw [hx,this]
  ·split at hd
   ·rename_i _ hn
    have:=(A0 hd).1.2
    rw [hn,Int.add_zero] at v1
    refine ⟨v,v1,?_⟩
    have l1:c.New.toNat < b.length:=by rw [hb.len];omega
    have l2:(c.New+c.NewLen).toNat < b.length:=by rw [hb.len];omega
    have hx:y[c.New.toNat]?=some y[c.New.toNat]:=J03 (by omega)
    have ea:b[c.New.toNat]?=some (atI b c.New):=by unfold atI;rw [J06,J03 l1];rfl
    have eb:b[(c.New+c.NewLen).toNat]?=some (atI b (c.New+c.NewLen)):=by unfold atI;rw [J06,J03 l2];rfl
    rw [←this] at eb
    have:=hb.inj _ _ _ _ _ hx v2 ea eb
    rw [hx,this]
   ·cases hd
 obtain ⟨v,v1,v2⟩:=hv
 have hen0:0≤eoI 0 l k∧0≤enI 0 l k:=by
  cases k with
  | zero=>simp [eoI,enI]
  | succ k =>
   obtain ⟨f1,f2,f3,f4,_⟩:=hg k (by omega)
   unfold M8 at f1 f2 f3 f4
   rw [B32,B33];unfold A99 F61;omega
 have htail:sub x (c.Old+c.OldLen+1) E=sub y (c.New+c.NewLen+1) E':=by
  have:=B34 (e:=E - (c.Old+c.OldLen) - 1) hE1 (by omega) (by omega) (by omega) (by omega) hE2
  rw [show E - (E - (c.Old+c.OldLen) - 1)=c.Old+c.OldLen+1 by omega,show E' - (E - (c.Old+c.OldLen) - 1)=c.New+c.NewLen+1 by omega] at this
  exact this
 refine ⟨hlx,hly,H45 _ _ _ 0 0 0 (fun q hql=>?_) ?_,H46 _ _ _ 0 0 (fun q hql=>?_) ?_⟩
 ·rw [l8] at hql
  rw [B51 l hk,C45 l hk,C46 l hk]
  by_cases e:q=k
  ·rw [if_pos e,if_neg (show ¬q=k+1 by omega),e,←hc]
   unfold M8
   simp only [C91]
   refine ⟨by omega,g2,by omega,g4,g5,by omega,by omega,fun _=>by omega⟩
  ·rw [if_neg e]
   obtain ⟨f1,f2,f3,f4,f5,f6,f7,f8⟩:=hg q hql
   refine ⟨f1,f2,f3,f4,f5,?_,?_,?_⟩
   ·by_cases e2:q=k+1
    ·rw [if_pos e2];omega
    ·rw [if_neg e2];omega
   ·by_cases e2:q=k+1
    ·rw [if_pos e2];have:=f8 (by omega);omega
    ·rw [if_neg e2];omega
   ·intro h0
    by_cases e2:q=k+1
    ·rw [if_pos e2,e2,eo1]
     have:=(hEn (by omega))
     omega
    ·rw [if_neg e2];have:=f8 h0;omega
 ·rw [l8,C45 l hk,C46 l hk]
  by_cases e2:l.length=k+1
  ·rw [if_pos e2,e2,eo1,en1]
   rw [e2,eo1,en1] at hge
   have h1:E≤x.length:=hE3
   omega
  ·rw [if_neg e2];omega
 ·rw [l8] at hql
  rw [B51 l hk,C45 l hk,C46 l hk]
  by_cases e:q=k
  ·rw [if_pos e,if_neg (show ¬q=k+1 by omega),e,←hc]
   simp only [C91,Int.add_zero]
   have:=hq k hk
   rw [←hc] at this
   rw [G38 hen0.1 g7 v1,G38 hen0.2 (by omega) v2,this]
  ·rw [if_neg e]
   by_cases e2:q=k+1
   ·rw [if_pos e2]
    subst e2
    obtain ⟨q1,q2,_⟩:=hEn hql
    rw [eo1,en1,←q1,←q2];exact htail
   ·rw [if_neg e2,Int.add_zero,Int.add_zero]
    exact hq q hql
 ·rw [l8,C45 l hk,C46 l hk]
  by_cases e2:l.length=k+1
  ·rw [if_pos e2]
   rw [e2,eo1,en1] at hqe hge ⊢
   have:=B34 (e:=x.length - (c.Old+c.OldLen) - 1) hqe (by omega) (by omega) (by omega) (by omega) (by omega)
   rw [show (x.length:Int) - (x.length - (c.Old+c.OldLen) - 1)=c.Old+c.OldLen+1 by omega,show (y.length:Int) - (x.length - (c.Old+c.OldLen) - 1)=c.New+c.NewLen+1 by omega] at this
   exact this
  ·rw [if_neg e2,Int.add_zero,Int.add_zero];exact hqe
section
variable {x y:List Str} {a b:List Int} (ha:IdsOf x a) (hb:IdsOf y b)
include ha hb
omit ha hb in
omit ha hb in
end
end Go.AL
namespace Go.AL
open Go
structure Made12 (on nn a b:Str) (l:List Change) (ctx:Int):Prop where
 chk:C41 ⟨on,nn,Z5 l (C8 a) (C8 b) ctx⟩=0
 wr:(H41 ⟨on,nn,Z5 l (C8 a) (C8 b) ctx⟩).length≤16777216
 fit:PFit ⟨on,nn,Z5 l (C8 a) (C8 b) ctx⟩
 rg:∀h∈Z5 l (C8 a) (C8 b) ctx,(-4611686018427387904≤h.Old∧h.Old≤4611686018427387904)∧(-4611686018427387904≤h.New∧h.New≤4611686018427387904)
 sz:szP (Z5 l (C8 a) (C8 b) ctx)≤268435456
end Go.AL
namespace Go.AL
open Go
section
variable {x y:List Str} {l:List Change}
end
end Go.AL
namespace Go.AL
open Go
def ChainH (x y:List Str) (i j:Int):List PatchHunk→Prop
 | []=>sub x i x.length=sub y j y.length∧0≤i∧0≤j∧i≤x.length∧j≤y.length
 | h::r=>(sub x i h.Old=sub y j h.New∧F9 h.Lines 43=sub x h.Old (h.Old+A48 h)∧F9 h.Lines 45=sub y h.New (h.New+A49 h))∧(0≤i∧0≤j∧i≤h.Old∧j≤h.New∧h.Old+A48 h≤x.length∧h.New+A49 h≤y.length)∧ChainH x y (h.Old+A48 h) (h.New+A49 h) r
theorem ScFit.chain {x y:List Str} {l:List Change} (h:ScFit x y l) {ctx:Int} (hc:0≤ctx):∀(hs:List Hunk) (a:Nat),GrOk l x.length ctx a hs l.length →
  ∀(i j e:Int),i=eoI 0 l a+e→j=enI 0 l a+e→0≤e→e≤ctx→(a=0→e=0)→i≤x.length→j≤y.length→ChainH x y i j (hs.map (V9 l x y))
 | [],a,hr,i,j,e,hi,hj,he,_,_,hix,hjy=>by
  have hr:a=l.length:=hr
  have hq:=F63 _ _ _ _ _ h.eq
  have hge:=F62 _ _ _ 0 0 0 h.sc
  obtain ⟨r1,r2,r3,r4⟩:=h.nn a (by omega)
  rw [←hr] at hq hge
  refine ⟨?_,by omega,by omega,hix,hjy⟩
  have:=B34 (e:=x.length - i) hq r1 r2 (by omega) (by omega) (by omega)
  rw [show (x.length:Int) - (x.length - i)=i by omega,show (y.length:Int) - (x.length - i)=j by omega] at this
  exact this
 | hk::hs,a,⟨b,hab,ho,hE,hr⟩,i,j,e,hi,hj,he,hec,he0,hix,hjy=>by
  have hb:=hr.le
  have hob:b < l.length→opens l ctx b:=by
   intro hlt
   cases hs with
   | nil=>exact absurd hr (by show ¬b=l.length;omega)
   | cons h2 hs2=>obtain ⟨_,_,ho2,_⟩:=hr;exact ho2
  obtain ⟨w1,w2,w3,w4,w5⟩:=h.after hc hb hob (by omega)
  obtain ⟨q1,q2,q3⟩:=h.before hc (show a < l.length by omega) ho
  have H:=h.hunk hc hab hb ho hob
  rw [←hE] at H
  obtain ⟨P,hP⟩:∃P,P=V9 l x y hk:=⟨_,rfl⟩
  rw [←hP] at H
  have ih:=ScFit.chain h hc hs b hr (P.Old+A48 P) (P.New+A49 P) (eB l x.length ctx b) H.oe H.ne w1 w2 (by omega) H.ox H.ny
  obtain ⟨k1,⟨k2,k2'⟩,k3,⟨k4,k4'⟩,k5,k6,k7,k8⟩:=x4 _ _ _ _ _ _ h.sc a (show a < l.length by omega)
  have h1:=H.old
  have h2:=H.new
  have h3:=H.o0
  have h4:=H.n0
  have hgap:e+eA l ctx a≤(cAt l a).Old - eoI 0 l a:=by
   by_cases h0:a=0
   ·have:=he0 h0;omega
   ·have:=B50 ho h0;omega
  obtain ⟨r1,r2,r3,r4⟩:=h.nn a (by omega)
  have hij:i≤P.Old∧j≤P.New∧P.Old - i=P.New - j∧0≤i∧0≤j:=by omega
  have hrun:=E10 _ _ _ _ _ h.eq a (show a < l.length by omega)
  have t1:=B34 (e:=(cAt l a).Old - i) hrun r1 r2 (by omega) (by omega) (by omega)
  rw [show (cAt l a).Old - ((cAt l a).Old - i)=i by omega,show (cAt l a).New - ((cAt l a).Old - i)=j by omega] at t1
  have t2:=E11 (e:=P.Old - i) t1 (by omega) (by omega) (by omega) (by omega) (by omega)
  rw [show i+(P.Old - i)=P.Old by omega,show j+(P.Old - i)=P.New by omega] at t2
  rw [J08,←hP]
  exact ⟨⟨t2,H.ol,H.nl⟩,⟨by omega,by omega,hij.1,hij.2.1,H.ox,H.ny⟩,ih⟩
end Go.AL
namespace Go.AL
open Go
def Y5 (c:UInt8):Bool:=decide (48≤c.toNat∧c.toNat≤57)
def K3 (s:Str):Str:=s.takeWhile Y5
def A11 (ds:Str):Nat:=ds.foldl (fun n c=>10*n+(c.toNat - 48)) 0
def Z2 (s:Str):Option (Nat × Nat) :=
 if K3 s=[]∨(s.head?=some 48∧1 < (K3 s).length)∨2147483647 < A11 (K3 s) then none else some (A11 (K3 s),(K3 s).length)
theorem F08 (ds:Str) (c:UInt8):A11 (ds++[c])=10*A11 ds+(c.toNat - 48):=by
 unfold A11;rw [J42];rfl
theorem r9 (k:Nat) (h:k < 10):(UInt8.ofNat (48+k)).toNat=48+k:=by
 rw [UInt8.toNat_ofNat'];omega
theorem B96 (u:Nat):(∀c∈Lib.decDigits u,Y5 c=true)∧A11 (Lib.decDigits u)=u∧Lib.decDigits u≠[]∧((Lib.decDigits u).head?=some 48→u=0)∧(1 < (Lib.decDigits u).length→10≤u):=by
 induction u using Nat.strongRecOn with
 | _ u ih =>
  rw [Lib.decDigits]
  split
  ·rename_i h
   refine ⟨?_,?_,by simp,?_,by simp⟩
   ·intro c hc
    simp only [J31,J33,or_false] at hc
    subst hc;unfold Y5;rw [r9 u h];simp;omega
   ·unfold A11;simp only [J39,List.foldl_nil];rw [r9 u h];omega
   ·intro h1
    simp only [List.head?_cons,Option.some.injEq] at h1
    have:=congrArg UInt8.toNat h1
    rw [r9 u h] at this
    have e:(48:UInt8).toNat=48:=rfl
    omega
  ·rename_i h
   obtain ⟨h1,h2,h3,h4,h5⟩:=ih (u / 10) (by omega)
   have h6:u % 10 < 10:=Nat.mod_lt _ (by omega)
   refine ⟨?_,?_,by simp,?_,fun _=>by omega⟩
   ·intro c hc
    rcases List.mem_append.1 hc with hc | hc
    ·exact h1 c hc
    ·simp only [J31,J33,or_false] at hc
     subst hc;unfold Y5;rw [r9 _ h6];simp;omega
   ·rw [F08,h2,r9 _ h6];omega
   ·intro h7
    rw [List.head?_append] at h7
    cases hd:(Lib.decDigits (u / 10)).head? with
    | none=>exact absurd (List.head?_eq_none_iff.1 hd) h3
    | some x =>
     rw [hd] at h7
     have h7:x=48:=by simpa using h7
     have:=h4 (by rw [hd,h7])
     omega
theorem I52 {ds t:Str} (h:∀c∈ds,Y5 c=true) (ht:∀c,t.head?=some c→Y5 c=false):K3 (ds++t)=ds:=by
 unfold K3
 rw [List.takeWhile_append_of_pos h]
 cases t with
 | nil=>simp
 | cons c r=>rw [List.takeWhile_cons,ht c rfl];simp
theorem C47 {n:Int} (h0:0≤n) (h1:n≤2147483647):H4 n=Lib.decDigits n.toNat:=by
 unfold H4 Lib.itoa;rw [if_neg (by omega),if_neg (by omega)]
theorem B52 {n:Int} {t:Str} (h0:0≤n) (h1:n≤2147483647) (ht:∀c,t.head?=some c→Y5 c=false):Z2 (H4 n++t)=some (n.toNat,(H4 n).length):=by
 rw [C47 h0 h1]
 obtain ⟨h2,h3,h4,h5,h6⟩:=B96 n.toNat
 have e:=I52 h2 ht
 unfold Z2
 rw [e,h3]
 rw [if_neg]
 rintro (h | ⟨h,h'⟩ | h)
 ·exact h4 h
 ·have h7:(Lib.decDigits n.toNat).head?=some 48:=by
   rw [List.head?_append] at h
   cases hd:(Lib.decDigits n.toNat).head? with
   | none=>exact absurd (List.head?_eq_none_iff.1 hd) h4
   | some x=>rw [hd] at h;simpa using h
  have:=h5 h7;have:=h6 h';omega
 ·omega
def C92 (s:Str) (a c:Nat) (e:Nat):Option (Int × Int × Nat) :=
 if G4 (if 0 < c then (a:Int) - 1 else a) c=s.take e then some ((if 0 < c then (a:Int) - 1 else a),(c:Int),e) else none
def n8 (s:Str):Option (Int × Int × Nat) :=
 match Z2 s with
 | none=>none
 | some (a,k)=>if s[k]?=some 44 then (match Z2 (s.drop (k+1)) with | none=>none | some (c,k2)=>C92 s a c (k+1+k2)) else C92 s a 1 k
theorem C93 {s:Str} {a c e:Nat} {st:Int} (hst:st=if 0 < c then (a:Int) - 1 else a) (h:G4 st c=s.take e):C92 s a c e=some (st,(c:Int),e):=by
 unfold C92;rw [←hst,if_pos h]
theorem I05 {a n:Int} {t:Str} (h0:0≤a) (h1:0≤n) (h2:a≤2147483647) (h3:n≤2147483647 - a) (ht:∀c,t.head?=some c→Y5 c=false∧c≠44):n8 (G4 a n++t)=some (a,n,(G4 a n).length):=by
 have hr:G4 a n=if n=0 then H4 a++[44,48] else if n=1 then H4 (a+1) else H4 (a+1)++[44]++H4 n:=by
  unfold G4;rw [if_neg (by omega)]
 have hf0:H4 0=[48]:=by rw [C47 (by omega) (by omega)];rw [Lib.decDigits];rfl
 have hd44:Y5 44=false:=by decide
 have hT:(G4 a n++t).take (G4 a n).length=G4 a n:=List.take_left
 by_cases hn0:n=0
 ·subst hn0
  rw [if_pos rfl] at hr
  have e1:G4 a 0++t=H4 a++(44::(H4 0++t)):=by rw [hr,hf0];simp
  have ed:(H4 a++(44::(H4 0++t))).drop ((H4 a).length+1)=H4 0++t:=by rw [List.drop_append];simp
  have el:(H4 a).length+1+(H4 0).length=(G4 a 0).length:=by rw [hr,hf0];simp
  rw [e1] at hT ⊢
  unfold n8
  rw [B52 h0 h2 (by intro c hc;cases hc;exact hd44)]
  dsimp only
  rw [if_pos (by simp),ed,B52 (n:=0) (by omega) (by omega) (fun c hc=>(ht c hc).1)]
  dsimp only
  rw [el]
  exact C93 (st:=a) (c:=0) (by simp;omega) hT.symm
 ·by_cases hn1:n=1
  ·subst hn1
   rw [if_neg (by omega),if_pos rfl] at hr
   rw [hr] at hT ⊢
   unfold n8
   rw [B52 (by omega) (by omega) (fun c hc=>(ht c hc).1)]
   dsimp only
   rw [if_neg]
   ·exact C93 (st:=a) (c:=1) (by simp;omega) (by rw [hT];exact hr)
   ·rw [J18 (Nat.le_refl _),J52]
    cases t with
    | nil=>simp
    | cons c r=>simp;exact fun e=>(ht c rfl).2 e
  ·rw [if_neg hn0,if_neg hn1] at hr
   have e1:G4 a n++t=H4 (a+1)++(44::(H4 n++t)):=by rw [hr];simp
   have ed:(H4 (a+1)++(44::(H4 n++t))).drop ((H4 (a+1)).length+1)=H4 n++t:=by rw [List.drop_append];simp
   have el:(H4 (a+1)).length+1+(H4 n).length=(G4 a n).length:=by rw [hr];simp;omega
   have e4:((n.toNat:Nat):Int)=n:=by omega
   rw [e1] at hT ⊢
   unfold n8
   rw [B52 (by omega) (by omega) (by intro c hc;cases hc;exact hd44)]
   dsimp only
   rw [if_pos (by simp),ed,B52 (n:=n) (by omega) (by omega) (fun c hc=>(ht c hc).1)]
   dsimp only
   rw [el]
   have:=C93 (s:=H4 (a+1)++(44::(H4 n++t))) (a:=(a+1).toNat) (c:=n.toNat) (e:=(G4 a n).length) (st:=a) (by rw [if_pos (by omega)];omega) (by rw [hT,e4])
   rw [this,e4]
def octV (a b c:UInt8):Option UInt8 :=
 if ((((((a.toNat < 48∨55 < a.toNat)∨b.toNat < 48)∨55 < b.toNat)∨c.toNat < 48)∨55 < c.toNat)∨256≤64*(a.toNat - 48)+8*(b.toNat - 48)+(c.toNat - 48)) then none
 else some (UInt8.ofNat (64*(a.toNat - 48)+8*(b.toNat - 48)+(c.toNat - 48)))
def A95:Str→Option (UInt8 × Nat)
 | []=>none
 | d::r=>if d.toNat=34∨d.toNat=92 then some (d,1) else if d.toNat=110 then some (10,1) else if d.toNat=116 then some (9,1) else match r with
  | e::f::_=>(octV d e f).map fun x=>(x,3)
  | _=>none
theorem F09 {s:Str} {x:UInt8} {k:Nat} (h:A95 s=some (x,k)):1≤k∧k≤s.length:=by
 cases s with
 | nil=>cases h
 | cons d r =>
  simp only [A95] at h
  split at h
  ·cases h;simp
  ·split at h
   ·cases h;simp
   ·split at h
    ·cases h;simp
    ·split at h
     ·simp only [Option.map_eq_some_iff] at h
      obtain ⟨_,_,h⟩:=h
      cases h;simp
     ·cases h
def K7 (s:Str) (i:Nat) (acc:Str):Option (Str × Nat) :=
 if h:i < s.length then
  if s[i].toNat=34 then some (acc,i+1)
  else if s[i].toNat=92 then (match he:A95 (s.drop (i+1)) with | none=>none | some (x,k)=>K7 s (i+1+k) (acc++[x]))
  else K7 s (i+1) (acc++[s[i]])
 else none
termination_by s.length - i
decreasing_by all_goals omega
def X2 (s:Str):Option (Str × Nat) :=
 if s.head?=some 34 then (match K7 s 1 [] with | none=>none | some (w,k)=>if H2 w=s.take k then some (w,k) else none)
 else if s.takeWhile O8=[] then none else some (s.takeWhile O8,(s.takeWhile O8).length)
theorem H01 {s:Str} (n:Nat):∀{i:Nat} {acc w:Str} {k:Nat},s.length - i≤n→K7 s i acc=some (w,k)→i < k∧k≤s.length∧w.length+i≤acc.length+k:=by
 induction n with
 | zero =>
  intro i acc w k hn h
  rw [K7,dif_neg (by omega)] at h;cases h
 | succ n ih =>
  intro i acc w k hn h
  rw [K7] at h
  split at h
  ·rename_i hi
   split at h
   ·cases h;omega
   ·split at h
    ·split at h
     ·cases h
     ·rename_i x k' he
      have h1:=F09 he
      rw [J12] at h1
      have:=ih (by omega) h
      rw [J01] at this;simp only [J02,J05] at this;omega
    ·have:=ih (by omega) h
     rw [J01] at this;simp only [J02,J05] at this;omega
  ·cases h
theorem I53 (c:UInt8) (pre r acc:Str):K7 (pre++(M7 c++(r++[34]))) pre.length acc=K7 (pre++(M7 c++(r++[34]))) (pre.length+(M7 c).length) (acc++[c]):=by
 have hc:=c.toNat_lt
 have hget:∀(d:UInt8) (l:Str),(pre++d::l)[pre.length]?=some d:=by intro d l;rw [J18 (Nat.le_refl _),J52];rfl
 have hdrop:∀(d:UInt8) (l:Str),(pre++d::l).drop (pre.length+1)=l:=by intro d l;rw [List.drop_append];simp
 have e92:(92:UInt8).toNat=92:=rfl
 have e110:(110:UInt8).toNat=110:=rfl
 have e116:(116:UInt8).toNat=116:=rfl
 have key:∀(l:Str) (k:Nat),A95 (l++(r++[34]))=some (c,k)→k=l.length→K7 (pre++((92::l)++(r++[34]))) pre.length acc=K7 (pre++((92::l)++(r++[34]))) (pre.length+(92::l).length) (acc++[c]):=by
  intro l k hl hk
  subst hk
  rw [K7,dif_pos (by simp)]
  have hg:(pre++((92::l)++(r++[34])))[pre.length]'(by simp)=92:=by
   have:=hget 92 (l++(r++[34]))
   rw [J03 (by simp)] at this
   exact Option.some.inj this
  rw [hg,if_neg (by decide),if_pos e92]
  have hd:(pre++((92::l)++(r++[34]))).drop (pre.length+1)=l++(r++[34]):=hdrop 92 _
  split
  ·rename_i he;rw [hd,hl] at he;cases he
  ·rename_i x k' he
   rw [hd,hl] at he;cases he
   rw [J02,show pre.length+1+l.length=pre.length+(l.length+1) by omega]
 unfold M7
 split
 ·rename_i h
  refine key [c] 1 ?_ rfl
  simp only [J32,J29,A95]
  rw [if_pos h]
 ·rename_i h
  split
  ·rename_i h1
   refine key [110] 1 ?_ rfl
   simp only [J32,J29,A95]
   rw [if_neg (by decide),if_pos (by decide)]
   have:c=10:=UInt8.toNat_inj.1 h1
   rw [this]
  ·rename_i h1
   split
   ·rename_i h2
    refine key [116] 1 ?_ rfl
    simp only [J32,J29,A95]
    rw [if_neg (by decide),if_neg (by decide),if_pos (by decide)]
    have:c=9:=UInt8.toNat_inj.1 h2
    rw [this]
   ·rename_i h2
    split
    ·rename_i h3
     refine key (C37 c) 3 ?_ (by rw [A22];rfl)
     rw [A22]
     have t:∀k,k < 8→(UInt8.ofNat (48+k)).toNat=48+k:=fun k hk=>r9 k (by omega)
     have t1:=t (c.toNat / 64) (by omega)
     have t2:=t (c.toNat / 8 % 8) (by omega)
     have t3:=t (c.toNat % 8) (by omega)
     simp only [J32,J29,A95]
     rw [t1,if_neg (by omega),if_neg (by omega),if_neg (by omega)]
     unfold octV
     rw [t1,t2,t3,if_neg (by omega)]
     simp only [Option.map_some,Option.some.injEq,Prod.mk.injEq,and_true]
     apply UInt8.toNat_inj.1
     rw [UInt8.toNat_ofNat'];omega
    ·rw [K7,dif_pos (by simp)]
     have hg:(pre++([c]++(r++[34])))[pre.length]'(by simp)=c:=by
      have:=hget c (r++[34])
      rw [J03 (by simp)] at this
      exact Option.some.inj this
     rw [hg,if_neg (by omega),if_neg (by omega)]
     rfl
theorem word_go (w:Str):∀(pre acc:Str),K7 (pre++((w.map M7).flatten++[34])) pre.length acc=some (acc++w,(pre++((w.map M7).flatten++[34])).length):=by
 induction w with
 | nil =>
  intro pre acc
  rw [K7,dif_pos (by simp)]
  have hg:(pre++((([]:Str).map M7).flatten++[34]))[pre.length]'(by simp)=34:=by simp
  rw [hg,if_pos (show (34:UInt8).toNat=34 from rfl)];simp
 | cons c r ih =>
  intro pre acc
  have e:(((c::r).map M7).flatten++[34])=M7 c++((r.map M7).flatten++[34]):=by simp
  rw [e,I53]
  have h1:=ih (pre++M7 c) (acc++[c])
  rw [J13,J01,J13 acc] at h1
  exact h1
theorem B77 {p:UInt8→Bool}:∀{w:Str},w.all p=true→w.takeWhile p=w
 | [],_=>rfl
 | c::r,h=>by
  simp only [List.all_cons,J04] at h
  rw [List.takeWhile_cons,if_pos h.1,B77 h.2]
theorem H02 (w:Str):X2 (H2 w)=some (w,(H2 w).length):=by
 unfold X2
 by_cases h:w≠[]∧w.all O8=true
 ·have e:H2 w=w:=by unfold H2;rw [if_pos h]
  rw [e]
  have e2:w.takeWhile O8=w:=by
   exact B77 h.2
  rw [e2,if_neg,if_neg h.1]
  intro h34
  cases w with
  | nil=>exact h.1 rfl
  | cons c r =>
   simp only [List.head?_cons,Option.some.injEq] at h34
   subst h34
   have:=h.2
   simp only [List.all_cons,J04] at this
   exact absurd this.1 (by decide)
 ·have e:H2 w=[34]++((w.map M7).flatten++[34]):=by unfold H2;rw [if_neg h];rfl
  have e2:=word_go w [34] []
  rw [←e] at e2
  rw [if_pos (by rw [e];rfl),show K7 (H2 w) 1 []=_ from e2]
  dsimp only
  rw [J29,J23,if_pos rfl]
end Go.AL
namespace Go.AL
open Go
def s5 (s:Str):Option (List Str):=if s=[] then some [] else if ended s=true then some ((C8 s).map List.dropLast) else none
theorem A82 (a b cur:Str) (h:(10:UInt8)∉a):G1 cur (a++10::b)=(cur++a++[10])::G1 [] b:=by
 induction a generalizing cur with
 | nil=>simp [G1]
 | cons c r ih =>
  simp only [J31,not_or] at h
  rw [J32,U7,if_neg (fun e=>h.1 e.symm),ih _ h.2];simp
def P1 (ts:List Str):Str:=(ts.map fun t=>t++[10]).flatten
theorem C48:∀(ts:List Str),(∀t∈ts,(10:UInt8)∉t)→C8 (P1 ts)=ts.map fun t=>t++[10]
 | [],_=>rfl
 | t::r,h=>by
  have ih:=C48 r (fun x hx=>h x (by simp [hx]))
  have e:P1 (t::r)=t++10::P1 r:=by unfold P1;simp
  have h1:=A82 t (P1 r) [] (h t (by simp))
  unfold C8 at ih ⊢
  rw [e,h1,ih];simp
theorem C94 (a:Str):ended (a++[10])=true:=by unfold ended;simp
theorem ended_iff {s:Str}:ended s=true↔∃a,s=a++[10]:=by
 constructor
 ·intro h
  unfold ended at h
  have h:s.getLast?=some 10:=by simpa using h
  obtain ⟨ys,hy⟩:=List.getLast?_eq_some_iff.1 h
  exact ⟨ys,hy⟩
 ·rintro ⟨a,rfl⟩;exact C94 a
theorem F66 {ts:List Str} (h:ts≠[]):ended (P1 ts)=true:=by
 have hl:=List.dropLast_concat_getLast h
 rw [ended_iff]
 refine ⟨P1 ts.dropLast++ts.getLast h,?_⟩
 conv=>lhs;rw [←hl]
 unfold P1;simp
theorem G39 (ts:List Str) (h:∀t∈ts,(10:UInt8)∉t):s5 (P1 ts)=some ts:=by
 unfold s5
 by_cases hn:ts=[]
 ·subst hn;rfl
 ·have he:=F66 hn
  have h0:P1 ts≠[]:=fun e=>by rw [e] at he;cases he
  rw [if_neg h0,if_pos he,C48 ts h,J46]
  congr 1
  conv=>rhs;rw [←List.map_id ts]
  refine List.map_congr_left fun t _=>?_
  simp
def noNl:Str:=[92,32,78,111,32,110,101,119,108,105,110,101,32,97,116,32,101,110,100,32,111,102,32,102,105,108,101]
theorem I54:markS=[10]++noNl++[10]:=rfl
theorem E18 (a b:List Str):P1 (a++b)=P1 a++P1 b:=by unfold P1;simp
theorem B36 (a:Str) (b:List Str):P1 (a::b)=a++[10]++P1 b:=by unfold P1;simp
theorem I06 {n:Int} (h0:0≤n) (h1:n≤2147483647):(10:UInt8)∉H4 n:=by
 rw [C47 h0 h1]
 intro h
 have:=(B96 n.toNat).1 _ h
 revert this;decide
theorem I55 (n:Int):(10:UInt8)∉H4 n:=by
 by_cases h:n < 0∨2147483647 < n
 ·unfold H4;rw [if_pos h];simp
 ·exact I06 (by omega) (by omega)
theorem I56 (c:UInt8):(10:UInt8)∉M7 c:=by
 have hc:=c.toNat_lt
 have hn:∀{d:UInt8},d.toNat≠10→(10:UInt8)≠d:=fun h e=>h (by rw [←e];rfl)
 unfold M7
 split
 ·rename_i h;simp only [J31,J33,or_false,not_or];exact ⟨by decide,hn (by omega)⟩
 ·split
  ·decide
  ·split
   ·decide
   ·split
    ·rw [A22]
     have t:∀k,k < 8→(10:UInt8)≠UInt8.ofNat (48+k):=fun k hk=>hn (by rw [r9 k (by omega)];omega)
     simp only [J31,J33,or_false,not_or]
     exact ⟨by decide,t _ (by omega),t _ (by omega),t _ (by omega)⟩
    ·simp only [J31,J33,or_false];exact hn (by omega)
theorem H03 (w:Str):(10:UInt8)∉H2 w:=by
 unfold H2
 split
 ·rename_i h
  intro hm
  have:=List.all_eq_true.1 h.2 _ hm
  revert this;decide
 ·simp only [J31,J50,List.mem_flatten,List.mem_map,J33,or_false,not_or,not_exists,not_and]
  refine ⟨by decide,?_,by decide⟩
  rintro l ⟨x,_,rfl⟩
  exact I56 x
def B37 (t:Str):Str:=if ended t=true then t.dropLast else t
theorem check12_good {p:Patch} (h:C41 p=0):C89 p.Hunks=true:=by
 unfold C41 at h
 split at h
 ·cases h
 ·split at h
  ·cases h
  ·rename_i h1;simpa using h1
end Go.AL
namespace Go.AL
open Go
end Go.AL
namespace Go.AL
open Go
structure CHunk where
 At:List Int
 Rows:List Row
 deriving DecidableEq
structure Comb where
 Path:Str
 Dense:Bool
 Parents:Int
 Hunks:List CHunk
 deriving DecidableEq
def K4:CHunk→Nat→Cell:=fun h j=>match j with
 | 0=>.list Int 1 L1 h.At
 | _=>.list Row 3 rowC h.Rows
abbrev A83 (h:CHunk):PV:=.agg [.list Int 1 L1 h.At,.list Row 3 rowC h.Rows]
abbrev K9 (c:Comb):PV:=.agg [.v (.string ⟨c.Path.toArray⟩),.v (.bool c.Dense),.v (.int .i64 c.Parents),.list CHunk 2 K4 c.Hunks]
def comb0:Comb:=⟨[],false,0,[]⟩
def R1 (n k:Nat):Int:=if k=n then -1 else k
def N1 (rows:List Row) (n k:Nat):Int:=(N8 rows (R1 n k)).length
def W0 (rows:List Row) (n:Nat):List Int:=(List.range (n+1)).map (N1 rows n)
def atS (n:Nat):Str:=List.replicate n 64
def g9 (n k:Nat):UInt8:=if k=n then 43 else 45
def A96 (n:Nat) (h:CHunk) (k:Nat):Str:=[32,g9 n k]++G4 (h.At.getD k 0) (N1 h.Rows n k)
def P2 (n:Nat) (h:CHunk) (k:Nat):Str:=((List.range k).map (A96 n h)).flatten
def T5 (n:Nat) (h:CHunk):Str:=atS (n+1)++P2 n h (n+1)++[32]++atS (n+1)
def c9 (r:Row) (p:Nat):UInt8:=if A19 r.Marks p=false then 32 else if r.Lost then 45 else 43
def L4 (n:Nat) (r:Row):Str:=(List.range n).map (c9 r)
def B78 (n:Nat) (r:Row):List Str:=if ended r.Text=true then [L4 n r++r.Text.dropLast] else [L4 n r++r.Text,noNl]
def P7 (n:Nat) (r:Row):List Str:=if ended r.Text=true then [L4 n r++r.Text] else [L4 n r++r.Text,markS]
def y8 (n:Nat) (h:CHunk):List Str:=T5 n h::(h.Rows.map (B78 n)).flatten
def L0 (n:Nat) (h:CHunk):List Str:=(T5 n h++[10])::(h.Rows.map (P7 n)).flatten
def ccS:Str:=[100,105,102,102,32,45,45,99,99,32]
def combS:Str:=[100,105,102,102,32,45,45,99,111,109,98,105,110,101,100,32]
def parS:Str:=[112,97,114,101,110,116,115,32]
def u9 (d:Bool):Str:=if d=true then ccS else combS
def B38 (c:Comb):List Str:=(u9 c.Dense++H2 c.Path)::(parS++H4 c.Parents)::(c.Hunks.map (y8 c.Parents.toNat)).flatten
def F67 (c:Comb):List Str:=(u9 c.Dense++H2 c.Path++[10])::(parS++H4 c.Parents++[10])::(c.Hunks.map (L0 c.Parents.toNat)).flatten
def O9 (c:Comb):Str:=(F67 c).flatten
theorem H04 (n:Nat) (r:Row):P1 (B78 n r)=(P7 n r).flatten:=by
 unfold B78 P7
 by_cases h:ended r.Text=true
 ·rw [if_pos h,if_pos h]
  obtain ⟨a,ha⟩:=ended_iff.1 h
  rw [ha];unfold P1;simp
 ·rw [if_neg h,if_neg h,I54];unfold P1;simp
theorem G40 (n:Nat) (rs:List Row):P1 ((rs.map (B78 n)).flatten)=((rs.map (P7 n)).flatten).flatten:=by
 induction rs with
 | nil=>rfl
 | cons x r ih=>simp only [J08,J14,E18,ih,H04,J27]
theorem F68 (n:Nat) (h:CHunk):P1 (y8 n h)=(L0 n h).flatten:=by
 unfold y8 L0
 rw [B36,G40,J14]
theorem G41 (c:Comb):P1 (B38 c)=O9 c:=by
 unfold B38 O9 F67
 rw [B36,B36]
 have h:∀(n:Nat) (hs:List CHunk),P1 ((hs.map (y8 n)).flatten)=((hs.map (L0 n)).flatten).flatten:=by
  intro n hs
  induction hs with
  | nil=>rfl
  | cons x r ih=>simp only [J08,J14,E18,ih,F68,J27]
 rw [h];simp
def A34 (n:Nat) (ends:List Int) (h:CHunk):Bool:=decide (h.At.length=n+1∧h.Rows≠[])&&(List.range (n+1)).all fun k=>decide ((ends.getD k 0≤h.At.getD k 0∧h.At.getD k 0≤4096)∧h.At.getD k 0+N1 h.Rows n k≤4096)
def T3 (n:Nat) (h:CHunk):List Int:=(List.range (n+1)).map fun k=>h.At.getD k 0+N1 h.Rows n k
def U5 (n:Nat) (ends:List Int):List CHunk→Bool
 | []=>true
 | h::r=>A34 n ends h&&U5 n (T3 n h) r
def J1 (hs:List CHunk):List Row:=(hs.map (·.Rows)).flatten
def P0 (n:Nat) (hs:List CHunk):Bool:=U5 n (List.replicate (n+1) 0) hs&&l7 (J1 hs) n
def V2 (n:Nat) (hs:List CHunk):Bool:=hs.all fun h=>M4 h.Rows n
def G5 (c:Comb):Int:=if T0 c.Path=false then 120 else if c.Parents < 1∨32 < c.Parents then 2 else if V2 c.Parents.toNat c.Hunks=false then 180 else if P0 c.Parents.toNat c.Hunks=false then 121 else if 16777216 < (O9 c).length then 1 else 0
theorem C49 {n:Nat} {r:Row} (h:X0 n r=true):0≤r.Marks∧r.Marks < 2 ^ n∧(r.Lost=true→r.Marks≠0):=by
 unfold X0 at h
 simp only [J04,beq_iff_eq,Bool.not_eq_true',Bool.and_eq_false_iff,beq_eq_false_iff_ne] at h
 obtain ⟨h1,h2⟩:=h
 have hp:(0:Int) < 2 ^ n:=Int.pow_pos (by decide)
 have h3:=Int.emod_add_mul_ediv r.Marks (2 ^ n)
 have h4:=Int.emod_nonneg r.Marks (Int.ne_of_gt hp)
 have h5:=Int.emod_lt_of_pos r.Marks hp
 rw [h1,Int.mul_zero,Int.add_zero] at h3
 rw [h3] at h4 h5
 refine ⟨h4,h5,fun hl=>?_⟩
 rcases h2 with h2 | h2
 ·rw [hl] at h2;cases h2
 ·exact h2
theorem pow32 {n:Nat} (h:n≤32):(2:Int) ^ n≤4294967296:=by
 have h1:(2:Nat) ^ n≤2 ^ 32:=Nat.pow_le_pow_right (by omega) h
 have h2:((2 ^ n:Nat):Int)=2 ^ n:=by simp
 have h3:(2:Nat) ^ 32=4294967296:=rfl
 omega
theorem I57 {n:Nat} (hn:n≤32) {rows:List Row} (h:M4 rows n=true):I8 rows:=by
 intro r hr
 have h1:=C49 (List.all_eq_true.1 h r hr)
 have:=pow32 hn
 omega
def X3 (n:Nat) (ends:List Int) (h:CHunk):Bool:=decide (h.At.length=n+1∧h.Rows≠[])&&(List.range (n+1)).all fun k=>decide (ends.getD k 0≤h.At.getD k 0∧h.At.getD k 0≤4096)
def l9 (res:Bool) (rows:List Row):Bool:=rows.foldl B29 res
def m8 (par:Int) (rows:List Row):Int:=rows.foldl B30 par
def m9 (n:Nat) (ends:List Int) (res:Bool) (par:Int):List CHunk→Bool
 | []=>decide (∀e∈ends,e≤4096)
 | h::r=>X3 n ends h&&(S8 res par h.Rows&&m9 n (T3 n h) (l9 res h.Rows) (m8 par h.Rows) r)
theorem E19:∀(a b:List Row) (res:Bool) (par:Int),S8 res par (a++b)=(S8 res par a&&S8 (l9 res a) (m8 par a) b)
 | [],b,res,par=>by simp [S8,l9,m8]
 | x::a,b,res,par=>by
  rw [J32,S8,S8,E19 a b]
  simp only [l9,m8,J39,Bool.and_assoc]
theorem B39 (f:Nat→Int) (n k:Nat) (h:k < n):((List.range n).map f).getD k 0=f k:=by
 rw [J06,J34,J38 h];rfl
theorem E20 {n:Nat} {ends:List Int} (hl:ends.length=n+1):(∀e∈ends,e≤4096)↔∀k,k < n+1→ends.getD k 0≤4096:=by
 constructor
 ·intro h k hk
  rw [J06,J03 (by omega)]
  exact h _ (J19 _)
 ·intro h e he
  obtain ⟨k,hk,rfl⟩:=List.getElem_of_mem he
  have:=h k (by omega)
  rwa [J06,J03 hk] at this
theorem A84 (n:Nat) (h:CHunk):(T3 n h).length=n+1:=by unfold T3;simp
theorem D24 (n:Nat):∀(hs:List CHunk) (ends:List Int) (res:Bool) (par:Int),ends.length=n+1 →
  m9 n ends res par hs=(decide (∀e∈ends,e≤4096)&&U5 n ends hs&&S8 res par (J1 hs))
 | [],ends,res,par,_=>by simp [m9,U5,J1,S8]
 | h::r,ends,res,par,hl=>by
  have ih:=D24 n r (T3 n h) (l9 res h.Rows) (m8 par h.Rows) (A84 n h)
  have e1:J1 (h::r)=h.Rows++J1 r:=by simp [J1]
  rw [m9,ih,U5,e1,E19]
  have e2:(X3 n ends h&&decide (∀e∈T3 n h,e≤4096))=(decide (∀e∈ends,e≤4096)&&A34 n ends h):=by
   rw [Bool.eq_iff_iff]
   unfold X3 A34
   simp only [J04,decide_eq_true_eq,List.all_eq_true,List.mem_range]
   rw [E20 hl,E20 (A84 n h)]
   have e3:∀k,k < n+1→(T3 n h).getD k 0=h.At.getD k 0+N1 h.Rows n k:=fun k hk=>B39 _ _ _ hk
   constructor
   ·rintro ⟨⟨h1,h2⟩,h3⟩
    exact ⟨fun k hk=>by have:=h2 k hk;omega,h1,fun k hk=>⟨h2 k hk,by have:=h3 k hk;rwa [e3 k hk] at this⟩⟩
   ·rintro ⟨_,h2,h3⟩
    exact ⟨⟨h2,fun k hk=>(h3 k hk).1⟩,fun k hk=>by rw [e3 k hk];exact (h3 k hk).2⟩
  generalize X3 n ends h=A at e2 ⊢
  generalize decide (∀e∈T3 n h,e≤4096)=B at e2 ⊢
  generalize decide (∀e∈ends,e≤4096)=C at e2 ⊢
  generalize A34 n ends h=D at e2 ⊢
  generalize S8 res par h.Rows=E
  generalize U5 n (T3 n h) r=F
  generalize S8 (l9 res h.Rows) (m8 par h.Rows) (J1 r)=G
  cases A<;>cases B<;>cases C<;>cases D<;>first | (cases e2;done) | (cases E<;>cases F<;>cases G<;>rfl)
theorem F10 {n:Nat} {hs:List CHunk} (h:V2 n hs=true):M4 (J1 hs) n=true:=by
 unfold M4 J1
 rw [List.all_eq_true]
 intro r hr
 obtain ⟨l,h1,h2⟩:=List.mem_flatten.1 hr
 obtain ⟨x,hx,rfl⟩:=List.mem_map.1 h1
 exact List.all_eq_true.1 (List.all_eq_true.1 h x hx) r h2
theorem G42 {n:Nat} (hn:n≤32) {hs:List CHunk} (h:V2 n hs=true):m9 n (List.replicate (n+1) 0) false 0 hs=P0 n hs:=by
 rw [D24 n hs _ _ _ (List.length_replicate ..),G97 _ n hn (F10 h) (I57 hn (F10 h))]
 have:∀L:List Int,(∀e∈L,e≤4096)→decide (∀e∈L,e≤4096)=true:=fun L h=>decide_eq_true h
 rw [this _ (fun e he=>by have:=(List.mem_replicate.1 he).2;omega)];rfl
theorem C95 {n:Nat}:∀(hs:List CHunk) (ends:List Int),(∀k,k < n+1→0≤ends.getD k 0)→U5 n ends hs=true→∀h∈hs,h.At.length=n+1∧h.Rows≠[]∧∀k,k < n+1→0≤h.At.getD k 0∧h.At.getD k 0+N1 h.Rows n k≤4096
 | [],_,_,_,h,hm=>by cases hm
 | x::r,ends,he,hg,h,hm=>by
  rw [U5,J04] at hg
  obtain ⟨h1,h2⟩:=hg
  unfold A34 at h1
  simp only [J04,decide_eq_true_eq,List.all_eq_true,List.mem_range] at h1
  obtain ⟨⟨h3,h4⟩,h5⟩:=h1
  have hx:∀k,k < n+1→0≤x.At.getD k 0∧x.At.getD k 0+N1 x.Rows n k≤4096:=fun k hk=>by have:=h5 k hk;have:=he k hk;omega
  rcases List.mem_cons.1 hm with rfl | hm
  ·exact ⟨h3,h4,hx⟩
  ·refine C95 r _ (fun k hk=>?_) h2 h hm
   rw [show (T3 n x).getD k 0=x.At.getD k 0+N1 x.Rows n k from B39 _ _ _ hk]
   have:=hx k hk
   have:0≤N1 x.Rows n k:=by unfold N1;omega
   omega
structure CRead (n:Nat) (h:CHunk):Prop where
 len:h.At.length=n+1
 ne:h.Rows≠[]
 at0:∀k,k < n+1→0≤h.At.getD k 0∧h.At.getD k 0+N1 h.Rows n k≤4096
 rows:∀r∈h.Rows,X0 n r=true∧I0 r.Text=true
theorem A85 {c:Comb} (h:G5 c=0):(1≤c.Parents.toNat∧c.Parents.toNat≤32)∧c.Parents=(c.Parents.toNat:Int)∧(∀x∈c.Hunks,CRead c.Parents.toNat x)∧(O9 c).length≤16777216∧T0 c.Path=true:=by
 unfold G5 at h
 split at h
 ·cases h
 ·rename_i h0
  split at h
  ·cases h
  ·rename_i h1
   split at h
   ·cases h
   ·rename_i h2
    split at h
    ·cases h
    ·rename_i h3
     split at h
     ·cases h
     ·rename_i h4
      refine ⟨by omega,by omega,?_,by omega,by simpa using h0⟩
      intro x hx
      have h2:V2 c.Parents.toNat c.Hunks=true:=by simpa using h2
      have h3:P0 c.Parents.toNat c.Hunks=true:=by simpa using h3
      unfold P0 at h3
      rw [J04] at h3
      obtain ⟨a1,a2,a3⟩:=C95 c.Hunks _ (fun k hk=>by rw [J06,List.getElem?_replicate_of_lt hk];exact Int.le_refl _) h3.1 x hx
      refine ⟨a1,a2,a3,fun r hr=>⟨List.all_eq_true.1 (List.all_eq_true.1 h2 x hx) r hr,?_⟩⟩
      have h5:=h3.2
      unfold l7 at h5
      rw [J04] at h5
      exact List.all_eq_true.1 h5.1 r (List.mem_flatten.2 ⟨x.Rows,List.mem_map.2 ⟨x,hx,rfl⟩,hr⟩)
def H0 (c:UInt8) (s:Str):Nat→Nat
 | 0=>0
 | k+1=>H0 c s k+if s.getD k 0=c then 2 ^ k else 0
def A50 (c:UInt8):Bool:=decide (c=32∨c=43∨c=45)
def rowAt (s:Str) (n:Nat):Option Row :=
 if n < 1∨32 < n∨s.length < n∨(s.take n).all A50=false∨(H0 43 s n≠0∧H0 45 s n≠0) then none
 else some ⟨decide (H0 45 s n≠0),((H0 43 s n+H0 45 s n:Nat):Int),s.drop n⟩
theorem D47 (c:UInt8) (s:Str):∀k,H0 c s k < 2 ^ k
 | 0=>by simp [H0]
 | k+1=>by
  have:=D47 c s k
  rw [H0,Nat.pow_succ]
  split<;>omega
theorem G43 {c d:UInt8} (h:c≠d) (s:Str):∀k,H0 c s k+H0 d s k < 2 ^ k
 | 0=>by simp [H0]
 | k+1=>by
  have:=G43 h s k
  rw [H0,H0,Nat.pow_succ]
  by_cases h1:s.getD k 0=c
  ·rw [if_pos h1,if_neg (fun e=>h (h1.symm.trans e))];omega
  ·rw [if_neg h1];split<;>omega
theorem R3 (n:Nat) (r:Row):(L4 n r).length=n:=by simp [L4]
theorem I07 (n:Nat) (r:Row) (t:Str) {k:Nat} (h:k < n):(L4 n r++t).getD k 0=c9 r k:=by
 rw [J06,J16 (by rw [R3];exact h)]
 unfold L4
 rw [J34,J38 h];rfl
theorem B97 (n:Nat) (r:Row):(L4 n r).all A50=true:=by
 rw [List.all_eq_true]
 intro c hc
 obtain ⟨p,_,rfl⟩:=List.mem_map.1 hc
 unfold c9
 split
 ·rfl
 ·split<;>rfl
theorem E21 {n m:Nat} {r:Row} (hm:r.Marks=(m:Int)) (t:Str):∀k,k≤n→H0 43 (L4 n r++t) k=(if r.Lost=true then 0 else m % 2 ^ k)∧H0 45 (L4 n r++t) k=(if r.Lost=true then m % 2 ^ k else 0)
 | 0,_=>by simp [H0,Nat.mod_one]
 | k+1,hk=>by
  obtain ⟨h1,h2⟩:=E21 (n:=n) hm t k (by omega)
  have hb:A19 r.Marks k=m.testBit k:=by rw [hm,C85]
  have h3:m % 2 ^ (k+1)=m % 2 ^ k+2 ^ k*(m / 2 ^ k % 2):=Nat.mod_pow_succ
  have h4:m.testBit k=decide (m / 2 ^ k % 2=1):=Nat.testBit_eq_decide_div_mod_eq
  rw [H0,H0,h1,h2,I07 n r t (k:=k) (by omega)]
  unfold c9
  rw [hb,h4]
  by_cases h5:m / 2 ^ k % 2=1
  ·rw [h5] at h3
   cases hl:r.Lost<;>simp [h5,h3]
  ·have h6:m / 2 ^ k % 2=0:=by omega
   rw [h6] at h3
   cases hl:r.Lost<;>simp [h6,h3]
theorem I58 {n:Nat} {r:Row} (hn:1≤n∧n≤32) (h:X0 n r=true) (t:Str):rowAt (L4 n r++t) n=some ⟨r.Lost,r.Marks,t⟩:=by
 obtain ⟨h1,h2,h3⟩:=C49 h
 obtain ⟨m,hm⟩:∃m:Nat,r.Marks=m:=⟨r.Marks.toNat,by omega⟩
 obtain ⟨h4,h5⟩:=E21 hm t n (Nat.le_refl _)
 have hmn:m < 2 ^ n:=by
  have e:((2 ^ n:Nat):Int)=2 ^ n:=by simp
  omega
 rw [Nat.mod_eq_of_lt hmn] at h4 h5
 have ht:(L4 n r++t).take n=L4 n r:=by rw [List.take_append_of_le_length (by rw [R3];omega),J45 (by rw [R3];omega)]
 have hd:(L4 n r++t).drop n=t:=by
  have:=List.drop_left (l₁:=L4 n r) (l₂:=t)
  rwa [R3] at this
 cases hl:r.Lost
 ·rw [hl,if_neg (by decide)] at h4 h5
  unfold rowAt
  rw [ht,hd,h4,h5,B97,J01,R3,if_neg (by simp;omega),hm];simp
 ·have h6:m≠0:=fun e=>h3 hl (by omega)
  rw [hl,if_pos rfl] at h4 h5
  unfold rowAt
  rw [ht,hd,h4,h5,B97,J01,R3,if_neg (by simp;omega),hm];simp [h6]
def M1 (c:UInt8):Str→List Str
 | []=>[[]]
 | x::r=>if x=c then []::M1 c r else match M1 c r with
  | []=>[[x]]
  | a::b=>(x::a)::b
theorem I08 (c:UInt8):∀s,M1 c s≠[]
 | []=>by simp [M1]
 | x::r=>by
  unfold M1
  split
  ·simp
  ·split<;>simp
theorem B40 {c:UInt8}:∀{a:Str},c∉a→M1 c a=[a]
 | [],_=>rfl
 | x::r,h=>by
  simp only [J31,not_or] at h
  unfold M1
  rw [if_neg (fun e=>h.1 e.symm),B40 h.2]
theorem B98 {c:UInt8} (b:Str):∀{a:Str},c∉a→M1 c (a++c::b)=a::M1 c b
 | [],_=>by
  show M1 c (c::b)=_
  rw [M1,if_pos rfl]
 | x::r,h=>by
  simp only [J31,not_or] at h
  rw [J32,M1,if_neg (fun e=>h.1 e.symm),B98 b h.2]
theorem n4 (c:UInt8):∀s,(M1 c s).length=s.count c+1
 | []=>rfl
 | x::r=>by
  have ih:=n4 c r
  unfold M1
  by_cases h:x=c
  ·rw [if_pos h,J02,ih,List.count_cons,if_pos (by simp [h])]
  ·rw [if_neg h,List.count_cons,if_neg (by simp [h])]
   split
   ·rename_i e;exact absurd e (I08 c r)
   ·rename_i a b e;rw [e] at ih;simpa using ih
def O5 (n:Nat):Nat→List Str→Option (List Int)
 | _,[]=>some []
 | k,w::r=>if w.take 1=[g9 n k] then (match n8 (w.drop 1) with
  | some (a,_,e)=>if e=(w.drop 1).length then (O5 n (k+1) r).map (a::·) else none
  | none=>none) else none
def B99 (n:Nat):Str:=[32]++atS (n+1)
def C50 (n:Nat):Str:=atS (n+1)++[32]
def Q2 (s p:Str):Bool:=decide (p.length≤s.length∧s.drop (s.length - p.length)=p)
def A09 (n:Nat) (l:Str):Option (List Int) :=
 if l.take (n+2)=C50 n∧Q2 (l.drop (n+2)) (B99 n)=true then
  (match O5 n 0 (M1 32 ((l.drop (n+2)).take ((l.drop (n+2)).length - (n+2)))) with
   | some a=>if a.length=n+1 then some a else none
   | none=>none)
 else none
theorem G44 {d:UInt8} (hd:d=10∨d=32) (a n:Int):d∉G4 a n:=by
 have hf:∀n:Int,d∉H4 n:=by
  intro n
  by_cases h:n < 0∨2147483647 < n
  ·unfold H4;rw [if_pos h];simp
  ·rw [C47 (by omega) (by omega)]
   intro h
   have:=(B96 n.toNat).1 _ h
   rcases hd with rfl | rfl<;>(revert this;decide)
 have h1:=hf a;have h2:=hf (a+1);have h3:=hf n
 have h4:d≠44:=by rcases hd with rfl | rfl<;>decide
 have h5:d≠48:=by rcases hd with rfl | rfl<;>decide
 unfold G4
 split
 ·simp
 ·split
  ·simp [h1,h4,h5]
  ·split
   ·exact h2
   ·simp [h2,h3,h4]
theorem sgn_ne (n k:Nat):(32:UInt8)≠g9 n k∧(10:UInt8)≠g9 n k:=by unfold g9;split<;>decide
def D25 (n:Nat) (h:CHunk) (k:Nat):Str:=g9 n k::G4 (h.At.getD k 0) (N1 h.Rows n k)
theorem G45 (n:Nat) (h:CHunk) (k:Nat):(32:UInt8)∉D25 n h k:=by
 unfold D25
 simp only [J31,not_or]
 exact ⟨(sgn_ne n k).1,G44 (.inr rfl) _ _⟩
theorem D48 (n:Nat) (h:CHunk) (k:Nat):A96 n h k=32::D25 n h k:=rfl
def v8 (n:Nat) (h:CHunk):Nat→Nat→Str
 | 0,_=>[]
 | m+1,k=>A96 n h k++v8 n h m (k+1)
theorem G46 (n:Nat) (h:CHunk):∀(m k:Nat),v8 n h m k=((List.range' k m).map (A96 n h)).flatten
 | 0,_=>rfl
 | m+1,k=>by rw [v8,G46 n h m (k+1),List.range'_succ];simp
theorem H05 (n:Nat) (h:CHunk) (m:Nat):P2 n h m=v8 n h m 0:=by
 unfold P2;rw [G46,List.range_eq_range']
theorem F11 (n:Nat) (h:CHunk):∀(m k:Nat),M1 32 (v8 n h (m+1) k).tail=(List.range' k (m+1)).map (D25 n h)
 | 0,k=>by
  rw [v8,v8,J25,D48,List.tail_cons,B40 (G45 n h k)];rfl
 | m+1,k=>by
  have ih:=F11 n h m (k+1)
  have e:v8 n h (m+1+1) k=32::(D25 n h k++32::(v8 n h (m+1) (k+1)).tail):=by
   rw [v8,D48]
   have:v8 n h (m+1) (k+1)=32::(v8 n h (m+1) (k+1)).tail:=by rw [v8,D48];rfl
   conv=>lhs;rw [this]
   rfl
  rw [e,List.tail_cons,B98 _ (G45 n h k),ih,List.range'_succ (n:=m+1)];rfl
theorem E22 {l:List Int} {k:Nat} (h:k < l.length):l.drop k=l.getD k 0::l.drop (k+1):=by
 rw [J07 h,J06,J03 h];rfl
theorem E23 {n:Nat} {h:CHunk} (hl:h.At.length=n+1) (ha:∀k,k < n+1→0≤h.At.getD k 0∧h.At.getD k 0+N1 h.Rows n k≤4096):∀(m k:Nat),k+m=n+1→O5 n k ((List.range' k m).map (D25 n h))=some (h.At.drop k)
 | 0,k,hk=>by
  have:h.At.drop k=[]:=J11 (by omega)
  rw [this];rfl
 | m+1,k,hk=>by
  have ih:=E23 hl ha m (k+1) (by omega)
  obtain ⟨a1,a2⟩:=ha k (by omega)
  have hc:0≤N1 h.Rows n k:=by unfold N1;omega
  have hr:=I05 (t:=[]) a1 hc (by omega) (by omega) (by intro c hc;cases hc)
  rw [J25] at hr
  rw [List.range'_succ,J08,O5]
  have e1:(D25 n h k).take 1=[g9 n k]:=rfl
  have e2:(D25 n h k).drop 1=G4 (h.At.getD k 0) (N1 h.Rows n k):=rfl
  rw [if_pos e1,e2,hr]
  dsimp only
  rw [if_pos rfl,ih,E22 (l:=h.At) (k:=k) (by omega)];rfl
theorem Z6 (n:Nat):(atS n).length=n:=by simp [atS]
theorem H06 {n:Nat} {h:CHunk} (hr:CRead n h):A09 n (T5 n h)=some h.At:=by
 have hj:v8 n h (n+1) 0=32::(v8 n h (n+1) 0).tail:=by rw [v8,D48];rfl
 obtain ⟨T,hT⟩:∃T,T=(v8 n h (n+1) 0).tail:=⟨_,rfl⟩
 have e:T5 n h=C50 n++(T++B99 n):=by
  unfold T5 C50 B99
  rw [H05,hj,←hT];simp
 have hp:(C50 n).length=n+2:=by simp [C50,Z6]
 have hs:(B99 n).length=n+2:=by simp [B99,Z6]
 have t1:(T5 n h).take (n+2)=C50 n:=by rw [e,←hp,List.take_left]
 have d1:(T5 n h).drop (n+2)=T++B99 n:=by rw [e,←hp,List.drop_left]
 have l1:(T++B99 n).length - (n+2)=T.length:=by rw [J01,hs];omega
 unfold A09
 rw [t1,d1,if_pos ⟨rfl,by unfold Q2;rw [hs,l1,List.drop_left];simp [hs]⟩,l1,List.take_left,hT,F11,E23 hr.len hr.at0 (n+1) 0 (by omega)]
 dsimp only
 rw [List.drop_zero,if_pos hr.len]
end Go.AL
namespace Go.AL
open Go
def x5 (a:Str):Option (Bool × Str):=if a.take 10=ccS then some (true,a.drop 10) else if a.take 16=combS then some (false,a.drop 16) else none
def n5 (q:Bool) (a b:Str):Option (Bool × Str × Int) :=
 match x5 a with
 | none=>none
 | some (d,x)=>if b.take 8=parS then (match X2 x,Z2 (b.drop 8) with
  | some (w,e),some (n,e2)=>if (q=true→e=x.length∧e2=(b.drop 8).length)∧1≤n∧n≤32 then some (d,w,(n:Int)) else none
  | _,_=>none) else none
theorem H07 (q d:Bool) (p:Str) (n:Int) (hn:1≤n∧n≤32):n5 q (u9 d++H2 p) (parS++H4 n)=some (d,p,n):=by
 have hk:x5 (u9 d++H2 p)=some (d,H2 p):=by
  cases d
  ·have h2:(combS++H2 p).take 16=combS:=rfl
   have h1:(combS++H2 p).take 10≠ccS:=by
    intro h
    have:=congrArg (fun l=>l[8]?) h
    revert this
    show ¬(some (111:UInt8)=some 99)
    decide
   show x5 (combS++H2 p)=_
   unfold x5
   rw [if_neg h1,if_pos h2];rfl
  ·show x5 (ccS++H2 p)=_
   have h2:(ccS++H2 p).take 10=ccS:=rfl
   unfold x5
   rw [if_pos h2];rfl
 have hf:=B52 (n:=n) (t:=[]) (by omega) (by omega) (by intro c hc;cases hc)
 rw [J25] at hf
 have h8:(parS++H4 n).take 8=parS:=rfl
 have d8:(parS++H4 n).drop 8=H4 n:=rfl
 unfold n5
 rw [hk]
 dsimp only
 rw [if_pos h8,d8,H02,hf]
 dsimp only
 rw [if_pos ⟨fun _=>⟨rfl,rfl⟩,by omega,by omega⟩,show ((n.toNat:Nat):Int)=n by omega]
def F69 (hs:List CHunk) (r:Row):Option (List CHunk):=match hs.getLast? with
 | none=>none
 | some h=>some (hs.dropLast++[⟨h.At,h.Rows++[r]⟩])
def E24 (hs:List CHunk):Option (List CHunk):=match hs.getLast? with
 | none=>none
 | some h=>match h.Rows.getLast? with
  | none=>none
  | some r=>some (hs.dropLast++[⟨h.At,h.Rows.dropLast++[⟨r.Lost,r.Marks,B37 r.Text⟩]⟩])
def T6 (n:Nat) (hs:List CHunk) (l:Str):Option (List CHunk) :=
 if l.take 1=[64] then (match A09 n l with | none=>none | some a=>some (hs++[⟨a,[]⟩]))
 else if hs=[] then none
 else if l=noNl then E24 hs
 else match rowAt (l++[10]) n with
  | none=>none
  | some r=>F69 hs r
def X4 (n:Nat) (hs:List CHunk):List Str→Option (List CHunk)
 | []=>some hs
 | x::r=>match T6 n hs x with
  | none=>none
  | some g=>X4 n g r
def Q3 (l:List Str):Option Comb:=match l with
 | a::b::r=>(match n5 true a b with
  | some (d,p,n)=>(match X4 n.toNat [] r with | some hs=>some ⟨p,d,n,hs⟩ | none=>none)
  | none=>none)
 | _=>none
theorem I59 {n:Nat} (r:Row) (hn:1≤n) (t:Str):∃s,L4 n r++t=c9 r 0::s:=by
 obtain ⟨m,rfl⟩:∃m,n=m+1:=⟨n - 1,by omega⟩
 unfold L4
 rw [List.range_succ_eq_map]
 exact ⟨_,rfl⟩
theorem I60 (r:Row) (p:Nat):c9 r p≠64∧c9 r p≠92∧c9 r p≠10:=by unfold c9;split;decide;split<;>decide
theorem I61 {n:Nat} (hn:1≤n∧n≤32) (hs:List CHunk) (a:List Int) (rs:List Row) (r:Row) (rest:List Str) (hg:X0 n r=true):X4 n (hs++[⟨a,rs⟩]) (B78 n r++rest)=X4 n (hs++[⟨a,rs++[r]⟩]) rest:=by
 have hadd:∀t:Str,T6 n (hs++[⟨a,rs⟩]) (L4 n r++t)=some (hs++[⟨a,rs++[⟨r.Lost,r.Marks,t++[10]⟩]⟩]):=by
  intro t
  obtain ⟨s,e⟩:=I59 r hn.1 t
  have hb:=I60 r 0
  unfold T6
  rw [if_neg (by rw [e];simpa using hb.1),if_neg (by simp),if_neg (by rw [e];intro h;injection h with h;exact hb.2.1 h),J13,I58 hn hg]
  unfold F69;simp
 unfold B78
 split
 ·rename_i he
  obtain ⟨x,hx⟩:=ended_iff.1 he
  rw [J32,J29,X4,hadd]
  dsimp only
  rw [hx,List.dropLast_concat,←hx]
 ·rename_i he
  rw [J32,X4,hadd]
  dsimp only
  have h2:T6 n (hs++[⟨a,rs++[⟨r.Lost,r.Marks,r.Text++[10]⟩]⟩]) noNl=some (hs++[⟨a,rs++[r]⟩]):=by
   unfold T6
   rw [if_neg (by decide),if_neg (by simp),if_pos rfl]
   unfold E24
   simp only [List.getLast?_append,List.getLast?_singleton,Option.some_or,List.dropLast_concat]
   unfold B37
   rw [if_pos (C94 _),List.dropLast_concat]
  rw [J32,J29,X4,h2]
theorem F12 {n:Nat} (hn:1≤n∧n≤32) (hs:List CHunk) (a:List Int):∀(xs rs:List Row) (rest:List Str),(∀r∈xs,X0 n r=true)→X4 n (hs++[⟨a,rs⟩]) ((xs.map (B78 n)).flatten++rest)=X4 n (hs++[⟨a,rs++xs⟩]) rest
 | [],rs,rest,_=>by simp
 | x::r,rs,rest,hg=>by
  rw [J08,J14,J13,I61 hn _ _ _ _ _ (hg x (by simp)),F12 hn hs a r _ _ (fun y hy=>hg y (by simp [hy])),J13];rfl
theorem I62 (n:Nat) (h:CHunk):(T5 n h).take 1=[64]:=by
 unfold T5 atS
 rw [List.replicate_succ];rfl
theorem D26 {n:Nat} (hn:1≤n∧n≤32):∀(xs hs:List CHunk),(∀h∈xs,CRead n h)→X4 n hs ((xs.map (y8 n)).flatten)=some (hs++xs)
 | [],hs,_=>by simp [X4]
 | h::r,hs,hg=>by
  have h1:=hg h (by simp)
  have e:((h::r).map (y8 n)).flatten=T5 n h::((h.Rows.map (B78 n)).flatten++(r.map (y8 n)).flatten):=by simp [y8]
  have hs1:T6 n hs (T5 n h)=some (hs++[⟨h.At,[]⟩]):=by
   unfold T6
   rw [if_pos (I62 n h),H06 h1]
  rw [e,X4,hs1]
  dsimp only
  rw [F12 hn _ _ _ _ _ (fun x hx=>(h1.rows x hx).1),J29,D26 hn r _ (fun x hx=>hg x (by simp [hx])),J13];rfl
theorem G47 {c:Comb} (h:G5 c=0):Q3 (B38 c)=some c:=by
 obtain ⟨h1,h2,h3,_⟩:=A85 h
 unfold Q3 B38
 dsimp only
 rw [H07 true _ _ _ (by omega)]
 dsimp only
 rw [D26 h1 c.Hunks [] h3]
 rfl
def Q4 (f:List Str→Option Comb) (s:Str):Comb × Int :=
 if 16777216 < s.length then (comb0,1) else match s5 s with
 | none=>(comb0,4)
 | some l=>match f l with
  | none=>(comb0,4)
  | some p=>if G5 p≠0∨O9 p≠s then (comb0,4) else (p,0)
theorem I09 (n:Nat) (h:CHunk):(10:UInt8)∉T5 n h:=by
 have hw:(10:UInt8)∉P2 n h (n+1):=by
  unfold P2
  intro hm
  obtain ⟨l,h1,h2⟩:=List.mem_flatten.1 hm
  obtain ⟨k,_,rfl⟩:=List.mem_map.1 h1
  unfold A96 at h2
  simp only [J32,J29,J31] at h2
  rcases h2 with h2 | h2 | h2
  ·revert h2;decide
  ·exact (sgn_ne n k).2 h2
  ·exact G44 (.inl rfl) _ _ h2
 have ha:(10:UInt8)∉atS (n+1):=by unfold atS;intro h;have:=(List.mem_replicate.1 h).2;revert this;decide
 unfold T5
 simp [hw,ha]
theorem I63 {n:Nat} {r:Row} (hl:I0 r.Text=true):∀t∈B78 n r,(10:UInt8)∉t:=by
 have hm:(10:UInt8)∉L4 n r:=by
  intro h
  have:=List.all_eq_true.1 (B97 n r) _ h
  revert this;decide
 obtain ⟨hne,hd⟩:=(B93 _).1 hl
 intro t ht
 unfold B78 at ht
 split at ht
 ·simp only [J31,J33,or_false] at ht
  subst ht
  simp [hm,hd]
 ·rename_i he
  simp only [J31,J33,or_false] at ht
  rcases ht with rfl | rfl
  ·simp only [J50,not_or]
   refine ⟨hm,fun h10=>?_⟩
   rw [←List.dropLast_concat_getLast hne] at h10
   rcases List.mem_append.1 h10 with h10 | h10
   ·exact hd h10
   ·simp only [J31,J33,or_false] at h10
    refine he (ended_iff.2 ⟨r.Text.dropLast,?_⟩)
    conv=>lhs;rw [←List.dropLast_concat_getLast hne]
    rw [h10]
  ·decide
theorem I10 {c:Comb} (h:G5 c=0):∀t∈B38 c,(10:UInt8)∉t:=by
 obtain ⟨h1,h2,h3,_⟩:=A85 h
 intro t ht
 unfold B38 at ht
 rcases List.mem_cons.1 ht with rfl | ht
 ·have:=H03 c.Path
  have hk:(10:UInt8)∉u9 c.Dense:=by cases c.Dense<;>decide
  simp [this,hk]
 ·rcases List.mem_cons.1 ht with rfl | ht
  ·have:=I55 c.Parents
   have hk:(10:UInt8)∉parS:=by decide
   simp [this,hk]
  ·obtain ⟨l,hl1,hl2⟩:=List.mem_flatten.1 ht
   obtain ⟨x,hx,rfl⟩:=List.mem_map.1 hl1
   unfold y8 at hl2
   rcases List.mem_cons.1 hl2 with rfl | hl2
   ·exact I09 _ _
   ·obtain ⟨l2,h4,h5⟩:=List.mem_flatten.1 hl2
    obtain ⟨y,hy,rfl⟩:=List.mem_map.1 h4
    exact I63 ((h3 x hx).rows y hy).2 t h5
theorem I11 {f:List Str→Option Comb} (hf:∀p:Comb,G5 p=0→f (B38 p)=some p) {p:Comb} (hc:G5 p=0):Q4 f (O9 p)=(p,0):=by
 have hl:s5 (O9 p)=some (B38 p):=by rw [←G41];exact G39 _ (I10 hc)
 obtain ⟨_,_,_,h4,_⟩:=A85 hc
 unfold Q4
 rw [if_neg (by omega),hl]
 dsimp only
 rw [hf p hc]
 dsimp only
 rw [if_neg]
 simp [hc]
theorem I12 {f:List Str→Option Comb} {s:Str} (h:(Q4 f s).2=0):G5 (Q4 f s).1=0∧O9 (Q4 f s).1=s:=by
 unfold Q4 at h ⊢
 split at h
 ·cases h
 ·rename_i h1
  rw [if_neg h1]
  split at h
  ·cases h
  ·rename_i l hl
   split at h
   ·cases h
   ·rename_i p hp
    split at h
    ·cases h
    ·rename_i h2
     rw [if_neg h2]
     by_cases a:G5 p=0<;>by_cases b:O9 p=s<;>simp [a,b] at h2 ⊢
theorem E25 {f:List Str→Option Comb} {s:Str} (h:(Q4 f s).2≠0):Q4 f s=if 16777216 < s.length then (comb0,1) else (comb0,4):=by
 unfold Q4 at h ⊢
 by_cases h1:16777216 < s.length
 ·rw [if_pos h1,if_pos h1]
 ·rw [if_neg h1] at h ⊢
  rw [if_neg h1]
  split
  ·rfl
  ·rename_i l hl
   rw [hl] at h
   dsimp only at h
   split
   ·rfl
   ·rename_i p hp
    rw [hp] at h
    dsimp only at h
    split
    ·rfl
    ·rename_i h2;rw [if_neg h2] at h;exact absurd rfl h
end Go.AL
namespace Go.AL
open Go
def M9 (r:Row):Nat:=r.Text.length+96
def A51 (h:CHunk):Nat:=2048+h.At.length+(h.Rows.map M9).sum
def szC (hs:List CHunk):Nat:=(hs.map A51).sum
theorem T4 (rows:List Row):rows.length*96≤(rows.map M9).sum:=by
 induction rows with
 | nil=>simp
 | cons x r ih=>simp only [J08,J28,J02,M9] at ih ⊢;omega
theorem A86 (rows:List Row):N9 rows≤(rows.map M9).sum:=by
 unfold N9
 induction rows with
 | nil=>simp
 | cons x r ih=>simp only [J08,J14,J01,J28,M9] at ih ⊢;omega
theorem B53 {rows:List Row} {r:Row} (h:r∈rows):M9 r≤(rows.map M9).sum:=by
 induction rows with
 | nil=>cases h
 | cons x l ih =>
  simp only [J08,J28]
  rcases List.mem_cons.1 h with rfl | h
  ·omega
  ·have:=ih h;omega
theorem A87 {hs:List CHunk} {h:CHunk} (hm:h∈hs):A51 h≤szC hs:=by
 unfold szC
 induction hs with
 | nil=>cases hm
 | cons x l ih =>
  simp only [J08,J28]
  rcases List.mem_cons.1 hm with rfl | hm
  ·omega
  ·have:=ih hm;omega
theorem A25 (hs:List CHunk):hs.length*2048≤szC hs:=by
 unfold szC
 induction hs with
 | nil=>simp
 | cons x l ih =>
  have h2:2048≤A51 x:=by unfold A51;exact Nat.le_trans (Nat.le_add_right _ _) (Nat.le_add_right _ _)
  rw [J08,J28,J02,J30,Nat.one_mul,Nat.add_comm]
  exact Nat.add_le_add h2 ih
theorem E26 (rows:List Row) (k:Nat):((rows.take k).map M9).sum≤(rows.map M9).sum:=by
 conv=>rhs;rw [←J41 k rows,J17,J40]
 omega
theorem E27 (hs:List CHunk) (k:Nat):szC (hs.take k)≤szC hs:=by
 unfold szC
 conv=>rhs;rw [←J41 k hs,J17,J40]
 omega
theorem E59 {l:List Int} {i:Nat} (h:i < l.length):l[i]?=some (l.getD i 0):=by simp [h]
theorem C00 (rows:List Row) (n k:Nat):0≤N1 rows n k∧N1 rows n k≤rows.length:=by
 have:=C83 rows (R1 n k)
 unfold N1;omega
theorem I64 (rows:List Row) (n k i:Nat) (h:i < rows.length):N1 (rows.take (i+1)) n k=N1 (rows.take i) n k+if Z9 rows[i] (R1 n k)=true then 1 else 0:=by
 unfold N1 N8
 rw [J10 h,J51,J17,J01]
 by_cases hv:Z9 rows[i] (R1 n k)=true<;>simp [hv]
def n9 (rows:List Row) (n i p:Nat):List Int:=(List.range (n+1)).map fun k=>N1 (rows.take (if k < p then i+1 else i)) n k
theorem I13 (rows:List Row) (n i p:Nat):(n9 rows n i p).length=n+1:=by unfold n9;simp
theorem H08 (rows:List Row) (n:Nat):n9 rows n 0 0=List.replicate (n+1) 0:=by
 unfold n9
 refine List.ext_getElem (by simp) fun k h1 h2=>?_
 simp [N1,N8]
theorem I14 (rows:List Row) (n i p:Nat) (hp:p≤n):(n9 rows n i p)[p]?=some (N1 (rows.take i) n p):=by
 unfold n9
 rw [J34,J38 (by omega)];simp
theorem C01 (f:Nat→Int) (n p:Nat) (v:Int):((List.range n).map f).set p v=(List.range n).map (fun k=>if k=p then v else f k):=by
 refine List.ext_getElem (by simp) fun k h1 h2=>?_
 rw [List.getElem_set,List.getElem_map,List.getElem_map,List.getElem_range]
 by_cases e:p=k
 ·rw [if_pos e,if_pos e.symm]
 ·rw [if_neg e,if_neg (fun h=>e h.symm)]
theorem H09 (rows:List Row) (n i p:Nat) (hi:i < rows.length) (hp:p≤n):n9 rows n i (p+1)=if Z9 rows[i] (R1 n p)=true then (n9 rows n i p).set p (N1 (rows.take i) n p+1) else n9 rows n i p:=by
 have hs:=I64 rows n p i hi
 by_cases hv:Z9 rows[i] (R1 n p)=true
 ·rw [if_pos hv] at hs ⊢
  unfold n9
  rw [C01]
  refine List.map_congr_left fun k hk=>?_
  by_cases e:k=p
  ·subst e;rw [if_pos rfl,if_pos (by omega),hs]
  ·rw [if_neg e]
   by_cases h3:k < p
   ·rw [if_pos (by omega),if_pos h3]
   ·rw [if_neg (by omega),if_neg h3]
 ·rw [if_neg hv] at hs ⊢
  unfold n9
  refine List.map_congr_left fun k hk=>?_
  by_cases e:k=p
  ·subst e;rw [if_pos (by omega),if_neg (by omega),hs];omega
  ·by_cases h3:k < p
   ·rw [if_pos (by omega),if_pos h3]
   ·rw [if_neg (by omega),if_neg h3]
theorem H10 (rows:List Row) (n i:Nat):n9 rows n i (n+1)=n9 rows n (i+1) 0:=by
 unfold n9
 refine List.map_congr_left fun k hk=>?_
 rw [if_pos (List.mem_range.1 hk),if_neg (by omega)]
theorem H11 (rows:List Row) (n:Nat):n9 rows n rows.length 0=W0 rows n:=by
 unfold n9 W0
 refine List.map_congr_left fun k hk=>?_
 rw [if_neg (by omega),J23]
theorem H12 (rows:List Row) (n:Nat):(W0 rows n).length=n+1:=by unfold W0;simp
theorem H13 (rows:List Row) (n k:Nat) (h:k < n+1):(W0 rows n)[k]?=some (N1 rows n k):=by
 unfold W0
 rw [J34,J38 h];rfl
def x6 (n:Nat) (h:CHunk) (k:Nat):List Int:=(List.range (n+1)).map fun j=>if j < k then h.At.getD j 0+N1 h.Rows n j else N1 h.Rows n j
theorem H14 (n:Nat) (h:CHunk) (k:Nat):(x6 n h k).length=n+1:=by unfold x6;simp
theorem G48 (n:Nat) (h:CHunk):x6 n h 0=W0 h.Rows n:=by
 unfold x6 W0
 refine List.map_congr_left fun k hk=>?_
 rw [if_neg (by omega)]
theorem H15 (n:Nat) (h:CHunk) (k:Nat) (hk:k < n+1):(x6 n h k)[k]?=some (N1 h.Rows n k):=by
 unfold x6
 rw [J34,J38 hk];simp
theorem H16 (n:Nat) (h:CHunk) (k:Nat):(x6 n h k).set k (N1 h.Rows n k+h.At.getD k 0)=x6 n h (k+1):=by
 unfold x6
 rw [C01]
 refine List.map_congr_left fun j hj=>?_
 by_cases e:j=k
 ·subst e;rw [if_pos rfl,if_pos (by omega)];omega
 ·rw [if_neg e]
  by_cases h3:j < k
  ·rw [if_pos h3,if_pos (by omega)]
  ·rw [if_neg h3,if_neg (by omega)]
theorem G49 (n:Nat) (h:CHunk):x6 n h (n+1)=T3 n h:=by
 unfold x6 T3
 refine List.map_congr_left fun k hk=>?_
 rw [if_pos (List.mem_range.1 hk)]
theorem D27 (n:Nat) (ends:List Int) (h:CHunk):X3 n ends h=true↔(h.At.length=n+1∧h.Rows≠[])∧∀k,k < n+1→ends.getD k 0≤h.At.getD k 0∧h.At.getD k 0≤4096:=by
 unfold X3
 simp only [J04,decide_eq_true_eq,List.all_eq_true,List.mem_range]
theorem I15 (n:Nat) (h:CHunk) (k:Nat):(A96 n h k).length≤26:=by
 have:=A21 (h.At.getD k 0) (N1 h.Rows n k)
 unfold A96;simp only [J01,J02,J05];omega
theorem A26 (n:Nat) (h:CHunk) (k:Nat):P2 n h (k+1)=P2 n h k++A96 n h k:=by
 unfold P2
 rw [J43,J17,J27];simp
theorem A10 (n:Nat) (h:CHunk):∀k,(P2 n h k).length≤26*k
 | 0=>by simp [P2]
 | k+1=>by
  have:=A10 n h k
  have:=I15 n h k
  rw [A26,J01];omega
theorem B54 {n:Nat} (hn:n≤32) (h:CHunk):(T5 n h).length≤925:=by
 have:=A10 n h (n+1)
 unfold T5
 simp only [J01,Z6,J02,J05];omega
theorem F13 {n:Nat} (hn:n≤32) (r:Row):(P7 n r).flatten.length≤M9 r:=by
 have hm:markS.length=29:=rfl
 unfold P7 M9
 split<;>simp only [J14,J44,J01,R3,J05]<;>omega
theorem E28 {n:Nat} (hn:n≤32) (rs:List Row):((rs.map (P7 n)).flatten).flatten.length≤(rs.map M9).sum:=by
 induction rs with
 | nil=>simp
 | cons x r ih =>
  have:=F13 hn x
  simp only [J08,J14,J27,J01,J28];omega
theorem G50 {n:Nat} (hn:n≤32) (h:CHunk):(L0 n h).flatten.length≤A51 h:=by
 have h1:=B54 hn h
 have h2:=E28 hn h.Rows
 unfold L0 A51
 simp only [J14,J01,J02,J05];omega
theorem F70 {n:Nat} (hn:n≤32) (hs:List CHunk):((hs.map (L0 n)).flatten).flatten.length≤szC hs:=by
 unfold szC
 induction hs with
 | nil=>simp
 | cons x r ih =>
  have:=G50 hn x
  simp only [J08,J14,J27,J01,J28];omega
def A88 (c:Comb):Str:=u9 c.Dense++H2 c.Path++[10]++(parS++H4 c.Parents++[10])
def cTo (c:Comb) (k:Nat):Str:=A88 c++(((c.Hunks.take k).map (L0 c.Parents.toNat)).flatten).flatten
theorem E29 (c:Comb):cTo c 0=A88 c:=by simp [cTo]
theorem G51 (c:Comb) (k:Nat) (h:k < c.Hunks.length):cTo c (k+1)=cTo c k++(L0 c.Parents.toNat c.Hunks[k]).flatten:=by
 unfold cTo
 rw [J10 h];simp only [J17,J08,J37,J27,J14,J44,J25,J13]
theorem C51 (c:Comb):cTo c c.Hunks.length=O9 c:=by
 unfold cTo A88 O9 F67
 rw [J23];simp
def rTo (n:Nat) (rs:List Row) (k:Nat):Str:=(((rs.take k).map (P7 n)).flatten).flatten
theorem G52 (n:Nat) (rs:List Row):rTo n rs 0=[]:=by simp [rTo]
theorem G53 (n:Nat) (rs:List Row) (k:Nat) (h:k < rs.length):rTo n rs (k+1)=rTo n rs k++(P7 n rs[k]).flatten:=by
 unfold rTo
 rw [J10 h];simp only [J17,J08,J37,J27,J14,J44,J25,J13]
theorem H49 {n:Nat} (hn:n≤32) (rs:List Row) (k:Nat):(rTo n rs k).length≤(rs.map M9).sum:=by
 have:=E28 hn (rs.take k)
 have:=E26 rs k
 unfold rTo;omega
theorem F14 (n:Nat) (h:CHunk):(L0 n h).flatten=T5 n h++[10]++rTo n h.Rows h.Rows.length:=by
 unfold L0 rTo
 rw [J23];simp
theorem C02 (p:Str):(H2 p).length≤4*p.length+2:=G34 p
theorem F71 (n:Int):(H4 n).length≤10:=S9 n
theorem E30 (c:Comb):(A88 c).length≤4*c.Path.length+48:=by
 have h1:=C02 c.Path
 have h2:=F71 c.Parents
 have h3:(u9 c.Dense).length≤16:=by cases c.Dense<;>decide
 have h4:parS.length=8:=rfl
 unfold A88
 simp only [J01,J02,J05];omega
theorem F72 (c:Comb) (hn:c.Parents.toNat≤32) (k:Nat):(cTo c k).length≤4*c.Path.length+48+szC c.Hunks:=by
 have h1:=E30 c
 have h2:=F70 hn (c.Hunks.take k)
 have h3:=E27 c.Hunks k
 unfold cTo
 rw [J01];omega
theorem D28 (n:Nat) (r:Row):L4 (n+1) r=L4 n r++[c9 r n]:=by
 unfold L4
 rw [J43,J17];rfl
theorem E31 (n:Nat) (r:Row):(P7 n r).flatten=L4 n r++r.Text++(if ended r.Text=true then [] else markS):=by
 unfold P7
 split<;>simp
end Go.AL
namespace Go.AL
open Go
def A12 (s:Str) (n:Int):Option Row:=if n < 1 then none else rowAt s n.toNat
theorem shl_nat (p:Nat) (h:p < 32):IntKind.u32.wrap (1*2 ^ (min ((p:Int)).toNat IntKind.u32.bits))=((2 ^ p:Nat):Int):=by
 have h2:2 ^ p < 2 ^ 32:=Nat.pow_lt_pow_right (by decide) h
 have e:(2:Int) ^ p=((2 ^ p:Nat):Int):=by simp
 rw [show min ((p:Int)).toNat IntKind.u32.bits=p by rw [J09];exact Nat.min_eq_left (by show p≤32;omega),Int.one_mul,e,D44 _ (by omega)]
theorem or_bit {x p:Nat} (h:x < 2 ^ p) (hp:p < 32):S2 (x:Int) ((2 ^ p:Nat):Int)=((x+2 ^ p:Nat):Int):=by
 have h2:2 ^ p < 2 ^ 32:=Nat.pow_lt_pow_right (by decide) hp
 rw [(C36 x (2 ^ p) (by omega) (by omega)).1]
 have h3:=Nat.two_pow_add_eq_or_of_lt h 1
 rw [Nat.mul_one] at h3
 rw [Nat.or_comm,←h3,Nat.add_comm]
theorem or_zero {x:Nat} (h:x < 4294967296):S2 (x:Int) 0=(x:Int):=by
 have:=(C36 x 0 h (by omega)).1
 simpa using this
theorem zero_or {x:Nat} (h:x < 4294967296):S2 0 (x:Int)=(x:Int):=by
 have:=(C36 0 x (by omega) h).1
 simpa using this
theorem F15 {s:Str} {p:Nat} {c:UInt8} (hv:s[p]?=some c) (d:UInt8):H0 d s (p+1)=H0 d s p+if c=d then 2 ^ p else 0:=by
 rw [H0,J06,hv];rfl
theorem I16 {s:Str} {p:Nat} {c:UInt8} (hv:s[p]?=some c):(s.take (p+1)).all A50=((s.take p).all A50&&A50 c):=by
 obtain ⟨h,rfl⟩:=List.getElem?_eq_some_iff.1 hv
 rw [J10 h,List.all_append];simp
theorem sign_no {s:Str} {p N:Nat} {c:UInt8} (hp:p < N) (hv:s[p]?=some c) (hc:A50 c=false):(s.take N).all A50=false:=by
 rw [Bool.eq_false_iff]
 intro h
 have:=List.all_eq_true.1 h c (J22 (i:=p) (by rw [J20 hp];exact hv))
 rw [hc] at this;cases this
theorem rowI_no {s:Str} {n:Int} (h:n < 1∨32 < n∨(s.length:Int) < n):A12 s n=none:=by
 unfold A12
 by_cases h1:n < 1
 ·rw [if_pos h1]
 ·rw [if_neg h1];unfold rowAt;rw [if_pos (by omega)]
theorem I17 {s:Str} {N:Nat} (h:(s.take N).all A50=false):A12 s N=none:=by
 unfold A12
 by_cases h1:(N:Int) < 1
 ·rw [if_pos h1]
 ·rw [if_neg h1];unfold rowAt;rw [if_pos (.inr (.inr (.inr (.inl (by rw [J09];exact h)))))]
theorem I18 {s:Str} {N:Nat} (h:H0 43 s N≠0∧H0 45 s N≠0):A12 s N=none:=by
 unfold A12
 by_cases h1:(N:Int) < 1
 ·rw [if_pos h1]
 ·rw [if_neg h1];unfold rowAt;rw [if_pos (.inr (.inr (.inr (.inr (by rw [J09];exact h)))))]
theorem I65 {s:Str} {N:Nat} (h1:1≤N∧N≤32) (h2:N≤s.length) (h3:(s.take N).all A50=true) (h4:¬(H0 43 s N≠0∧H0 45 s N≠0)) :
  A12 s N=some ⟨decide (H0 45 s N≠0),((H0 43 s N+H0 45 s N:Nat):Int),s.drop N⟩:=by
 unfold A12
 rw [if_neg (by omega)]
 unfold rowAt
 rw [J09,if_neg]
 simp only [not_or]
 exact ⟨by omega,by omega,by omega,by rw [h3];decide,h4⟩
theorem F16 (c:UInt8) (s:Str) {k:Nat} (h:k≤32):H0 c s k < 4294967296:=by
 have h1:=D47 c s k
 have h2:2 ^ k≤2 ^ 32:=Nat.pow_le_pow_right (by decide) h
 omega
theorem bits_or {s:Str} {N:Nat} (hN:N≤32) (h:¬(H0 43 s N≠0∧H0 45 s N≠0)):S2 (H0 43 s N:Nat) (H0 45 s N:Nat)=((H0 43 s N+H0 45 s N:Nat):Int):=by
 have h1:=F16 43 s hN
 have h2:=F16 45 s hN
 by_cases h3:H0 43 s N=0
 ·rw [h3]
  have:=zero_or h2
  rw [Nat.zero_add];exact this
 ·have h4:H0 45 s N=0:=by omega
  rw [h4]
  have:=or_zero h1
  rw [Nat.add_zero];exact this
theorem I19 {s:Str} {n:Int} {r:Row} (h:A12 s n=some r):(1≤n∧n≤32)∧r.Text=s.drop n.toNat∧(0≤r.Marks∧r.Marks < 4294967296)∧n.toNat≤s.length:=by
 unfold A12 at h
 split at h
 ·cases h
 ·rename_i h0
  unfold rowAt at h
  split at h
  ·cases h
  ·rename_i h1
   simp only [not_or,Nat.not_lt] at h1
   obtain ⟨a1,a2,a3,a4,a5⟩:=h1
   have hb:=G43 (c:=43) (d:=45) (by decide) s n.toNat
   have hp:2 ^ n.toNat≤2 ^ 32:=Nat.pow_le_pow_right (by decide) a2
   cases h
   refine ⟨by omega,rfl,?_,a3⟩
   dsimp only
   omega
theorem E32 {c:UInt8}:∀(s:Str) (v:Str),v∈M1 c s→v.length≤s.length
 | [],v,h=>by simp [M1] at h;simp [h]
 | x::r,v,h=>by
  have ih:=E32 (c:=c) r
  unfold M1 at h
  split at h
  ·rcases List.mem_cons.1 h with rfl | h
   ·simp
   ·have:=ih v h;simp;omega
  ·split at h
   ·simp at h;simp [h]
   ·rename_i a b e
    rw [e] at ih
    rcases List.mem_cons.1 h with rfl | h
    ·have:=ih a (by simp);simp;omega
    ·have:=ih v (by simp [h]);simp;omega
end Go.AL
namespace Go.AL
open Go
abbrev D29:Bool→Nat→Cell:=fun b _=>.v (.bool b)
abbrev pBools (l:List Bool):PV:=.one (.list Bool 1 D29 l)
def w7 (n:Nat) (rows:List Row):Int→List CHunk→List Span→Option (List CHunk)
 | _,hs,[]=>some hs
 | e,hs,s::r=>if s.From < e∨s.To≤s.From∨(rows.length:Int) < s.To then none else w7 n rows s.To (hs++[⟨W0 (rows.take s.From.toNat) n,(rows.drop s.From.toNat).take (s.To.toNat - s.From.toNat)⟩]) r
def A52 (path:Str) (t:Table) (sp:List Span) (d:Bool):Comb × Int :=
 if T0 path=false then (comb0,120) else if R7 t≠0 then (comb0,R7 t) else match w7 t.Parents.toNat t.Rows 0 [] sp with
  | none=>(comb0,3)
  | some hs=>if G5 ⟨path,d,t.Parents,hs⟩≠0 then (comb0,G5 ⟨path,d,t.Parents,hs⟩) else (⟨path,d,t.Parents,hs⟩,0)
theorem F73 (f:Row→Nat) (c n:Nat) (rows:List Row):∀(sp:List Span) (e:Int) (hs hs':List CHunk),0≤e→w7 n rows e hs sp=some hs'→(hs.map fun h=>c+(h.Rows.map f).sum).sum≤c*hs.length+((rows.take e.toNat).map f).sum→hs.length≤e.toNat →
  (hs'.map fun h=>c+(h.Rows.map f).sum).sum≤c*hs'.length+(rows.map f).sum∧hs'.length≤max rows.length hs.length
 | [],e,hs,hs',he,h,hw,hl=>by
  cases h
  refine ⟨?_,by omega⟩
  have:((rows.take e.toNat).map f).sum≤(rows.map f).sum:=by
   conv=>rhs;rw [←J41 e.toNat rows,J17,J40]
   omega
  omega
 | s :: r,e,hs,hs',he,h,hw,hl=>by
  rw [w7] at h
  split at h
  ·cases h
  ·rename_i hc
   simp only [not_or,Int.not_lt,Int.not_le] at hc
   obtain ⟨c1,c2,c3⟩:=hc
   have ih:=F73 f c n rows r s.To _ hs' (by omega) h
   have hsum:((rows.take e.toNat).map f).sum+(((rows.drop s.From.toNat).take (s.To.toNat - s.From.toNat)).map f).sum≤((rows.take s.To.toNat).map f).sum:=by
    have e1:rows.take s.To.toNat=rows.take s.From.toNat++(rows.drop s.From.toNat).take (s.To.toNat - s.From.toNat):=by
     have:=List.take_add (l:=rows) (i:=s.From.toNat) (j:=s.To.toNat - s.From.toNat)
     rw [show s.From.toNat+(s.To.toNat - s.From.toNat)=s.To.toNat by omega] at this
     exact this
    have e2:rows.take s.From.toNat=rows.take e.toNat++(rows.drop e.toNat).take (s.From.toNat - e.toNat):=by
     have:=List.take_add (l:=rows) (i:=e.toNat) (j:=s.From.toNat - e.toNat)
     rw [show e.toNat+(s.From.toNat - e.toNat)=s.From.toNat by omega] at this
     exact this
    rw [e1,J17,J40]
    conv=>rhs;rw [e2,J17,J40]
    omega
   have hih:=ih (by
    rw [J17,J40,J01]
    simp only [J08,J37,J28,J53,J02,J05,Nat.mul_add,Nat.mul_one,Nat.mul_zero]
    omega) (by rw [J01];simp;omega)
   refine ⟨hih.1,?_⟩
   have:=hih.2
   rw [J01] at this
   simp only [J02,J05] at this
   have h3:hs.length+1≤rows.length:=by omega
   omega
def CInvA (n:Nat) (hs:List CHunk):Prop:=∀h∈hs,h.At.length=n+1∧I8 h.Rows
theorem E33 {n:Nat} {rows:List Row} (hr:I8 rows):∀(sp:List Span) (e:Int) (hs hs':List CHunk),w7 n rows e hs sp=some hs'→CInvA n hs→CInvA n hs'
 | [],e,hs,hs',h,hi=>by cases h;exact hi
 | s::r,e,hs,hs',h,hi=>by
  rw [w7] at h
  split at h
  ·cases h
  ·refine E33 hr r _ _ hs' h ?_
   intro x hx
   rcases List.mem_append.1 hx with hx | hx
   ·exact hi x hx
   ·simp only [J31,J33,or_false] at hx
    rw [hx]
    exact ⟨H12 _ _,fun y hy=>hr y (List.mem_of_mem_drop (List.mem_of_mem_take hy))⟩
def E60 (n:Nat) (r:Row):Nat:=r.Text.length+n+29
theorem headC_w (n:Nat) (h:CHunk):(T5 n h).length≤28*(n+1)+1:=by
 have:=A10 n h (n+1)
 unfold T5
 simp only [J01,Z6,J02,J05];omega
theorem I66 (n:Nat) (rs:List Row):((rs.map (P7 n)).flatten).flatten.length≤(rs.map (E60 n)).sum:=by
 have hm:markS.length=29:=rfl
 induction rs with
 | nil=>simp
 | cons x r ih =>
  have:(P7 n x).flatten.length≤E60 n x:=by
   unfold P7 E60
   split<;>simp only [J14,J44,J01,R3,J05]<;>omega
  simp only [J08,J14,J27,J01,J28];omega
theorem H17 (n:Nat) (hs:List CHunk):((hs.map (L0 n)).flatten).flatten.length≤(hs.map fun h=>(28*(n+1)+2)+(h.Rows.map (E60 n)).sum).sum:=by
 induction hs with
 | nil=>simp
 | cons x r ih =>
  have h1:=headC_w n x
  have h2:=I66 n x.Rows
  have h3:(L0 n x).flatten.length≤(28*(n+1)+2)+(x.Rows.map (E60 n)).sum:=by
   unfold L0
   simp only [J14,J01,J02,J05];omega
  rw [J08,J14,J27,J01,J08,J28]
  exact Nat.add_le_add h3 ih
theorem G54 (c:Comb):(O9 c).length≤4*c.Path.length+48+(c.Hunks.map fun h=>(28*(c.Parents.toNat+1)+2)+(h.Rows.map (E60 c.Parents.toNat)).sum).sum:=by
 have h1:=E30 c
 have h2:=H17 c.Parents.toNat c.Hunks
 rw [←C51]
 unfold cTo
 rw [J23,J01];omega
theorem A89:∀(s cur:Str),(G1 cur s).length≤s.count 10+1
 | [],cur=>by unfold G1;split<;>simp
 | c::r,cur=>by
  rw [U7]
  split
  ·rename_i h
   have:=A89 r []
   rw [J02,List.count_cons,h];simp;omega
  ·have:=A89 r (cur++[c])
   rw [List.count_cons];omega
theorem D30 (s:Str):(C8 s).length≤s.count 10+1:=A89 s []
theorem F74 (result:Str) (parents:List Str) (L B:Nat) (h0:(C8 result).length≤L∧result.length≤B) (h1:∀b∈parents,(C8 b).length≤L∧b.length≤B) :
  I8 (I9 result parents).1.Rows∧(I9 result parents).1.Rows.length≤(L+1)*(parents.length*L+1)∧∀r∈(I9 result parents).1.Rows,r.Text.length≤B:=by
 have hnil:I8 []∧([]:List Row).length≤(L+1)*(parents.length*L+1)∧∀r∈([]:List Row),r.Text.length≤B:=⟨fun r hr=>(by cases hr),(by simp),fun r hr=>(by cases hr)⟩
 by_cases hn:parents.length < 1∨32 < parents.length
 ·rw [I9,if_pos hn];exact hnil
 obtain ⟨fs,hfs⟩:∃fs,fs=C8 result::parents.map C8:=⟨_,rfl⟩
 obtain ⟨names,hnames⟩:∃names,names=G2 fs:=⟨_,rfl⟩
 obtain ⟨s,hs⟩:∃s,s=A32 (fs.map (S7 names)) (C8 result).length parents.length parents.length:=⟨_,rfl⟩
 have hm:I9 result parents=if ∃k,k < (C8 result).length+1∧(I2 (s.2 k)).2≠0 then (⟨0,[]⟩,1) else (⟨parents.length,x2 names (C8 result) s ((C8 result).length+1)⟩,0):=by
  rw [I9,if_neg hn,hs,hnames,hfs]
 rw [hm]
 split
 ·exact hnil
 have hfB:∀f∈fs,f.length≤L∧∀t∈f,t.length≤B:=by
  intro f hf
  rw [hfs] at hf
  rcases List.mem_cons.1 hf with rfl | hf
  ·exact ⟨h0.1,fun t ht=>by have:=G37 _ _ ht;omega⟩
  ·obtain ⟨b,hb,rfl⟩:=List.mem_map.1 hf
   have:=h1 b hb
   exact ⟨this.1,fun t ht=>by have:=G37 _ _ ht;omega⟩
 have hnB:∀t∈names,t.length≤B:=by
  intro t ht
  rw [hnames] at ht
  obtain ⟨f,hf,h2⟩:=List.mem_flatten.1 (G29 fs t ht)
  exact (hfB f hf).2 t h2
 have hid:∀x∈fs.map (S7 names),x.length≤L∧∀v∈x,(fun _:Int=>True) v:=by
  intro x hx
  obtain ⟨f,hf,rfl⟩:=List.mem_map.1 hx
  exact ⟨by rw [S7,J35];exact (hfB f hf).1,fun _ _=>trivial⟩
 have hok:LoomOk (fun _=>True) L (C8 result).length parents.length s:=by rw [hs];exact C84 hid _
 have hL:(C8 result).length≤L:=h0.1
 have hcs:∀k,(I2 (s.2 k)).1.length≤parents.length*L∧∀m∈(I2 (s.2 k)).1,0≤m.Parents∧m.Parents < 4294967296:=fun k=>by
  have h2:=hok.gaps k
  have h3:=B74 (fun _=>True) L (s.2 k) h2.2
  rw [h2.1] at h3
  exact ⟨h3.1,fun m hmem=>(h3.2 m hmem).1⟩
 have hgetD:∀(l:List Str) (k:Nat),(∀t∈l,t.length≤B)→(l.getD k []).length≤B:=by
  intro l k hl
  rw [J06]
  cases h:l[k]? with
  | none=>simp
  | some t=>exact hl t (J22 h)
 have key:∀k,k≤(C8 result).length+1→I8 (x2 names (C8 result) s k)∧(x2 names (C8 result) s k).length≤k*(parents.length*L+1)∧∀r∈x2 names (C8 result) s k,r.Text.length≤B:=by
  intro k
  induction k with
  | zero=>intro _;simp only [x2,List.range_zero,J37,J44];exact ⟨fun r hr=>(by cases hr),by simp,fun r hr=>(by cases hr)⟩
  | succ k ih =>
   intro hk
   obtain ⟨i1,i2,i3⟩:=ih (by omega)
   have hc:=hcs k
   have hgap:∀r∈r8 names (C8 result) s k,(0≤r.Marks∧r.Marks < 4294967296)∧r.Text.length≤B:=by
    intro r hr
    unfold r8 at hr
    rcases List.mem_append.1 hr with h | h
    ·obtain ⟨m,hmem,rfl⟩:=List.mem_map.1 h
     exact ⟨hc.2 m hmem,hgetD _ _ hnB⟩
    ·split at h
     ·rename_i hkl
      simp only [List.mem_singleton] at h
      subst h
      refine ⟨?_,hgetD _ _ (hfB _ (by rw [hfs];simp)).2⟩
      have:k < s.1.length:=by rw [hok.len];exact hkl
      show 0≤s.1.getD k 0∧s.1.getD k 0 < 4294967296
      rw [J06,J03 this]
      exact hok.marks _ (J19 this)
     ·cases h
   have hgl:(r8 names (C8 result) s k).length≤parents.length*L+1:=by
    unfold r8
    rw [J01,J35]
    have:=hc.1
    split<;>simp<;>omega
   rw [D14]
   refine ⟨fun r hr=>?_,by rw [J01,J30,Nat.one_mul];omega,fun r hr=>?_⟩
   ·rcases List.mem_append.1 hr with h | h
    ·exact i1 r h
    ·exact (hgap r h).1
   ·rcases List.mem_append.1 hr with h | h
    ·exact i3 r h
    ·exact (hgap r h).2
 obtain ⟨k1,k2,k3⟩:=key _ (Nat.le_refl _)
 have:((C8 result).length+1)*(parents.length*L+1)≤(L+1)*(parents.length*L+1):=J21 _ (by omega)
 exact ⟨k1,by simp only;omega,k3⟩
end Go.AL
namespace Go.AL
open Go
def blankB (r:Row):Bool:=!r.Lost&&decide (r.Marks=0)
def A97 (out:List Span) (v:Int):List Span:=match out.getLast? with
 | some s=>out.dropLast++[⟨s.From,v⟩]
 | none=>out
def spGo:List Bool→Nat→Bool→List Span→List Span
 | [],_,_,out=>out
 | b::r,i,p,out=>spGo r (i+1) b (if b=true then A97 (if p=true then out else out++[⟨i,i⟩]) ((i:Int)+1) else out)
def B55 (l:List Bool):List Span:=spGo l 0 false []
def C03 (n:Nat) (out:List Span):Prop:=out.length≤n∧∀s∈out,(0≤s.From∧s.From≤n)∧(0≤s.To∧s.To≤n)
theorem F17 {n:Nat} {out:List Span} (h:C03 n out):C03 (n+1) out:=⟨by have:=h.1;omega,fun s hs=>by have:=h.2 s hs;omega⟩
theorem I67 {n:Nat} {out:List Span} (h:C03 n out):C03 (n+1) (out++[⟨n,n⟩]):=by
 refine ⟨by rw [J01];have:=h.1;simp;omega,fun x hx=>?_⟩
 rcases List.mem_append.1 hx with hx | hx
 ·have:=h.2 x hx;omega
 ·simp only [J31,J33,or_false] at hx
  rw [hx];dsimp only;omega
theorem E34 {n:Nat} {out:List Span} {v:Int} (h:C03 n out) (hv:0≤v∧v≤(n:Int)):C03 n (A97 out v):=by
 unfold A97
 cases hl:out.getLast? with
 | none=>dsimp only;exact h
 | some s =>
  dsimp only
  have hm:=h.2 s (List.mem_of_getLast? hl)
  have hne:out≠[]:=fun e=>by rw [e] at hl;cases hl
  have hp:=List.length_pos_iff.2 hne
  refine ⟨by rw [J01,List.length_dropLast];have:=h.1;simp;omega,fun x hx=>?_⟩
  rcases List.mem_append.1 hx with hx | hx
  ·exact h.2 x ((List.dropLast_sublist _).subset hx)
  ·simp only [J31,J33,or_false] at hx
   rw [hx];dsimp only;omega
theorem H50 {i:Nat} {out:List Span} (b p:Bool) (h:C03 i out):C03 (i+1) (if b=true then A97 (if p=true then out else out++[⟨i,i⟩]) ((i:Int)+1) else out):=by
 split
 ·split
  ·exact E34 (F17 h) (by omega)
  ·exact E34 (I67 h) (by omega)
 ·exact F17 h
theorem H51:∀(l:List Bool) (i:Nat) (p:Bool) (out:List Span),C03 i out→C03 (i+l.length) (spGo l i p out)
 | [],i,p,out,h=>h
 | b::r,i,p,out,h=>by
  rw [spGo,J02,show i+(r.length+1)=(i+1)+r.length by omega]
  exact H51 r (i+1) b _ (H50 b p h)
theorem G55 (l:List Bool):C03 l.length (B55 l):=by
 have:=H51 l 0 false [] ⟨Nat.le_refl _,fun s hs=>by cases hs⟩
 rwa [Nat.zero_add] at this
def a8 (t:Table):List Span × Int:=if R7 t≠0 then ([],R7 t) else (B55 (t.Rows.map fun r=>!blankB r),0)
def C52 (rows:List Row):Int:=rows.foldl (fun a r=>S2 a r.Marks) 0
def A27 (t:Table) (s:Span):Bool:=(List.range t.Parents.toNat).all fun p=>!decide (C52 ((t.Rows.drop s.From.toNat).take (s.To.toNat - s.From.toNat)) / 2 ^ p % 2=0)
def J3 (t:Table) (d:Bool):List Span × Int:=if (a8 t).2≠0 then ([],(a8 t).2) else ((a8 t).1.filter fun s=>!d||A27 t s,0)
def b8 (l:List Span) (ctx:Int) (k:Nat):Bool:=l.any fun s=>decide (s.From - ctx≤k∧(k:Int) < s.To+ctx)
def S4 (t:Table) (ctx:Int) (d:Bool):List Span × Int :=
 if (J3 t d).2≠0 then ([],(J3 t d).2) else if ctx < 0∨1048576 < ctx then ([],3)
 else (B55 ((List.range t.Rows.length).map (b8 (J3 t d).1 ctx)),0)
theorem H52 (t:Table):C03 t.Rows.length (a8 t).1:=by
 unfold a8
 split
 ·exact ⟨Nat.zero_le _,fun s hs=>by cases hs⟩
 ·have:=G55 (t.Rows.map fun r=>!blankB r)
  rwa [J35] at this
theorem E35 (t:Table) (d:Bool):C03 t.Rows.length (J3 t d).1:=by
 have h:=H52 t
 unfold J3
 split
 ·exact ⟨Nat.zero_le _,fun s hs=>by cases hs⟩
 ·refine ⟨?_,fun s hs=>h.2 s (List.mem_filter.1 hs).1⟩
  have:=List.length_filter_le (fun s=>!d||A27 t s) (a8 t).1
  have:=h.1
  dsimp only;omega
theorem I68 (t:Table) (ctx:Int) (d:Bool):C03 t.Rows.length (S4 t ctx d).1:=by
 unfold S4
 split
 ·exact ⟨Nat.zero_le _,fun s hs=>by cases hs⟩
 ·split
  ·exact ⟨Nat.zero_le _,fun s hs=>by cases hs⟩
  ·have:=G55 ((List.range t.Rows.length).map (b8 (J3 t d).1 ctx))
   rwa [J35,List.length_range] at this
def D31 (l:List Bool) (i:Nat):Bool:=if i=0 then false else l.getD (i - 1) false
theorem I20 {l:List Bool} {i:Nat} {p:Bool} {out:List Span} (h:i < l.length):spGo (l.drop i) i p out=spGo (l.drop (i+1)) (i+1) (l.getD i false) (if l.getD i false=true then A97 (if p=true then out else out++[⟨i,i⟩]) ((i:Int)+1) else out):=by
 rw [J07 h,spGo,J06,J03 h];rfl
end Go.AL
