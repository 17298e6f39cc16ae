/- Plain facts about data; no project text. -/
import Derived.Test.YtgejaedjnbjpoaaGreatDoorD
import Derived.Lib.Strings
import Derived.Lib.Bytealg
import Derived.Lib.Join
import Derived.Lib.ItoaNum
import Derived.Test.YtgejaedjnbjpoaaGreatDoorAn
namespace Go.AL
open Go
theorem E25 (c:UInt8):((c.toNat:Int)=10)↔c=10:=by
 constructor
 ·intro h
  have:c.toNat=10:=by omega
  exact UInt8.toNat_inj.1 (by simpa using this)
 ·rintro rfl;rfl
def H8 (cur:Str):Str→List Str
 | []=>if cur=[] then [] else [cur]
 | c::r=>if c=10 then (cur++[c])::H8 [] r else H8 (cur++[c]) r
def C4 (b:Str):List Str:=H8 [] b
theorem A79 (cur:Str) (s:Str):(H8 cur s).length≤s.length+1:=by
 induction s generalizing cur with
 | nil=>unfold H8;split<;>simp
 | cons c r ih=>unfold H8;split<;>simp<;>(have:=ih [];have:=ih (cur++[c]);omega)
theorem B36 (s:Str):(H8 [] s).length≤s.length:=by
 have key:∀(s cur:Str),cur≠[]→(H8 cur s).length≤s.length+1:=fun s cur _=>A79 cur s
 induction s with
 | nil=>simp [H8]
 | cons c r ih=>unfold H8;split<;>simp<;>(have:=A79 ([]++[c]) r;simp at this;omega)
theorem Q5 (b:Str):(C4 b).length≤b.length:=B36 b
theorem A13 (cur r:Str) (c:UInt8):H8 cur (c::r)=if c=10 then (cur++[c])::H8 [] r else H8 (cur++[c]) r:=rfl
theorem E77 (cur:Str) (h:cur≠[]):H8 cur []=[cur]:=by simp [H8,h]
theorem or_pick {p q:Prop} [Decidable p] [Decidable q]:(if decide p=true then true else decide q)=decide (p∨q):=by by_cases p<;>simp [*]
theorem O0 {p q:Prop} [Decidable p] [Decidable q]:(if decide p=true then decide q else false)=decide (p∧q):=by by_cases p<;>simp [*]
theorem S3 {α:Type} (l:List (List α)) (i:Nat) (h:i < l.length):(l.take (i+1)).flatten=(l.take i).flatten++l[i]:=by
 rw [List.take_add_one,H97 h,Option.toList_some,I21];simp
theorem U3 {α:Type} (l:List (List α)) (i:Nat):(l.take i).flatten.length≤l.flatten.length:=by
 conv=>rhs;rw [←I34 i l,I21,H95]
 omega
theorem G20 (i:Nat):((i:Int)+1).toNat=i+1:=by omega
theorem E26 {α:Type} (b:List α) (f i:Nat) (hf:f≤i) (hi:i < b.length):(b.drop f).take (i - f)++[b[i]]=(b.drop f).take (i+1 - f):=by
 rw [show i+1 - f=(i - f)+1 by omega,List.take_add_one,I30,show f+(i - f)=i by omega,H97 hi]
 rfl
def ended (s:Str):Bool:=s.getLast? == some 10
theorem H52 (s:Str):ended s=(if decide (s≠[])=true then decide (((s.getLastD 0).toNat:Int)=10) else false):=by
 unfold ended
 by_cases h:s=[]
 ·simp [h]
 ·rw [List.getLast?_eq_some_getLast h,List.getLastD_eq_getLast?,List.getLast?_eq_some_getLast h]
  simp only [ne_eq,h,not_false_eq_true,decide_true,if_true,Option.getD_some,E25]
  rfl
def H7:List Str→Str→Int→Int
 | [],_,_ => -1
 | x::r,s,i=>if x=s then i else H7 r s (i+1)
theorem E78 (l:List Str) (s:Str) (k:Nat) (h:k < l.length):H7 (l.drop k) s k=if l[k]=s then (k:Int) else H7 (l.drop (k+1)) s ((k:Int)+1):=by
 rw [I01 h]
 simp [H7]
theorem F50 (l:List Str) (s:Str):∀(k:Int),0≤k→((H7 l s k < 0)↔s∉l):=by
 induction l with
 | nil=>intro k _;simp [H7]
 | cons x r ih =>
  intro k hk
  unfold H7
  by_cases h:x=s
  ·simp [h];omega
  ·have:=ih (k+1) (by omega)
   simp [h,this,Ne.symm h]
def J3 (s:Str):Bool:=s.dropLast.all (·≠10)&&s != []
def X7:List Str→Bool
 | []=>true
 | s::r=>J3 s&&(r.isEmpty||ended s)&&X7 r
def W9 (b:Str):Int:=if b.length > 1048576∨(C4 b).length > 4096 then 1 else 0
def G7 (out:List Str) (s:Str):List Str:=if s∈out then out else out++[s]
def E1 (files:List (List Str)):List Str:=files.flatten.foldl G7 []
def K3 (names:List Str) (file:List Str):List Int:=file.map (fun s=>H7 names s 0)
theorem C33 (out:List Str) (s:Str):(G7 out s).length≤out.length+1:=by unfold G7;split<;>simp
theorem x2 (l out:List Str):(l.foldl G7 out).length≤out.length+l.length:=by
 induction l generalizing out with
 | nil=>simp
 | cons s r ih=>have h1:=ih (G7 out s);have h2:=C33 out s;simp only [I22,H96];omega
theorem B07 (fs:List (List Str)):(E1 fs).length≤fs.flatten.length:=by have:=x2 fs.flatten [];simpa [E1] using this
end Go.AL
namespace Go.AL
open Go
def N2 (i j:Int):List Span→Int→Int→List Change
 | [],m,n=>if m > i∨n > j then [⟨i,m - i,j,n - j⟩] else []
 | x::r,m,n=>(if x.From > i∨x.To > j then [⟨i,x.From - i,j,x.To - j⟩] else [])++N2 (x.From+1) (x.To+1) r m n
def X8 (p:List Span) (m n:Int):List Change:=N2 0 0 p m n
theorem m7 (p:List Span) (i j m n:Int):(N2 i j p m n).length≤p.length+1:=by
 induction p generalizing i j with
 | nil=>unfold N2;split<;>simp
 | cons x r ih=>unfold N2;have:=ih (x.From+1) (x.To+1);split<;>simp<;>omega
def M3 (i j:Int) (n:Nat):List Span:=(List.range n).map fun (t:Nat)=>⟨i+(t:Int),j+(t:Int)⟩
theorem x3 (i j:Int) (n:Nat):(M3 i j n).length=n:=by simp [M3]
theorem A45 (i j:Int) (n:Nat):M3 i j (n+1)=⟨i,j⟩::M3 (i+1) (j+1) n:=by
 unfold M3
 rw [List.range_succ_eq_map,I05,I32]
 congr 1
 ·simp
 ·refine List.map_congr_left fun t _=>?_
  simp only [Function.comp,Span.mk.injEq]
  omega
def J0 (i j:Int):List Change→Int→List Span
 | [],m=>M3 i j (m - i).toNat
 | c::r,m=>M3 i j (c.Old - i).toNat++J0 (max i c.Old+c.OldLen) (j+(c.Old - i).toNat+c.NewLen) r m
def O2 (l:List Change) (m:Int):List Span:=J0 0 0 l m
def dist:List Int→List Int→Nat
 | [],b=>b.length
 | x::a,[]=>(x::a).length
 | x::a,y::b=>if x=y then dist a b else 1+min (dist a (y::b)) (dist (x::a) b)
theorem x4 (a:List Int):dist a []=a.length:=by cases a<;>simp [dist]
theorem B26 (a b:List Int):dist a b≤a.length+b.length:=by
 induction a generalizing b with
 | nil=>simp [dist]
 | cons x a iha =>
  induction b with
  | nil=>simp [dist]
  | cons y b ihb =>
   unfold dist
   split
   ·have:=iha b;simp;omega
   ·have:=iha (y::b);have:=ihb;simp only [H96] at *;omega
def F1 (i j:Int):List Int→List Int→List Span
 | [],_=>[]
 | _::_,[]=>[]
 | x::a,y::b=>if x=y then ⟨i,j⟩::F1 (i+1) (j+1) a b else if dist a (y::b)+1=dist (x::a) (y::b) then F1 (i+1) j a (y::b) else F1 i (j+1) (x::a) b
def K5 (a b:List Int):List Change:=X8 (F1 0 0 a b) a.length b.length
theorem E27 (a b:List Int) (i j:Nat) (hi:i < a.length) (hj:j < b.length) :
  dist (a.drop i) (b.drop j)=if a[i]=b[j] then dist (a.drop (i+1)) (b.drop (j+1)) else 1+min (dist (a.drop (i+1)) (b.drop j)) (dist (a.drop i) (b.drop (j+1))):=by
 rw [I01 hi,I01 hj]
 conv=>lhs;rw [dist]
theorem p6 (a b:List Int) (i j:Nat) (hi:i < a.length) (hj:j < b.length) (p q:Int) :
  F1 p q (a.drop i) (b.drop j)=if a[i]=b[j] then ⟨p,q⟩::F1 (p+1) (q+1) (a.drop (i+1)) (b.drop (j+1)) else
   if dist (a.drop (i+1)) (b.drop j)+1=dist (a.drop i) (b.drop j) then F1 (p+1) q (a.drop (i+1)) (b.drop j) else F1 p (q+1) (a.drop i) (b.drop (j+1)):=by
 rw [I01 hi,I01 hj]
 conv=>lhs;rw [F1]
theorem U4 (p q:Int) (b:List Int):F1 p q [] b=[]:=by simp [F1]
theorem X0 (p q:Int) (a:List Int):F1 p q a []=[]:=by cases a<;>simp [F1]
theorem S6 (p q:Int) (a b:List Int):(F1 p q a b).length≤a.length:=by
 induction a generalizing p q b with
 | nil=>simp [F1]
 | cons x a iha =>
  induction b generalizing p q with
  | nil=>simp [F1]
  | cons y b ihb =>
   unfold F1
   split
   ·have:=iha (p+1) (q+1) b;simp;omega
   ·split
    ·have:=iha (p+1) q (y::b);simp;omega
    ·exact ihb p (q+1)
universe u
theorem A26 {α:Type u} (n k:Nat) (f g:Nat→α) (v:α) (hv:k < n→g k=v) (h:∀q,q < n→q≠k→g q=f q):((List.range n).map f).set k v=(List.range n).map g:=by
 refine List.ext_getElem (by simp) fun q h1 h2=>?_
 have hq:q < n:=by simpa using h2
 rw [List.getElem_set]
 by_cases he:k=q
 ·subst he;simp [hv hq]
 ·rw [if_neg he];simp [h q hq (Ne.symm he)]
theorem A27 {α:Type u} (n k:Nat) (f:Nat→α) (h:k < n):((List.range n).map f)[k]?=some (f k):=by simp [h]
def P0 (a b:List Int) (i q:Nat):List Int:=(List.range (b.length+1)).map fun j=>if q≤j then (dist (a.drop i) (b.drop j):Int) else 0
def N3 (a b:List Int) (i:Nat):List (List Int):=(List.range (a.length+1)).map fun r=>if i≤r then P0 a b r 0 else []
def B27 (a b:List Int):List (List Int):=N3 a b 0
theorem D40 (a b:List Int) (i q:Nat):(P0 a b i q).length=b.length+1:=by simp [P0]
theorem s5 (a b:List Int) (i:Nat):(N3 a b i).length=a.length+1:=by simp [N3]
theorem E79 (a b:List Int) (i:Nat):List.replicate (b.length+1) 0=P0 a b i (b.length+1):=by
 refine List.ext_getElem (by simp [P0]) fun q h1 h2=>?_
 have:¬(b.length+1≤q):=by simp at h1;omega
 simp [P0,this]
theorem D89 (a b:List Int):List.replicate (a.length+1) []=N3 a b (a.length+1):=by
 refine List.ext_getElem (by simp [N3]) fun q h1 h2=>?_
 have:¬(a.length+1≤q):=by simp at h1;omega
 simp [N3,this]
theorem F51 (a b:List Int) (i j:Nat):(P0 a b i (j+1)).set j (dist (a.drop i) (b.drop j):Int)=P0 a b i j:=by
 unfold P0
 refine A26 _ _ _ _ _ (fun _=>by simp) fun q hq hne=>?_
 by_cases h:j≤q
 ·rw [if_pos h,if_pos (by omega)]
 ·rw [if_neg h,if_neg (by omega)]
theorem p7 (a b:List Int) (i q j:Nat) (h:q≤j) (hj:j≤b.length):(P0 a b i q)[j]?=some (dist (a.drop i) (b.drop j):Int):=by
 unfold P0
 rw [A27 _ _ _ (by omega),if_pos h]
theorem E80 (a b:List Int) (i:Nat):(N3 a b (i+1)).set i (P0 a b i 0)=N3 a b i:=by
 unfold N3
 refine A26 _ _ _ _ _ (fun _=>by simp) fun q hq hne=>?_
 by_cases h:i≤q
 ·rw [if_pos h,if_pos (by omega)]
 ·rw [if_neg h,if_neg (by omega)]
theorem A46 (a b:List Int) (i r:Nat) (h:i≤r) (hr:r≤a.length):(N3 a b i)[r]?=some (P0 a b r 0):=by
 unfold N3
 rw [A27 _ _ _ (by omega),if_pos h]
def F4 (l:List Merged):List Int:=l.map (·.Line)
theorem j2 (i j:Int):M3 i j 0=[]:=rfl
theorem A47 (i j:Int) (n:Nat):M3 i j (n+1)=M3 i j n++[⟨i+n,j+n⟩]:=by simp [M3,I31]
def Asc (m n:Int):Int→Int→List Span→Prop
 | i,j,[]=>i≤m∧j≤n
 | i,j,x::r=>i≤x.From∧j≤x.To∧Asc m n (x.From+1) (x.To+1) r
theorem Asc.le {m n:Int}:∀{p:List Span} {i j:Int},Asc m n i j p→i≤m∧j≤n
 | [],i,j,h=>h
 | x::r,i,j,h=>by have:=Asc.le h.2.2;have:=h.1;have:=h.2.1;omega
theorem Asc.weaken {m n:Int} {p:List Span} {i j i' j':Int} (h:Asc m n i j p) (hi:i'≤i) (hj:j'≤j):Asc m n i' j' p:=by
 cases p with
 | nil=>exact ⟨by have:=h.1;omega,by have:=h.2;omega⟩
 | cons x r=>exact ⟨by have:=h.1;omega,by have:=h.2.1;omega,h.2.2⟩
theorem W2 (a b:List Int):∀(p q:Int),Asc (p+a.length) (q+b.length) p q (F1 p q a b):=by
 induction a generalizing b with
 | nil=>intro p q;rw [U4];simp only [Asc,H98];omega
 | cons x a iha =>
  induction b with
  | nil=>intro p q;rw [X0];simp only [Asc,H98];omega
  | cons y b ihb =>
   intro p q
   rw [F1]
   split
   ·have:=iha b (p+1) (q+1)
    refine ⟨Int.le_refl _,Int.le_refl _,?_⟩
    simp only [H96]
    rwa [show p+((a.length+1:Nat):Int)=p+1+a.length by omega,show q+((b.length+1:Nat):Int)=q+1+b.length by omega]
   ·split
    ·have:=(iha (y::b) (p+1) q).weaken (i':=p) (j':=q) (by omega) (Int.le_refl _)
     rwa [show p+((x::a).length:Int)=p+1+a.length by simp;omega]
    ·have:=(ihb p (q+1)).weaken (i':=p) (j':=q) (Int.le_refl _) (by omega)
     rwa [show q+((y::b).length:Int)=q+1+b.length by simp;omega]
theorem Asc.made {m n:Int}:∀{p:List Span} {i j:Int},Asc m n i j p→∀c∈N2 i j p m n,i≤c.Old∧j≤c.New∧0≤c.OldLen∧0≤c.NewLen∧c.Old+c.OldLen≤m∧c.New+c.NewLen≤n
 | [],i,j,h,c,hc=>by
  unfold N2 at hc
  split at hc
  ·simp only [List.mem_singleton] at hc;subst hc
   have:=h.1;have:=h.2
   simp only;omega
  ·cases hc
 | x::r,i,j,h,c,hc=>by
  unfold N2 at hc
  obtain ⟨h1,h2,h3⟩:=h
  have h4:=h3.le
  rcases List.mem_append.1 hc with hc | hc
  ·split at hc
   ·simp only [List.mem_singleton] at hc;subst hc
    simp only;omega
   ·cases hc
  ·have:=Asc.made h3 c hc;omega
theorem D41 (i j m:Int) (l:List Change) (h:∀c∈l,i+1≤c.Old) (hm:l=[]→i+1≤m):J0 i j l m=⟨i,j⟩::J0 (i+1) (j+1) l m:=by
 cases l with
 | nil =>
  have:=hm rfl
  rw [J0,J0,show (m - i).toNat=(m - (i+1)).toNat+1 by omega,A45]
 | cons c r =>
  have:=h c (List.mem_cons_self ..)
  rw [J0,J0,show (c.Old - i).toNat=(c.Old - (i+1)).toNat+1 by omega,A45]
  rw [show max (i+1) c.Old=max i c.Old by omega,show (j+1+((c.Old - (i+1)).toNat:Int))=j+(((c.Old - (i+1)).toNat+1:Nat):Int) by omega]
  rfl
theorem B98 {m n:Int}:∀{p:List Span} {i j:Int},Asc m n i j p→J0 i j (N2 i j p m n) m=p
 | [],i,j,h=>by
  have h1:=h.1;have h2:=h.2
  unfold N2
  split
  ·rw [J0,J0,show (i - i).toNat=0 by omega,show (m - (max i i+(m - i))).toNat=0 by omega];rfl
  ·rw [J0,show (m - i).toNat=0 by omega];rfl
 | x::r,i,j,h=>by
  obtain ⟨h1,h2,h3⟩:=h
  have ih:=B98 h3
  have hm:=h3.le
  have hd:=D41 x.From x.To m (N2 (x.From+1) (x.To+1) r m n) (fun c hc=>(h3.made c hc).1) (fun _=>hm.1)
  rw [ih] at hd
  unfold N2
  split
  ·rw [I40,J0,show (i - i).toNat=0 by omega,show max i i+(x.From - i)=x.From by omega,show j+((0:Nat):Int)+(x.To - j)=x.To by omega,hd];rfl
  ·have e1:i=x.From:=by omega
   have e2:j=x.To:=by omega
   rw [I28,e1,e2,hd]
theorem A48 (a b:List Int):O2 (K5 a b) a.length=F1 0 0 a b:=by
 have:=W2 a b 0 0
 rw [Int.zero_add,Int.zero_add] at this
 exact B98 this
theorem A49 (a b:List Int):∀c∈K5 a b,0≤c.Old∧0≤c.New∧0≤c.OldLen∧0≤c.NewLen∧c.Old+c.OldLen≤a.length∧c.New+c.NewLen≤b.length:=by
 have:=W2 a b 0 0
 rw [Int.zero_add,Int.zero_add] at this
 exact this.made
def H3 (p:Int):Int:=IntKind.u32.wrap (1*2 ^ (min (IntKind.u64.wrap p).toNat IntKind.u32.bits))
def K6 (a b:Int):Int:=IntKind.u32.wrap ((BitVec.ofInt IntKind.u32.bits a ||| BitVec.ofInt IntKind.u32.bits b).toNat:Int)
def P5 (l:List Merged) (list:List Int) (bit:Int) (i j:Nat):List Span→List Merged
 | []=>(l.drop i).take (l.length - i)++((list.drop j).take (list.length - j)).map fun v=>⟨v,bit⟩
 | x::r=>(l.drop i).take (x.From.toNat - i)++(((list.drop j).take (x.To.toNat - j)).map fun v=>⟨v,bit⟩)++((l[x.From.toNat]?.map fun y=>(⟨y.Line,K6 y.Parents bit⟩:Merged)).toList++P5 l list bit (x.From.toNat+1) (x.To.toNat+1) r)
def S9 (l:List Merged) (list:List Int) (p:Int):List Merged:=P5 l list (H3 p) 0 0 (F1 0 0 (F4 l) list)
theorem x5 {α:Type} (l:List α) (i t:Nat) (h:i+t < l.length):(l.drop i).take (t+1)=(l.drop i).take t++[l[i+t]]:=by
 rw [List.take_add_one,I30,H97 h];rfl
theorem B46 (l:List Merged) (list:List Int) (bit:Int):∀(p:List Span) (i j:Nat),(P5 l list bit i j p).length≤l.length*(p.length+1)+list.length*(p.length+1)+p.length
 | [],i,j=>by simp [P5];omega
 | x::r,i,j=>by
  have:=B46 l list bit r (x.From.toNat+1) (x.To.toNat+1)
  have h1:((l.drop i).take (x.From.toNat - i)).length≤l.length:=by simp;omega
  have h2:((list.drop j).take (x.To.toNat - j)).length≤list.length:=by simp;omega
  have h3:((l[x.From.toNat]?.map fun y=>(⟨y.Line,K6 y.Parents bit⟩:Merged)).toList).length≤1:=by cases l[x.From.toNat]?<;>simp
  simp only [P5,H95,I19,H96,Nat.mul_add,Nat.mul_one] at *
  omega
end Go.AL
namespace Go.AL
open Go
def A28 (m:Int) (c:Nat):Bool:=m / 2 ^ c % 2 == 1
def Z4 (r:Row) (c:Int):Bool:=if c = -1 then !r.Lost else if c < -1∨32≤c then false else A28 r.Marks c.toNat == r.Lost
def O1 (rows:List Row) (c:Int):List Str:=(rows.filter (Z4 · c)).map (·.Text)
def X9 (n:Nat) (r:Row):Bool:=r.Marks / 2 ^ n == 0&&!(r.Lost&&r.Marks == 0)
def L6 (rows:List Row) (n:Nat):Bool:=rows.all (X9 n)
def j3 (rows:List Row) (n:Nat):Bool:=rows.all (fun r=>J3 r.Text)&&(List.range (n+1)).all fun k=>X7 (O1 rows ((k:Int) - 1))
def N4 (t:Table):Int:=if t.Parents < 1∨32 < t.Parents then 2 else if L6 t.Rows t.Parents.toNat=false then 180 else if j3 t.Rows t.Parents.toNat=false then 4 else 0
theorem A50 (r:Row) (rs:List Row) (n:Nat):L6 (r::rs) n=(X9 n r&&L6 rs n):=rfl
def I7 (rows:List Row):Prop:=∀r∈rows,0≤r.Marks∧r.Marks < 4294967296
def P6 (rows:List Row):Nat:=(rows.map (·.Text)).flatten.length
theorem B28 (rows:List Row) (c:Int):(O1 rows c).length≤rows.length:=by unfold O1;rw [I19];exact List.length_filter_le _ _
theorem G21 (rows:List Row) (c:Int):(O1 rows c).flatten.length≤P6 rows:=by
 unfold O1 P6
 induction rows with
 | nil=>simp
 | cons r rs ih =>
  rw [List.filter_cons]
  split
  ·simp only [I05,I11,H95];omega
  ·simp only [I05,I11,H95];omega
theorem H09 (rows:List Row) (c:Int):∀s∈O1 rows c,∃r∈rows,r.Text=s:=by
 intro s hs
 unfold O1 at hs
 obtain ⟨r,hr,rfl⟩:=List.mem_map.1 hs
 exact ⟨r,(List.mem_filter.1 hr).1,rfl⟩
theorem B99 (rows:List Row):∀r∈rows,r.Text.length≤P6 rows:=by
 intro r hr
 unfold P6
 exact (List.sublist_flatten_of_mem (List.mem_map_of_mem hr)).length_le
theorem C00 (x:Int) (h:0≤x∧x < 4294967296):IntKind.u32.wrap ((BitVec.ofInt IntKind.u32.bits x &&& BitVec.ofInt IntKind.u32.bits 1).toNat:Int)=x % 2:=by
 have h1:(BitVec.ofInt IntKind.u32.bits x &&& BitVec.ofInt IntKind.u32.bits 1).toNat=x.toNat % 2:=by
  rw [BitVec.toNat_and,BitVec.toNat_ofInt,BitVec.toNat_ofInt]
  have e1:(x % ((2 ^ IntKind.u32.bits:Nat):Int)).toNat=x.toNat:=by
   rw [show ((2 ^ IntKind.u32.bits:Nat):Int)=4294967296 by rfl];omega
  have e2:((1:Int) % ((2 ^ IntKind.u32.bits:Nat):Int)).toNat=1:=by rfl
  rw [e1,e2,Nat.and_one_is_mod]
 rw [h1]
 have h2:IntKind.u32.wrap ((x.toNat % 2:Nat):Int)=((x.toNat % 2:Nat):Int):=by
  simp [IntKind.wrap,IntKind.signed,IntKind.bits];omega
 rw [h2];omega
theorem A51 {n:Int} (h:0≤n∧n < 18446744073709551616):IntKind.u64.wrap n=n:=by simp [IntKind.wrap,IntKind.signed,IntKind.bits];omega
theorem E28 (m c:Int) (hc:0≤c∧c≤32):m.fdiv (2 ^ (min c.toNat IntKind.u32.bits))=m / 2 ^ c.toNat:=by
 rw [show min c.toNat IntKind.u32.bits=c.toNat from Nat.min_eq_left (by show c.toNat≤32;omega),Int.fdiv_eq_ediv_of_nonneg _ (Int.pow_nonneg (by decide))]
theorem shr64' (m c:Int) (hc:0≤c∧c≤64):m.fdiv (2 ^ (min c.toNat IntKind.u64.bits))=m / 2 ^ c.toNat:=by
 rw [show min c.toNat IntKind.u64.bits=c.toNat from Nat.min_eq_left (by show c.toNat≤64;omega),Int.fdiv_eq_ediv_of_nonneg _ (Int.pow_nonneg (by decide))]
theorem shr_eq (m c:Int) (b:Nat) (hc:0≤c∧c≤b):m.fdiv (2 ^ (min c.toNat b))=m / 2 ^ c.toNat:=by
 rw [show min c.toNat b=c.toNat by omega,Int.fdiv_eq_ediv_of_nonneg _ (Int.pow_nonneg (by decide))]
end Go.AL
namespace Go.AL
open Go
theorem E81 (n:Int):0≤IntKind.u32.wrap n∧IntKind.u32.wrap n < 4294967296:=by simp [IntKind.wrap,IntKind.signed,IntKind.bits];omega
def Z5 (a b:Int):Int:=IntKind.u32.wrap ((BitVec.ofInt IntKind.u32.bits a &&& ~~~BitVec.ofInt IntKind.u32.bits b).toNat:Int)
def I4 (acc:List Merged) (p:Nat):List (List Int)→List Merged × Int
 | []=>(acc,0)
 | x::r=>if 4096 < acc.length∨4096 < x.length then ([],1) else I4 (S9 acc x p) (p+1) r
def E9 (lists:List (List Int)):List Merged × Int:=if 32 < lists.length then ([],1) else I4 [] 0 lists
theorem C59 (l:List Merged) (list:List Int) (bit:Int):∀(ps:List Span) (i j:Nat),i≤l.length→j≤list.length→Asc l.length list.length i j ps→(P5 l list bit i j ps).length≤(l.length - i)+(list.length - j)
 | [],i,j,hi,hj,_=>by simp [P5]
 | x::r,i,j,hi,hj,ha=>by
  obtain ⟨h1,h2,h3⟩:=ha
  have h4:=h3.le
  have e1:((x.From.toNat+1:Nat):Int)=x.From+1:=by omega
  have e2:((x.To.toNat+1:Nat):Int)=x.To+1:=by omega
  have ih:=C59 l list bit r (x.From.toNat+1) (x.To.toNat+1) (by omega) (by omega) (by rw [e1,e2];exact h3)
  have h5:((l[x.From.toNat]?.map fun y=>(⟨y.Line,K6 y.Parents bit⟩:Merged)).toList).length≤1:=by cases l[x.From.toNat]?<;>simp
  simp only [P5,H95,I19,I13,I10]
  omega
theorem B08 (l:List Merged) (list:List Int) (p:Int):(S9 l list p).length≤l.length+list.length:=by
 have hasc:=W2 (F4 l) list 0 0
 rw [Int.zero_add,Int.zero_add,show (F4 l).length=l.length by simp [F4]] at hasc
 have:=C59 l list (H3 p) (F1 0 0 (F4 l) list) 0 0 (Nat.zero_le _) (Nat.zero_le _) hasc
 simpa [S9] using this
theorem Y4 {α:Type} {l:List α} {i n:Nat} {x:α} (h:x∈(l.drop i).take n):x∈l:=List.mem_of_mem_drop (List.mem_of_mem_take h)
theorem D42 (l:List Merged) (list:List Int) (bit:Int) (hb:0≤bit∧bit < 4294967296) (hl:∀m∈l,0≤m.Parents∧m.Parents < 4294967296) (Q:Int→Prop) (hq1:∀m∈l,Q m.Line) (hq2:∀v∈list,Q v) :
  ∀(ps:List Span) (i j:Nat),∀m∈P5 l list bit i j ps,(0≤m.Parents∧m.Parents < 4294967296)∧Q m.Line
 | [],i,j,m,hm=>by
  rcases List.mem_append.1 hm with h | h
  ·have:=Y4 h;exact ⟨hl _ this,hq1 _ this⟩
  ·obtain ⟨v,hv,rfl⟩:=List.mem_map.1 h
   exact ⟨hb,hq2 _ (Y4 hv)⟩
 | x :: r,i,j,m,hm=>by
  unfold P5 at hm
  rcases List.mem_append.1 hm with h | h
  ·rcases List.mem_append.1 h with h | h
   ·have:=Y4 h;exact ⟨hl _ this,hq1 _ this⟩
   ·obtain ⟨v,hv,rfl⟩:=List.mem_map.1 h
    exact ⟨hb,hq2 _ (Y4 hv)⟩
  ·rcases List.mem_append.1 h with h | h
   ·cases hx:l[x.From.toNat]? with
    | none=>simp [hx] at h
    | some y =>
     simp [hx] at h
     subst h
     exact ⟨E81 _,hq1 y (I12 hx)⟩
   ·exact D42 l list bit hb hl Q hq1 hq2 r _ _ m h
theorem z7 (Q:Int→Prop) (B:Nat):∀(ls:List (List Int)) (acc:List Merged) (p:Nat),(∀x∈ls,x.length≤B∧∀v∈x,Q v)→(∀m∈acc,(0≤m.Parents∧m.Parents < 4294967296)∧Q m.Line) →
  (I4 acc p ls).1.length≤acc.length+ls.length*B∧∀m∈(I4 acc p ls).1,(0≤m.Parents∧m.Parents < 4294967296)∧Q m.Line
 | [],acc,p,_,ha=>by simp only [I4];exact ⟨by simp,ha⟩
 | x::r,acc,p,hl,ha=>by
  unfold I4
  split
  ·exact ⟨by simp,by simp⟩
  ·have hx:=hl x (List.mem_cons_self ..)
   have hj:=B08 acc x p
   have hm:=D42 acc x (H3 p) (E81 _) (fun m hm=>(ha m hm).1) Q (fun m hm=>(ha m hm).2) hx.2 (F1 0 0 (F4 acc) x) 0 0
   have ih:=z7 Q B r (S9 acc x p) (p+1) (fun y hy=>hl y (List.mem_cons_of_mem _ hy)) hm
   refine ⟨?_,ih.2⟩
   have h1:=ih.1
   have h2:=hx.1
   simp only [H96,I18,Nat.one_mul]
   omega
theorem A14 (Q:Int→Prop) (B:Nat) (ls:List (List Int)) (h:∀x∈ls,x.length≤B∧∀v∈x,Q v):(E9 ls).1.length≤ls.length*B∧∀m∈(E9 ls).1,(0≤m.Parents∧m.Parents < 4294967296)∧Q m.Line:=by
 unfold E9
 split
 ·exact ⟨by simp,by simp⟩
 ·have:=z7 Q B ls [] 0 h (by simp)
  simpa using this
def J1 (p:Int) (ms:List Int) (x:Span):List Int:=ms.set x.To.toNat (Z5 (ms.getD x.To.toNat 0) (H3 p))
def I8 (p:Nat) (file:List Int) (g:Nat→List (List Int)) (c:Change):Nat→List (List Int):=fun k =>
 if k=c.New.toNat then (g k).set p ((file.drop c.Old.toNat).take ((c.Old+c.OldLen).toNat - c.Old.toNat)) else g k
abbrev Loom:=List Int × (Nat→List (List Int))
def K7 (ids:List (List Int)) (s:Loom) (p:Nat):Loom :=
 let file:=ids.getD (p+1) []
 let sc:=K5 file (ids.getD 0 [])
 ((O2 sc file.length).foldl (J1 p) (s.1.map (K6 · (H3 p))),sc.foldl (I8 p file) s.2)
def u0 (lines n:Nat):Loom:=(List.replicate lines 0,fun _=>List.replicate n [])
def P9 (ids:List (List Int)) (lines n p:Nat):Loom:=(List.range p).foldl (K7 ids) (u0 lines n)
def U9 (names:List Str) (file:List Str) (s:Loom) (k:Nat):List Row :=
 (E9 (s.2 k)).1.map (fun m=>(⟨true,m.Parents,names.getD m.Line.toNat []⟩:Row))++(if k < file.length then [⟨false,s.1.getD k 0,file.getD k []⟩] else [])
def U0 (names:List Str) (file:List Str) (s:Loom) (k:Nat):List Row:=((List.range k).map (U9 names file s)).flatten
def M5 (result:Str) (parents:List Str):Table × Int :=
 if parents.length < 1∨32 < parents.length then (⟨0,[]⟩,2) else
 let fs:=C4 result::parents.map C4
 let names:=E1 fs
 let s:=P9 (fs.map (K3 names)) (C4 result).length parents.length parents.length
 if ∃k,k < (C4 result).length+1∧(E9 (s.2 k)).2≠0 then (⟨0,[]⟩,1) else (⟨parents.length,U0 names (C4 result) s ((C4 result).length+1)⟩,0)
theorem a7 (names file:List Str) (s:Loom) (k:Nat):U0 names file s (k+1)=U0 names file s k++U9 names file s k:=by
 unfold U0;rw [I31,I09,I21];simp
structure LoomOk (Q:Int→Prop) (B lines n:Nat) (s:Loom):Prop where
 len:s.1.length=lines
 marks:∀m∈s.1,0≤m∧m < 4294967296
 gaps:∀k,(s.2 k).length=n∧∀x∈s.2 k,x.length≤B∧∀v∈x,Q v
theorem H53 (Q:Int→Prop) (B lines n:Nat):LoomOk Q B lines n (u0 lines n) where
 len:=by simp [u0]
 marks:=fun m hm=>by have:=List.eq_of_mem_replicate hm;subst this;decide
 gaps:=fun k=>⟨by simp [u0],fun x hx=>by have:=List.eq_of_mem_replicate hx;subst this;simp⟩
theorem H10 {Q:Int→Prop} {B n p:Nat} {file:List Int} (hf:file.length≤B∧∀v∈file,Q v) {g:Nat→List (List Int)} (hg:∀k,(g k).length=n∧∀x∈g k,x.length≤B∧∀v∈x,Q v) (c:Change) :
  ∀k,(I8 p file g c k).length=n∧∀x∈I8 p file g c k,x.length≤B∧∀v∈x,Q v:=by
 intro k
 unfold I8
 split
 ·refine ⟨by rw [List.length_set];exact (hg k).1,fun x hx=>?_⟩
  rcases List.mem_or_eq_of_mem_set hx with h | rfl
  ·exact (hg k).2 x h
  ·exact ⟨by simp;omega,fun v hv=>hf.2 v (Y4 hv)⟩
 ·exact hg k
theorem A52 {Q:Int→Prop} {B n p:Nat} {file:List Int} (hf:file.length≤B∧∀v∈file,Q v):∀(sc:List Change) {g:Nat→List (List Int)},(∀k,(g k).length=n∧∀x∈g k,x.length≤B∧∀v∈x,Q v) →
  ∀k,(sc.foldl (I8 p file) g k).length=n∧∀x∈sc.foldl (I8 p file) g k,x.length≤B∧∀v∈x,Q v
 | [],_,hg=>hg
 | c::r,_,hg=>A52 hf r (H10 hf hg c)
theorem F52 {p:Int} {ms:List Int} {x:Span} (h:∀m∈ms,0≤m∧m < 4294967296):(J1 p ms x).length=ms.length∧∀m∈J1 p ms x,0≤m∧m < 4294967296:=by
 refine ⟨by simp [J1],fun m hm=>?_⟩
 rcases List.mem_or_eq_of_mem_set hm with h' | rfl
 ·exact h m h'
 ·exact E81 _
theorem B09 {p:Int}:∀(ps:List Span) {ms:List Int},(∀m∈ms,0≤m∧m < 4294967296)→(ps.foldl (J1 p) ms).length=ms.length∧∀m∈ps.foldl (J1 p) ms,0≤m∧m < 4294967296
 | [],ms,h=>⟨rfl,h⟩
 | x::r,ms,h=>by
  have h1:=F52 (p:=p) (x:=x) h
  have h2:=B09 (p:=p) r h1.2
  exact ⟨h2.1.trans h1.1,h2.2⟩
theorem D90 {Q:Int→Prop} {B lines n:Nat} {ids:List (List Int)} (hids:∀x∈ids,x.length≤B∧∀v∈x,Q v) {s:Loom} (h:LoomOk Q B lines n s) (p:Nat):LoomOk Q B lines n (K7 ids s p):=by
 have hf:(ids.getD (p+1) []).length≤B∧∀v∈ids.getD (p+1) [],Q v:=by
  rw [I00]
  cases hx:ids[p+1]? with
  | none=>simp
  | some x=>exact hids x (I12 hx)
 have hr:∀m∈s.1.map (K6 · (H3 p)),0≤m∧m < 4294967296:=fun m hm=>by
  obtain ⟨v,_,rfl⟩:=List.mem_map.1 hm;exact E81 _
 have hc:=B09 (p:=p) (O2 (K5 (ids.getD (p+1) []) (ids.getD 0 [])) (ids.getD (p+1) []).length) hr
 exact { len:=by rw [K7];simp only;rw [hc.1,I19];exact h.len,marks:=hc.2,gaps:=A52 hf _ h.gaps }
theorem B10 (ids:List (List Int)) (lines n p:Nat):P9 ids lines n (p+1)=K7 ids (P9 ids lines n p) p:=by
 unfold P9;rw [I31,I29];rfl
theorem B29 {Q:Int→Prop} {B lines n:Nat} {ids:List (List Int)} (hids:∀x∈ids,x.length≤B∧∀v∈x,Q v):∀p,LoomOk Q B lines n (P9 ids lines n p)
 | 0=>H53 Q B lines n
 | p+1=>by rw [B10];exact D90 hids (B29 hids p) p
theorem B64 (l:List Str) (s:Str):∀k:Int,0≤k→s∈l→k≤H7 l s k∧H7 l s k < k+l.length:=by
 induction l with
 | nil=>intro k _ h;cases h
 | cons x r ih =>
  intro k hk h
  unfold H7
  by_cases hx:x=s
  ·rw [if_pos hx];simp;omega
  ·rw [if_neg hx]
   have:=ih (k+1) (by omega) (by rcases List.mem_cons.1 h with rfl | h;exact absurd rfl hx;exact h)
   simp only [H96];omega
theorem C82 (l:List Str):∀(out:List Str) (s:Str),s∈out∨s∈l→s∈l.foldl G7 out:=by
 induction l with
 | nil=>intro out s h;rcases h with h | h;exact h;cases h
 | cons x r ih =>
  intro out s h
  apply ih
  rcases h with h | h
  ·left;unfold G7;split;exact h;exact List.mem_append_left _ h
  ·rcases List.mem_cons.1 h with rfl | h
   ·left;unfold G7;split;assumption;simp
   ·exact .inr h
theorem C60 (fs:List (List Str)) (s:Str) (f:List Str) (hf:f∈fs) (hs:s∈f):s∈E1 fs:=C82 _ _ _ (.inr (List.mem_flatten.2 ⟨f,hf,hs⟩))
theorem ids_in (fs:List (List Str)):∀x∈fs.map (K3 (E1 fs)),∀v∈x,0≤v∧v < (E1 fs).length:=by
 intro x hx v hv
 obtain ⟨f,hf,rfl⟩:=List.mem_map.1 hx
 obtain ⟨s,hs,rfl⟩:=List.mem_map.1 hv
 have:=B64 (E1 fs) s 0 (Int.le_refl _) (C60 fs s f hf hs)
 omega
theorem C83 (l:List Str):∀(out:List Str) (s:Str),s∈l.foldl G7 out→s∈out∨s∈l:=by
 induction l with
 | nil=>intro out s h;exact .inl h
 | cons x r ih =>
  intro out s h
  rcases ih _ _ h with h | h
  ·unfold G7 at h
   split at h
   ·exact .inl h
   ·rcases List.mem_append.1 h with h | h
    ·exact .inl h
    ·simp at h;subst h;exact .inr (by simp)
  ·exact .inr (List.mem_cons_of_mem _ h)
theorem F53 (fs:List (List Str)) (s:Str) (h:s∈E1 fs):s∈fs.flatten:=by
 rcases C83 _ _ _ h with h | h
 ·cases h
 ·exact h
end Go.AL
namespace Go.AL
open Go
theorem C01 (s:Str):Lib.hasSuffix s [10]=ended s:=by
 unfold Lib.hasSuffix ended
 rw [Bool.eq_iff_iff,List.isSuffixOf_iff_suffix,beq_iff_eq]
 constructor
 ·rintro ⟨t,rfl⟩;simp
 ·intro h
  obtain ⟨hne,h2⟩:=List.getLast?_eq_some_iff.1 h
  exact ⟨hne,h2.symm⟩
def B11 (s:Str):Str:=if ended s then s.dropLast else s
theorem D91 (s:Str):Lib.trimSuffix s [10]=B11 s:=by
 unfold Lib.trimSuffix B11
 rw [C01,List.dropLast_eq_take];rfl
theorem s6 (c:UInt8):∀l:Str,(c∉l∧Lib.indexByte l c = -1)∨∃a b,l=a++c::b∧c∉a∧Lib.indexByte l c=a.length
 | []=>.inl ⟨by simp,rfl⟩
 | x::l=>by
  unfold Lib.indexByte
  by_cases hx:x=c
  ·exact .inr ⟨[],l,by rw [hx];rfl,by simp,by simp [hx]⟩
  ·rcases s6 c l with ⟨h1,h2⟩ | ⟨a,b,h1,h2,h3⟩
   ·exact .inl ⟨by simp [h1,Ne.symm hx],by simp [hx,h2]⟩
   ·refine .inr ⟨x::a,b,by rw [h1];rfl,by simp [h2,Ne.symm hx],?_⟩
    have h4:¬((a.length:Int) = -1):=by omega
    simp [hx,h3,h4]
theorem D92 (c:UInt8) (l:Str):0≤Lib.indexByte l c↔c∈l:=by
 rcases s6 c l with ⟨h1,h2⟩ | ⟨a,b,h1,h2,h3⟩
 ·rw [h2];simp [h1]
 ·rw [h3,h1];simp
theorem G22 (s:Str):J3 s=true↔s≠[]∧10∉s.dropLast:=by
 unfold J3
 rw [H99,List.all_eq_true]
 constructor
 ·rintro ⟨h1,h2⟩
  exact ⟨by simpa using h2,fun h=>by have:=h1 10 h;simp at this⟩
 ·rintro ⟨h1,h2⟩
  exact ⟨fun x hx=>by simpa using fun e:x=10=>h2 (e ▸ hx),by simpa using h1⟩
theorem H54 (s:Str):10∈B11 s↔10∈s.dropLast:=by
 unfold B11
 split
 ·exact Iff.rfl
 ·rename_i h
  by_cases hs:s=[]
  ·subst hs;simp
  ·constructor
   ·intro h2
    have e:=(List.dropLast_concat_getLast hs).symm
    rw [e] at h2
    rcases List.mem_append.1 h2 with h3 | h3
    ·exact h3
    ·exfalso
     refine h ?_
     unfold ended
     rw [List.getLast?_eq_some_getLast hs]
     simp at h3;simp [←h3]
   ·exact fun h2=>List.dropLast_subset s h2
theorem H11 (s:Str):(if decide (s≠[])=true then !decide (0≤Lib.indexByte (B11 s) 10) else false)=J3 s:=by
 rw [Bool.eq_iff_iff,G22]
 have h:=H54 s
 have h2:=D92 10 (B11 s)
 by_cases hs:s=[]
 ·simp [hs]
 ·simp [hs,h2,h]
theorem F54 (s:Str) (r:List Str):X7 (s::r)=(J3 s&&(r.isEmpty||ended s)&&X7 r):=rfl
def F55 (a b:Int):Int:=IntKind.u32.wrap ((BitVec.ofInt IntKind.u32.bits a &&& BitVec.ofInt IntKind.u32.bits b).toNat:Int)
def not32 (a:Int):Int:=IntKind.u32.wrap ((BitVec.ofInt IntKind.u32.bits IntKind.u32.max ^^^ BitVec.ofInt IntKind.u32.bits a).toNat:Int)
theorem E29 (n c:Nat):A28 (n:Int) c=n.testBit c:=by
 unfold A28
 rw [Nat.testBit_eq_decide_div_mod_eq]
 have:((n:Int) / 2 ^ c % 2 == 1)=decide (n / 2 ^ c % 2=1):=by
  rw [Bool.eq_iff_iff,beq_iff_eq,decide_eq_true_iff]
  have e:(n:Int) / 2 ^ c % 2=((n / 2 ^ c % 2:Nat):Int):=by simp
  rw [e];omega
 exact this
theorem z8 (n:Nat) (h:n < 4294967296):IntKind.u32.wrap (n:Int)=n:=by simp [IntKind.wrap,IntKind.signed,IntKind.bits];omega
theorem C34 (n:Nat):BitVec.ofInt IntKind.u32.bits (n:Int)=BitVec.ofNat 32 n:=BitVec.ofInt_natCast 32 n
theorem H12 (n m:Nat) (hn:n < 4294967296) (hm:m < 4294967296):F55 n m=((n &&& m:Nat):Int):=by
 unfold F55
 rw [C34,C34]
 have e:(BitVec.ofNat 32 n &&& BitVec.ofNat 32 m).toNat=n &&& m:=by
  rw [BitVec.toNat_and,BitVec.toNat_ofNat,BitVec.toNat_ofNat,Nat.mod_eq_of_lt (by omega),Nat.mod_eq_of_lt (by omega)]
 have h2:n &&& m < 2 ^ 32:=Nat.and_lt_two_pow n (by omega)
 show IntKind.u32.wrap ((BitVec.ofNat 32 n &&& BitVec.ofNat 32 m).toNat:Int)=_
 rw [e,z8 _ (by omega)]
theorem D43 (n m:Nat) (hn:n < 4294967296) (hm:m < 4294967296):K6 n m=((n ||| m:Nat):Int)∧n ||| m < 4294967296:=by
 unfold K6
 rw [C34,C34]
 have e:(BitVec.ofNat 32 n ||| BitVec.ofNat 32 m).toNat=n ||| m:=by
  rw [BitVec.toNat_or,BitVec.toNat_ofNat,BitVec.toNat_ofNat,Nat.mod_eq_of_lt (by omega),Nat.mod_eq_of_lt (by omega)]
 have h2:n ||| m < 2 ^ 32:=Nat.or_lt_two_pow (by omega) (by omega)
 refine ⟨?_,by omega⟩
 show IntKind.u32.wrap ((BitVec.ofNat 32 n ||| BitVec.ofNat 32 m).toNat:Int)=_
 rw [e,z8 _ (by omega)]
theorem H13 (n:Nat) (hn:n < 4294967296):not32 n=((4294967295 ^^^ n:Nat):Int)∧4294967295 ^^^ n < 4294967296:=by
 unfold not32
 rw [C34,show IntKind.u32.max=((4294967295:Nat):Int) from rfl,C34]
 have e:(BitVec.ofNat 32 4294967295 ^^^ BitVec.ofNat 32 n).toNat=4294967295 ^^^ n:=by
  rw [BitVec.toNat_xor,BitVec.toNat_ofNat,BitVec.toNat_ofNat,Nat.mod_eq_of_lt (by omega),Nat.mod_eq_of_lt (by omega)]
 have h2:4294967295 ^^^ n < 2 ^ 32:=Nat.xor_lt_two_pow (by omega) (by omega)
 refine ⟨?_,by omega⟩
 show IntKind.u32.wrap ((BitVec.ofNat 32 4294967295 ^^^ BitVec.ofNat 32 n).toNat:Int)=_
 rw [e,z8 _ (by omega)]
theorem H55 (c:Nat) (h:c < 32):(4294967295:Nat).testBit c=true:=by
 have:(4294967295:Nat)=2 ^ 32 - 1:=rfl
 rw [this,Nat.testBit_two_pow_sub_one];simpa using h
def D93 (r:Row):Int:=if r.Lost then r.Marks else not32 r.Marks
def B47 (res:Bool) (par:Int) (r:Row):Bool:=decide (F55 par (D93 r)=0)&&(r.Lost||!res)
def B12 (res:Bool) (r:Row):Bool:=if ended r.Text then res else res||!r.Lost
def B13 (par:Int) (r:Row):Int:=if ended r.Text then par else K6 par (D93 r)
def Q0:Bool→Int→List Row→Bool
 | _,_,[]=>true
 | res,par,r::rs=>J3 r.Text&&B47 res par r&&Q0 (B12 res r) (B13 par r) rs
theorem F56 (r:Row) (hr:0≤r.Marks∧r.Marks < 4294967296):∃m:Nat,m < 4294967296∧D93 r=m∧∀c,c < 32→m.testBit c=Z4 r c:=by
 obtain ⟨k,hk⟩:∃k:Nat,r.Marks=k:=⟨r.Marks.toNat,by omega⟩
 have hv:∀c:Nat,c < 32→Z4 r c=(k.testBit c == r.Lost):=by
  intro c hc
  rw [Z4,if_neg (by omega),if_neg (by omega),hk,I03,E29]
 unfold D93
 cases hl:r.Lost
 ·have:=H13 k (by omega)
  refine ⟨4294967295 ^^^ k,this.2,by rw [if_neg (by simp),hk];exact this.1,fun c hc=>?_⟩
  rw [hv c hc,hl,Nat.testBit_xor,H55 c hc]
  cases k.testBit c<;>rfl
 ·refine ⟨k,by omega,by rw [if_pos rfl];exact hk,fun c hc=>?_⟩
  rw [hv c hc,hl]
  cases k.testBit c<;>rfl
theorem A53 (r:Row):Z4 r (-1)=!r.Lost:=by rw [Z4,if_pos rfl]
def Y8:Bool→List Str→Bool
 | _,[]=>true
 | b,s::r=>!b&&J3 s&&Y8 (!ended s) r
theorem E82 (l:List Str):Y8 true l=l.isEmpty:=by cases l<;>simp [Y8]
theorem F57 (l:List Str):X7 l=Y8 false l:=by
 induction l with
 | nil=>rfl
 | cons s r ih =>
  rw [F54,ih,Y8]
  cases he:ended s
  ·rw [show (!false)=true from rfl,E82]
   cases r<;>simp [Y8]
  ·simp
structure EndsAt (res:Bool) (par:Int) (bad:Int→Bool):Prop where
 res:res=bad (-1)
 par:∃p:Nat,p < 4294967296∧par=p∧∀c:Nat,c < 32→p.testBit c=bad c
theorem H56 (n m:Nat) (hm:m < 4294967296):n &&& m=0↔∀c,c < 32→m.testBit c=true→n.testBit c=false:=by
 constructor
 ·intro h c hc hm1
  have:(n &&& m).testBit c=false:=by rw [h];simp
  rw [Nat.testBit_and,hm1] at this
  simpa using this
 ·intro h
  refine Nat.eq_of_testBit_eq fun c=>?_
  rw [Nat.testBit_and,Nat.zero_testBit]
  by_cases hc:c < 32
  ·cases hm1:m.testBit c
   ·simp
   ·rw [h c hc hm1];rfl
  ·have:m.testBit c=false:=Nat.testBit_lt_two_pow (Nat.lt_of_lt_of_le (by omega:m < 2 ^ 32) (Nat.pow_le_pow_right (by omega) (by omega)))
   rw [this];simp
theorem H14 {res:Bool} {par:Int} {bad:Int→Bool} (h:EndsAt res par bad) (r:Row) (hr:0≤r.Marks∧r.Marks < 4294967296):B47 res par r=true↔∀c:Int,-1≤c→c < 32→Z4 r c=true→bad c=false:=by
 obtain ⟨m,hm,he,hb⟩:=F56 r hr
 obtain ⟨p,hp,hpe,hpb⟩:=h.par
 unfold B47
 rw [he,hpe,H12 p m hp hm,H99,decide_eq_true_iff,show (((p &&& m:Nat):Int)=0)↔p &&& m=0 by omega,H56 p m hm]
 constructor
 ·rintro ⟨h1,h2⟩ c hc1 hc2 hv
  by_cases hc:c = -1
  ·subst hc
   rw [A53] at hv
   rw [←h.res]
   simpa [show r.Lost=false by simpa using hv] using h2
  ·obtain ⟨k,rfl⟩:∃k:Nat,c=k:=⟨c.toNat,by omega⟩
   rw [←hpb k (by omega)]
   exact h1 k (by omega) (by rw [hb k (by omega)];exact hv)
 ·intro h1
  refine ⟨fun c hc hm1=>?_,?_⟩
  ·rw [hpb c hc]
   exact h1 c (by omega) (by omega) (by rw [←hb c hc];exact hm1)
  ·cases hl:r.Lost
   ·have:=h1 (-1) (by omega) (by omega) (by rw [A53,hl];rfl)
    rw [h.res,this];rfl
   ·rfl
theorem H15 {res:Bool} {par:Int} {bad:Int→Bool} (h:EndsAt res par bad) (r:Row) (hr:0≤r.Marks∧r.Marks < 4294967296):EndsAt (B12 res r) (B13 par r) (fun c=>bad c||(Z4 r c&&!ended r.Text)):=by
 obtain ⟨m,hm,he,hb⟩:=F56 r hr
 obtain ⟨p,hp,hpe,hpb⟩:=h.par
 unfold B12 B13
 cases hen:ended r.Text
 ·have ho:=D43 p m hp hm
  refine ⟨?_,p ||| m,ho.2,?_,fun c hc=>?_⟩
  ·rw [if_neg (by simp),h.res,A53];simp
  ·rw [if_neg (by simp),he,hpe];exact ho.1
  ·rw [Nat.testBit_or,hpb c hc,hb c hc];simp
 ·refine ⟨?_,p,hp,?_,fun c hc=>?_⟩
  ·rw [if_pos rfl,h.res];simp
  ·rw [if_pos rfl];exact hpe
  ·rw [hpb c hc];simp
theorem B65 (r:Row) (rs:List Row) (c:Int):O1 (r::rs) c=if Z4 r c then r.Text::O1 rs c else O1 rs c:=by
 unfold O1
 cases hv:Z4 r c<;>simp [hv]
theorem D44:∀(rows:List Row) (res:Bool) (par:Int) (bad:Int→Bool),EndsAt res par bad→I7 rows→(Q0 res par rows=true↔(∀r∈rows,J3 r.Text=true)∧∀c:Int,-1≤c→c < 32→Y8 (bad c) (O1 rows c)=true)
 | [],res,par,bad,_,_=>by simp [Q0,O1,Y8]
 | r :: rs,res,par,bad,h,hr=>by
  have hr1:=hr r (by simp)
  have ih:=D44 rs _ _ _ (H15 h r hr1) (fun x hx=>hr x (by simp [hx]))
  rw [Q0,H99,H99,H14 h r hr1,ih]
  constructor
  ·rintro ⟨⟨h1,h2⟩,h3,h4⟩
   refine ⟨fun x hx=>?_,fun c hc1 hc2=>?_⟩
   ·rcases List.mem_cons.1 hx with rfl | hx
    ·exact h1
    ·exact h3 x hx
   ·have h5:=h4 c hc1 hc2
    rw [B65]
    cases hv:Z4 r c
    ·rw [if_neg (by simp)];simpa [hv] using h5
    ·rw [if_pos rfl,Y8,h2 c hc1 hc2 hv,h1]
     rw [h2 c hc1 hc2 hv,hv] at h5
     simpa using h5
  ·rintro ⟨h1,h2⟩
   refine ⟨⟨h1 r (by simp),fun c hc1 hc2 hv=>?_⟩,fun x hx=>h1 x (by simp [hx]),fun c hc1 hc2=>?_⟩
   ·have h3:=h2 c hc1 hc2
    rw [B65,hv,if_pos rfl,Y8] at h3
    simp only [H99,Bool.not_eq_true'] at h3
    exact h3.1.1
   ·have h3:=h2 c hc1 hc2
    rw [B65] at h3
    cases hv:Z4 r c
    ·rw [hv,if_neg (by simp)] at h3;simpa using h3
    ·rw [hv,if_pos rfl,Y8] at h3
     simp only [H99,Bool.not_eq_true'] at h3
     rw [h3.1.1];simpa using h3.2
theorem ends0:EndsAt false 0 (fun _=>false):=⟨rfl,0,by omega,rfl,fun c _=>by simp⟩
theorem E83 (m:Int) (n c:Nat) (h0:0≤m) (h:m / 2 ^ n=0) (hc:n≤c):A28 m c=false:=by
 obtain ⟨k,rfl⟩:∃k:Nat,m=k:=⟨m.toNat,by omega⟩
 rw [E29]
 have h1:(k:Int) / 2 ^ n=((k / 2 ^ n:Nat):Int):=by simp
 rw [h1] at h
 have h2:k / 2 ^ n=0:=by omega
 have h3:k < 2 ^ n:=by
  rcases Nat.div_eq_zero_iff.1 h2 with h3 | h3
  ·have:=Nat.two_pow_pos n;omega
  ·exact h3
 exact Nat.testBit_lt_two_pow (Nat.lt_of_lt_of_le h3 (Nat.pow_le_pow_right (by omega) hc))
theorem E84 (rows:List Row) (n:Nat) (hm:L6 rows n=true) (hr:I7 rows) (c:Int) (h1:(n:Int)≤c) (h2:c < 32):O1 rows c=O1 rows (-1):=by
 unfold O1
 have:rows.filter (Z4 · c)=rows.filter (Z4 · (-1)):=by
  refine List.filter_congr fun r hmem=>?_
  have h3:X9 n r=true:=List.all_eq_true.1 hm r hmem
  unfold X9 at h3
  simp only [H99,beq_iff_eq] at h3
  have h4:=E83 r.Marks n c.toNat (hr r hmem).1 h3.1 (by omega)
  rw [A53,Z4,if_neg (by omega),if_neg (by omega),h4]
  cases r.Lost<;>rfl
 rw [this]
theorem D45 (rows:List Row) (n:Nat) (hn:n≤32) (hm:L6 rows n=true) (hr:I7 rows):Q0 false 0 rows=j3 rows n:=by
 rw [Bool.eq_iff_iff,D44 rows false 0 _ ends0 hr,j3,H99,List.all_eq_true,List.all_eq_true]
 refine and_congr Iff.rfl ?_
 constructor
 ·intro h k hk
  have hk:=List.mem_range.1 hk
  rw [F57]
  exact h _ (by omega) (by omega)
 ·intro h c hc1 hc2
  have key:∀c:Int,-1≤c→c < n→Y8 false (O1 rows c)=true:=by
   intro c h1 h2
   have:=h (c+1).toNat (List.mem_range.2 (by omega))
   rw [show (((c+1).toNat:Nat):Int) - 1=c by omega,F57] at this
   exact this
  by_cases hcn:c < n
  ·exact key c hc1 hcn
  ·rw [E84 rows n hm hr c (by omega) hc2]
   exact key (-1) (by omega) (by omega)
end Go.AL
namespace Go.AL
open Go
def A54 (c:UInt8):Bool:=decide (33≤c.toNat∧c.toNat≤126∧c.toNat≠34∧c.toNat≠92)
def digs8:Str:=[48,49,50,51,52,53,54,55]
def digs10:Str:=[48,49,50,51,52,53,54,55,56,57]
def C61 (c:UInt8):Str:=(digs8.drop (c.toNat / 64)).take 1++(digs8.drop (c.toNat / 8 % 8)).take 1++(digs8.drop (c.toNat % 8)).take 1
def W3 (c:UInt8):Str:=if c.toNat=34∨c.toNat=92 then [92,c] else if c.toNat=10 then [92,110] else if c.toNat=9 then [92,116] else if c.toNat < 32∨126 < c.toNat then 92::C61 c else [c]
def X1 (s:Str):Str:=if s≠[]∧s.all A54=true then s else 34::((s.map W3).flatten++[34])
theorem E30 (c:UInt8):(C61 c).length≤3:=by unfold C61;simp only [H95,I13];omega
theorem E31 (c:UInt8):(W3 c).length≤4:=by
 have:=E30 c
 unfold W3;split
 ·simp
 ·split
  ·simp
  ·split
   ·simp
   ·split
    ·simp only [H96];omega
    ·simp
theorem C02 (s:Str):((s.map W3).flatten).length≤4*s.length:=by
 induction s with
 | nil=>simp
 | cons c r ih=>have:=E31 c;simp only [I05,I11,H95,H96];omega
theorem F58 (s:Str):(X1 s).length≤4*s.length+2:=by
 unfold X1;have:=C02 s
 split
 ·omega
 ·simp only [H96,H95,H98];omega
def Y5 (n:Int):Str:=if n < 0∨2147483647 < n then [] else Lib.itoa n
def N5 (a n:Int):Str:=if a < 0∨n < 0∨2147483647 < a∨2147483647 - a < n then [] else if n=0 then Y5 a++[44,48] else if n=1 then Y5 (a+1) else Y5 (a+1)++[44]++Y5 n
theorem B48:∀(k u:Nat),u < 10 ^ (k+1)→(Lib.decDigits u).length≤k+1
 | 0,u,h=>by rw [Lib.decDigits,dif_pos (by omega)];simp
 | k+1,u,h=>by
  rw [Lib.decDigits]
  split
  ·simp
  ·have:=B48 k (u / 10) (by rw [Nat.div_lt_iff_lt_mul (by omega)];rw [Nat.pow_succ] at h;omega)
   simp only [H95,H96,H98];omega
theorem T0 (n:Int):(Y5 n).length≤10:=by
 unfold Y5;split
 ·simp
 ·unfold Lib.itoa
  rw [if_neg (by omega)]
  exact B48 9 n.toNat (by omega)
theorem A00 (a n:Int):(N5 a n).length≤21:=by
 have:=T0 a;have:=T0 (a+1);have:=T0 n
 unfold N5
 split
 ·simp
 ·split
  ·simp only [H95,H96,H98];omega
  ·split
   ·omega
   ·simp only [H95,H96,H98];omega
theorem dig10 (k:Nat) (h:k < 10):(digs10.drop k).take 1=[UInt8.ofNat (48+k)]:=by
 have:∀k:Fin 10,(digs10.drop k.1).take 1=[UInt8.ofNat (48+k.1)]:=by decide
 exact this ⟨k,h⟩
theorem H16 (n:Int) (h0:0≤n) (h:n < 10):Y5 n=(digs10.drop n.toNat).take 1:=by
 unfold Y5 Lib.itoa
 rw [if_neg (by omega),if_neg (by omega),dig10 _ (by omega),Lib.decDigits,dif_pos (by omega)]
theorem fmt_big (n:Int) (h0:10≤n) (h:n≤2147483647):Y5 n=Y5 (n / 10)++(digs10.drop (n % 10).toNat).take 1:=by
 unfold Y5 Lib.itoa
 rw [if_neg (by omega),if_neg (by omega),if_neg (by omega),if_neg (by omega),dig10 _ (by omega),Lib.decDigits,dif_neg (by omega)]
 have e1:n.toNat / 10=(n / 10).toNat:=by omega
 have e2:n.toNat % 10=(n % 10).toNat:=by omega
 rw [e1,e2]
theorem dig8 (k:Nat) (h:k < 8):(digs8.drop k).take 1=[UInt8.ofNat (48+k)]:=by
 have:∀k:Fin 8,(digs8.drop k.1).take 1=[UInt8.ofNat (48+k.1)]:=by decide
 exact this ⟨k,h⟩
theorem F59 (c:UInt8):C61 c=[UInt8.ofNat (48+c.toNat / 64),UInt8.ofNat (48+c.toNat / 8 % 8),UInt8.ofNat (48+c.toNat % 8)]:=by
 have:=c.toNat_lt
 unfold C61
 rw [dig8 _ (by omega),dig8 _ (by omega),dig8 _ (by omega)];rfl
def escs (s:Str) (i:Nat):Str:=((s.take i).map W3).flatten
theorem H17 (s:Str):escs s 0=[]:=rfl
theorem E32 (s:Str) (i:Nat) (h:i < s.length):escs s (i+1)=escs s i++W3 s[i]:=by
 unfold escs;rw [I04 h,I09,I21];simp only [I05,I25,I11,I39,I14]
theorem F60 (s:Str) (i:Nat) (h:i≤s.length):(escs s i).length≤4*i:=by
 have:=C02 (s.take i);unfold escs;rw [I13] at this;omega
def plains (s:Str) (i:Nat):Bool:=decide (s≠[])&&(s.take i).all A54
theorem C62 (s:Str):plains s 0=decide (s≠[]):=by simp [plains]
theorem C63 (s:Str) (i:Nat) (h:i < s.length):plains s (i+1)=(plains s i&&A54 s[i]):=by
 unfold plains;rw [I04 h,I43];simp only [List.all_cons,List.all_nil,Bool.and_true,Bool.and_assoc]
theorem A55 (s:Str):X1 s=if plains s s.length=true then s else (34::escs s s.length)++[34]:=by
 unfold X1 plains escs
 rw [I16]
 simp only [H99,decide_eq_true_eq,I33]
end Go.AL
namespace Go.AL
open Go
def N6 (cur:Str):Str→List Str
 | []=>[cur]
 | c::r=>if c=10 then (cur++[c])::N6 [] r else N6 (cur++[c]) r
def Q1 (b:Str):List Str:=N6 [] b
theorem D94 (a cur:Str) (h:(10:UInt8)∉a):N6 cur a=[cur++a]:=by
 induction a generalizing cur with
 | nil=>simp [N6]
 | cons c r ih =>
  simp only [List.mem_cons,not_or] at h
  rw [N6,if_neg (fun e=>h.1 e.symm),ih _ h.2];simp
theorem E85 (a b cur:Str) (h:(10:UInt8)∉a):N6 cur (a++10::b)=(cur++a++[10])::N6 [] b:=by
 induction a generalizing cur with
 | nil=>simp [N6]
 | cons c r ih =>
  simp only [List.mem_cons,not_or] at h
  rw [I33,N6,if_neg (fun e=>h.1 e.symm),ih _ h.2];simp
theorem W4 (s cur:Str):(N6 cur s).length=s.count 10+1:=by
 induction s generalizing cur with
 | nil=>rfl
 | cons c r ih =>
  by_cases hc:c=10
  ·subst hc;rw [N6,if_pos rfl,H96,ih,List.count_cons_self]
  ·rw [N6,if_neg hc,ih,List.count_cons_of_ne hc]
theorem F61 (s cur:Str):H8 cur s=if (N6 cur s).getLastD []=[] then (N6 cur s).dropLast else N6 cur s:=by
 induction s generalizing cur with
 | nil=>by_cases h:cur=[]<;>simp [H8,N6,h]
 | cons c r ih =>
  rw [H8,N6]
  by_cases hc:c=10
  ·rw [if_pos hc,if_pos hc,ih]
   have hn:N6 [] r≠[]:=fun e=>by have:=W4 r [];rw [e] at this;simp at this
   obtain ⟨x,y,hxy⟩:=List.exists_cons_of_ne_nil hn
   rw [hxy]
   have e1:((cur++[c])::x::y).getLastD []=(x::y).getLastD []:=by cases y<;>simp [List.getLastD]
   rw [e1]
   split
   ·rfl
   ·rfl
  ·rw [if_neg hc,if_neg hc,ih]
theorem D46 (s cur:Str):(H8 cur s).length=s.count 10+if s=[] then (if cur=[] then 0 else 1) else if ended s=true then 0 else 1:=by
 induction s generalizing cur with
 | nil=>by_cases h:cur=[]<;>simp [H8,h]
 | cons c r ih =>
  have he:ended (c::r)=if r=[] then c == 10 else ended r:=by
   cases r with
   | nil=>simp [ended]
   | cons d t=>simp [ended,List.getLast?_cons_cons]
  rw [H8,if_neg (List.cons_ne_nil _ _),he]
  by_cases hc:c=10
  ·subst hc
   rw [if_pos rfl,H96,ih,List.count_cons_self]
   by_cases hr:r=[]<;>simp [hr]
   omega
  ·rw [if_neg hc,ih,List.count_cons_of_ne hc]
   by_cases hr:r=[]<;>simp [hr,hc]
theorem D95 (s:Str):(C4 s).length=s.count 10+if s≠[]∧ended s=false then 1 else 0:=by
 unfold C4
 rw [D46]
 by_cases hs:s=[]<;>simp [hs]
 cases ended s<;>simp
theorem G23 {P:List Str} {i:Nat} {r a b:Str} (h:P.drop i=Q1 r) (hr:r=a++10::b) (ha:(10:UInt8)∉a):P[i]?=some (a++[10])∧P.drop (i+1)=Q1 b:=by
 have e:Q1 r=(a++[10])::Q1 b:=by rw [hr];unfold Q1;rw [E85 _ _ _ ha];rfl
 rw [e] at h
 refine ⟨by rw [←List.head?_drop,h];rfl,?_⟩
 rw [←List.tail_drop,h];rfl
theorem E33 {α:Type} (P:List α) (z x:α) (i:Nat) (h:P[i]?=some x):(P.take i++List.replicate (P.length - i) z).set i x=P.take (i+1)++List.replicate (P.length - (i+1)) z:=by
 obtain ⟨hi,hx⟩:=List.getElem?_eq_some_iff.1 h
 have hl:(P.take i).length=i:=by rw [I13];omega
 rw [List.set_append_right _ _ (by omega),hl,Nat.sub_self,show P.length - i=(P.length - (i+1))+1 by omega,List.replicate_succ,List.set_cons_zero,I04 hi,hx,I06]
 rfl
def B30 (b:Str):List Str × Int:=if b.length > 1048576∨(C4 b).length > 4096 then ([],1) else (C4 b,0)
end Go.AL
namespace Go.AL
open Go
def L2 (n:Int):Prop:=0≤n∧n≤4096
instance (n:Int):Decidable (L2 n):=by unfold L2;exact inferInstance
def E86 (k:Nat) (i j:Int) (c:Change):Prop:=((((((¬L2 c.Old∨¬L2 c.OldLen)∨¬L2 c.New)∨¬L2 c.NewLen)∨c.OldLen+c.NewLen=0)∨c.Old - i≠c.New - j)∨c.Old < i)∨(0 < (k:Int)∧c.Old=i)
instance (k:Nat) (i j:Int) (c:Change):Decidable (E86 k i j c):=by unfold E86;exact inferInstance
def K2 (k:Nat) (i j:Int):List Change→Int→Int→Bool
 | [],m,n=>decide (¬(m - i≠n - j∨m < i))
 | c::r,m,n=>decide (¬E86 k i j c)&&K2 (k+1) (c.Old+c.OldLen) (c.New+c.NewLen) r m n
def check8 (l:List Change) (m n:Int):Int:=if ¬L2 m∨¬L2 n then 80 else if K2 0 0 0 l m n=true then 0 else 80
def ScOk (i j:Int):List Change→Int→Int→Prop
 | [],m,n=>i≤m∧j≤n
 | c::r,m,n=>L2 c.Old∧L2 c.OldLen∧L2 c.New∧L2 c.NewLen∧i≤c.Old∧j≤c.New∧ScOk (c.Old+c.OldLen) (c.New+c.NewLen) r m n
theorem A01:∀(l:List Change) (k:Nat) (i j m n:Int),K2 k i j l m n=true→ScOk i j l m n
 | [],k,i,j,m,n,h=>by simp only [K2,decide_eq_true_eq] at h;simp only [ScOk];omega
 | c::r,k,i,j,m,n,h=>by
  simp only [K2,H99,decide_eq_true_eq] at h
  obtain ⟨h1,h2⟩:=h
  unfold E86 at h1
  refine ⟨?_,?_,?_,?_,?_,?_,A01 r _ _ _ m n h2⟩
  all_goals (by_cases a1:L2 c.Old<;>by_cases a2:L2 c.OldLen<;>by_cases a3:L2 c.New<;>by_cases a4:L2 c.NewLen<;>simp [a1,a2,a3,a4] at h1 ⊢<;>omega)
def cAt (l:List Change) (k:Nat):Change:=l.getD k ⟨0,0,0,0⟩
theorem ScOk.end_le:∀{l:List Change} {i j m n:Int},ScOk i j l m n→i≤m∧j≤n
 | [],_,_,_,_,h=>h
 | c::r,i,j,m,n,⟨h1,h2,h3,h4,h5,h6,h7⟩=>by have:=h7.end_le;unfold L2 at *;omega
theorem ScOk.get:∀{l:List Change} {i j m n:Int} (k:Nat),ScOk i j l m n→k < l.length→L2 (cAt l k).Old∧L2 (cAt l k).OldLen∧L2 (cAt l k).New∧L2 (cAt l k).NewLen∧(cAt l k).Old+(cAt l k).OldLen≤m∧(cAt l k).New+(cAt l k).NewLen≤n
 | c::r,i,j,m,n,0,⟨h1,h2,h3,h4,h5,h6,h7⟩,_=>by have:=h7.end_le;exact ⟨h1,h2,h3,h4,this.1,this.2⟩
 | c::r,i,j,m,n,k+1,⟨h1,h2,h3,h4,h5,h6,h7⟩,hk=>by
  have:=h7.get k (by simpa using hk)
  simpa [cAt] using this
theorem ScOk.next:∀{l:List Change} {i j m n:Int} (k:Nat),ScOk i j l m n→k+1 < l.length→(cAt l k).Old+(cAt l k).OldLen≤(cAt l (k+1)).Old
 | [c],_,_,_,_,_,_,hk=>by simp at hk
 | c::c2::r,i,j,m,n,0,⟨_,_,_,_,_,_,h7⟩,_=>by simpa [cAt] using h7.2.2.2.2.1
 | c::c2::r,i,j,m,n,k+1,⟨_,_,_,_,_,_,h7⟩,hk=>by
  have:=h7.next k (by simpa using hk)
  simpa [cAt] using this
theorem ScOk.mono {l:List Change} {m n:Int} (h:ScOk 0 0 l m n):∀(a b:Nat),a≤b→b < l.length→(cAt l a).Old≤(cAt l b).Old∧(cAt l a).Old+(cAt l a).OldLen≤(cAt l b).Old+(cAt l b).OldLen
 | a,0,h1,h2=>by rw [show a=0 by omega];omega
 | a,b+1,h1,h2=>by
  by_cases hab:a=b+1
  ·subst hab;omega
  ·have h3:=h.mono a b (by omega) (by omega)
   have h4:=h.next b h2
   have h5:=h.get b (by omega)
   have h6:=h.get (b+1) h2
   unfold L2 at *;omega
def E87 (a b:Int):Int:=if b < a then b else a
def opens (l:List Change) (ctx:Int) (k:Nat):Prop:=k=0∨2*ctx < (cAt l k).Old - (cAt l (k - 1)).Old - (cAt l (k - 1)).OldLen
instance (l:List Change) (ctx:Int) (k:Nat):Decidable (opens l ctx k):=by unfold opens;exact inferInstance
def G66:Hunk:=⟨0,0,⟨0,0⟩,⟨0,0⟩⟩
def A29 (l:List Change) (ctx:Int) (k:Nat):Hunk:=⟨k,0,⟨(cAt l k).Old - E87 ctx (cAt l k).Old,0⟩,⟨(cAt l k).New - E87 ctx (cAt l k).Old,0⟩⟩
def C03 (l:List Change) (m ctx:Int) (k:Nat) (h:Hunk):Hunk :=
 let c:=cAt l k
 let a:=E87 ctx (m - (c.Old+c.OldLen))
 ⟨h.First,k+1,⟨h.Old.From,c.Old+c.OldLen+a⟩,⟨h.New.From,c.New+c.NewLen+a⟩⟩
def C35 (l:List Change) (ctx:Int) (k:Nat) (out:List Hunk):List Hunk:=if opens l ctx k then out++[A29 l ctx k] else out
def V4 (l:List Change) (m ctx:Int):Nat→List Hunk
 | 0=>[]
 | k+1=>let out:=C35 l ctx k (V4 l m ctx k);out.set (out.length - 1) (C03 l m ctx k (out.getD (out.length - 1) G66))
theorem C64 (l:List Change) (m ctx:Int):∀k,(V4 l m ctx k).length≤k∧(0 < k→0 < (V4 l m ctx k).length)
 | 0=>by simp [V4]
 | k+1=>by
  have h:=C64 l m ctx k
  simp only [V4,List.length_set,C35]
  split
  ·simp only [H95,H96,H98];omega
  ·rename_i ho
   have:k≠0:=fun e=>ho (.inl e)
   omega
end Go.AL
namespace Go.AL
open Go
def S7 (s:Str):Bool:=decide (1≤s.length∧s.length≤200)
def G5 (ls:List PatchLine) (k:UInt8):List Str:=(ls.filter (fun x=>decide (x.Kind≠k))).map (·.Text)
def badLn (x:PatchLine):Prop:=((x.Kind≠32∧x.Kind≠45)∧x.Kind≠43)∨J3 x.Text=false
instance (x:PatchLine):Decidable (badLn x):=by unfold badLn;exact inferInstance
def B66 (x:PatchLine):Bool:=decide (¬badLn x)
def A15 (ls:List PatchLine):Bool:=ls.any (fun x=>decide (x.Kind≠32))
def C04 (some:Bool) (i j:Int) (h:PatchHunk):Prop:=((((some=false∨h.Old < i)∨h.New < j)∨4096 < h.Old)∨4096 < h.New)∨h.Old - i≠h.New - j
instance (s:Bool) (i j:Int) (h:PatchHunk):Decidable (C04 s i j h):=by unfold C04;exact inferInstance
def B37 (h:PatchHunk):Int:=(G5 h.Lines 43).length
def B38 (h:PatchHunk):Int:=(G5 h.Lines 45).length
def C36 (i j:Int):List PatchHunk→Bool
 | []=>true
 | h::r=>h.Lines.all B66&&(decide (¬C04 (A15 h.Lines) i j h)&&(decide (¬(4096 < h.Old+B37 h∨4096 < h.New+B38 h))&&C36 (h.Old+B37 h) (h.New+B38 h) r))
def M2 (hs:List PatchHunk) (k:UInt8):List Str:=(hs.map (fun h=>G5 h.Lines k)).flatten
def p8:List Str→Bool
 | []=>true
 | x::r=>(r.isEmpty||ended x)&&p8 r
def G24 (hs:List PatchHunk) (k:UInt8):Bool:=p8 (M2 hs k)
def C37 (hs:List PatchHunk):Bool:=C36 0 0 hs&&(G24 hs 43&&G24 hs 45)
def markS:Str:=[10,92,32,78,111,32,110,101,119,108,105,110,101,32,97,116,32,101,110,100,32,111,102,32,102,105,108,101,10]
def linePs (x:PatchLine):List Str:=if ended x.Text then [[x.Kind]++x.Text] else [[x.Kind]++x.Text,markS]
def headW (h:PatchHunk):Str:=[64,64,32,45]++N5 h.Old (B37 h)++[32,43]++N5 h.New (B38 h)++[32,64,64,10]
def hunkPs (h:PatchHunk):List Str:=headW h::(h.Lines.map linePs).flatten
def namePs (p:Patch):List Str:=[[45,45,45,32]++X1 p.OldName++[10],[43,43,43,32]++X1 p.NewName++[10]]
def writePs (p:Patch):List Str:=namePs p++(p.Hunks.map hunkPs).flatten
def G67 (p:Patch):Str:=(writePs p).flatten
def C05 (p:Patch):Int:=if S7 p.OldName=false∨S7 p.NewName=false then 120 else if C37 p.Hunks=false then 121 else if 16777216 < (G67 p).length then 1 else 0
def szL (x:PatchLine):Nat:=x.Text.length+64
def szH (h:PatchHunk):Nat:=64+(h.Lines.map szL).sum
def szP (hs:List PatchHunk):Nat:=(hs.map szH).sum
structure PFit (p:Patch):Prop where
 old:p.OldName.length≤4194304
 new:p.NewName.length≤4194304
 hunks:szP p.Hunks≤268435456
theorem szL_len (ls:List PatchLine):64*ls.length≤(ls.map szL).sum:=by
 induction ls with
 | nil=>simp
 | cons x r ih=>simp only [I05,I27,H96,szL];omega
end Go.AL
namespace Go.AL
open Go
def A02 (k:UInt8) (ts:List Str):List PatchLine:=ts.map fun t=>⟨k,t⟩
def sub (x:List Str) (a b:Int):List Str:=(x.drop a.toNat).take (b.toNat - a.toNat)
def A87 (c:Change):Int:=c.Old+c.OldLen
def A03 (l:List Change) (i0:Int) (a t:Nat):Int:=if t=0 then i0 else A87 (cAt l (a+t - 1))
theorem G25 (l:List Change) (i0:Int) (a t:Nat):A03 l i0 a (t+1)=A87 (cAt l (a+t)):=by
 unfold A03;rw [if_neg (by omega)];congr 2
def s7 (l:List Change) (x y:List Str) (i0:Int) (a:Nat):Nat→List PatchLine
 | 0=>[]
 | t+1=>s7 l x y i0 a t++A02 32 (sub x (A03 l i0 a t) (cAt l (a+t)).Old)++A02 45 (sub x (cAt l (a+t)).Old (A87 (cAt l (a+t))))++A02 43 (sub y (cAt l (a+t)).New ((cAt l (a+t)).New+(cAt l (a+t)).NewLen))
def Y9 (l:List Change) (x y:List Str) (h:Hunk):PatchHunk :=
 ⟨h.Old.From,h.New.From,s7 l x y h.Old.From h.First.toNat (h.Last.toNat - h.First.toNat)++A02 32 (sub x (A03 l h.Old.From h.First.toNat (h.Last.toNat - h.First.toNat)) h.Old.To)⟩
end Go.AL
namespace Go.AL
open Go
end Go.AL
namespace Go.AL
open Go
def F62 (i j:Int) (h:PatchHunk):Prop:=((((h.Old < 0∨h.New < 0)∨4096 < h.Old)∨4096 < h.New)∨h.Old < i)∨h.Old - i≠h.New - j
instance (i j:Int) (h:PatchHunk):Decidable (F62 i j h):=by unfold F62;exact inferInstance
end Go.AL
namespace Go.AL
open Go
theorem textsLen_le (rows:List Row) (B:Nat) (h:∀r∈rows,r.Text.length≤B):P6 rows≤rows.length*B:=by
 unfold P6
 induction rows with
 | nil=>simp
 | cons r rs ih =>
  have h1:=ih fun x hx=>h x (by simp [hx])
  have h2:=h r (by simp)
  simp only [I05,I11,H95,H96,I18,Nat.one_mul]
  omega
theorem F63 (b s:Str) (h:s∈C4 b):s.length≤b.length:=by
 have h1:(C4 b).flatten=b:=by
  have key:∀(s cur:Str),(H8 cur s).flatten=cur++s:=by
   intro s
   induction s with
   | nil=>intro cur;unfold H8;split<;>simp [*]
   | cons c r ih=>intro cur;unfold H8;split<;>simp [ih]
  exact key b []
 have h2:∀(l:List Str),s∈l→s.length≤l.flatten.length:=by
  intro l
  induction l with
  | nil=>intro h;cases h
  | cons x r ih =>
   intro h
   rcases List.mem_cons.1 h with rfl | h
   ·simp
   ·have:=ih h;simp only [I11,H95];omega
 have:=h2 _ h;rw [h1] at this;exact this
end Go.AL
namespace Go.AL
open Go
theorem C91 {x:List Str} {a b:Int} {s:Str} (h:s∈sub x a b):s∈x:=by
 unfold sub at h
 exact List.mem_of_mem_drop (List.mem_of_mem_take h)
end Go.AL
namespace Go.AL
open Go
end Go.AL
namespace Go.AL
open Go
def E88 (c:Change):Int:=c.New+c.NewLen
def eoI (i:Int) (l:List Change) (k:Nat):Int:=if k=0 then i else A87 (cAt l (k - 1))
def enI (j:Int) (l:List Change) (k:Nat):Int:=if k=0 then j else E88 (cAt l (k - 1))
theorem p9 (i:Int) (c:Change) (r:List Change) (k:Nat):eoI i (c::r) (k+1)=eoI (A87 c) r k:=by
 cases k<;>rfl
theorem q8 (j:Int) (c:Change) (r:List Change) (k:Nat):enI j (c::r) (k+1)=enI (E88 c) r k:=by
 cases k<;>rfl
theorem B14 (i:Int) (l:List Change) (k:Nat):eoI i l (k+1)=A87 (cAt l k):=rfl
theorem B15 (j:Int) (l:List Change) (k:Nat):enI j l (k+1)=E88 (cAt l k):=rfl
theorem C06 (c:Change) (r:List Change) (k:Nat):cAt (c::r) (k+1)=cAt r k:=rfl
def C38 (x y:List Str) (i j:Int):List Change→Prop
 | []=>sub x i x.length=sub y j y.length
 | c::r=>sub x i c.Old=sub y j c.New∧C38 x y (A87 c) (E88 c) r
theorem x6 (m n:Int):∀(l:List Change) (k0:Nat) (i j:Int),K2 k0 i j l m n=true→∀k,k < l.length →
  L2 (cAt l k).Old∧L2 (cAt l k).OldLen∧L2 (cAt l k).New∧L2 (cAt l k).NewLen∧(cAt l k).OldLen+(cAt l k).NewLen≠0∧(cAt l k).Old - eoI i l k=(cAt l k).New - enI j l k∧eoI i l k≤(cAt l k).Old∧(0 < k0+k→eoI i l k < (cAt l k).Old)
 | [],_,_,_,_,k,hk=>by simp at hk
 | c :: r,k0,i,j,h,k,hk=>by
  simp only [K2,H99,decide_eq_true_eq] at h
  obtain ⟨h1,h2⟩:=h
  cases k with
  | zero =>
   unfold E86 at h1
   show L2 c.Old∧L2 c.OldLen∧L2 c.New∧L2 c.NewLen∧c.OldLen+c.NewLen≠0∧c.Old - i=c.New - j∧i≤c.Old∧(0 < k0+0→i < c.Old)
   have d1:L2 c.Old:=by by_cases q:L2 c.Old;exact q;exact absurd (.inl (.inl (.inl (.inl (.inl (.inl (.inl q))))))) h1
   have d2:L2 c.OldLen:=by by_cases q:L2 c.OldLen;exact q;exact absurd (.inl (.inl (.inl (.inl (.inl (.inl (.inr q))))))) h1
   have d3:L2 c.New:=by by_cases q:L2 c.New;exact q;exact absurd (.inl (.inl (.inl (.inl (.inl (.inr q)))))) h1
   have d4:L2 c.NewLen:=by by_cases q:L2 c.NewLen;exact q;exact absurd (.inl (.inl (.inl (.inl (.inr q))))) h1
   refine ⟨d1,d2,d3,d4,fun q=>h1 (.inl (.inl (.inl (.inr q)))),?_,?_,fun h0=>?_⟩
   ·by_cases q:c.Old - i=c.New - j
    ·exact q
    ·exact absurd (.inl (.inl (.inr q))) h1
   ·by_cases q:c.Old < i
    ·exact absurd (.inl (.inr q)) h1
    ·omega
   ·by_cases q:c.Old < i
    ·exact absurd (.inl (.inr q)) h1
    ·by_cases q2:c.Old=i
     ·exact absurd (.inr ⟨by omega,q2⟩) h1
     ·omega
  | succ k =>
   have:=x6 m n r (k0+1) _ _ h2 k (by simpa using hk)
   rw [C06,p9,q8]
   obtain ⟨e1,e2,e3,e4,e5,e6,e7,e8⟩:=this
   exact ⟨e1,e2,e3,e4,e5,e6,e7,fun h0=>e8 (by omega)⟩
theorem G26 (m n:Int):∀(l:List Change) (k0:Nat) (i j:Int),K2 k0 i j l m n=true→m - eoI i l l.length=n - enI j l l.length∧eoI i l l.length≤m
 | [],_,i,j,h=>by
  simp only [K2,decide_eq_true_eq] at h
  show m - i=n - j∧i≤m
  omega
 | c::r,k0,i,j,h=>by
  simp only [K2,H99,decide_eq_true_eq] at h
  rw [H96,p9,q8]
  exact G26 m n r _ _ _ h.2
theorem E89 (x y:List Str):∀(l:List Change) (i j:Int),C38 x y i j l→∀k,k < l.length→sub x (eoI i l k) (cAt l k).Old=sub y (enI j l k) (cAt l k).New
 | [],_,_,_,k,hk=>by simp at hk
 | c::r,i,j,h,k,hk=>by
  cases k with
  | zero=>exact h.1
  | succ k=>rw [p9,q8,C06];exact E89 x y r _ _ h.2 k (by simpa using hk)
theorem G27 (x y:List Str):∀(l:List Change) (i j:Int),C38 x y i j l→sub x (eoI i l l.length) x.length=sub y (enI j l l.length) y.length
 | [],_,_,h=>h
 | c::r,i,j,h=>by rw [H96,p9,q8];exact G27 x y r _ _ h.2
def mkH (l:List Change) (m ctx:Int) (a b:Nat):Hunk:=C03 l m ctx (b - 1) (A29 l ctx a)
def GrOk (l:List Change) (m ctx:Int):Nat→List Hunk→Nat→Prop
 | a,[],k=>a=k
 | a,h::r,k=>∃b,a < b∧opens l ctx a∧h=mkH l m ctx a b∧GrOk l m ctx b r k
theorem GrOk.le {l:List Change} {m ctx:Int}:∀{hs:List Hunk} {a k:Nat},GrOk l m ctx a hs k→a≤k
 | [],a,k,h=>Nat.le_of_eq h
 | _::_,a,k,⟨b,h1,_,_,h2⟩=>by have:=GrOk.le h2;omega
theorem GrOk.snoc {l:List Change} {m ctx:Int} {k:Nat} (ho:opens l ctx k):∀{hs:List Hunk} {a:Nat},GrOk l m ctx a hs k→GrOk l m ctx a (hs++[mkH l m ctx k (k+1)]) (k+1)
 | [],a,h=>by
  obtain rfl:a=k:=h
  exact ⟨a+1,by omega,ho,rfl,rfl⟩
 | _::_,a,⟨b,h1,h2,h3,h4⟩=>⟨b,h1,h2,h3,GrOk.snoc ho h4⟩
theorem GrOk.last {l:List Change} {m ctx:Int} {k:Nat}:∀{hs:List Hunk} {a:Nat},GrOk l m ctx a hs k→hs≠[]→GrOk l m ctx a (hs.set (hs.length - 1) (C03 l m ctx k (hs.getD (hs.length - 1) G66))) (k+1)
 | [],_,_,h0=>absurd rfl h0
 | [h],a,⟨b,h1,h2,h3,h4⟩,_=>by
  obtain rfl:b=k:=h4
  subst h3
  exact ⟨b+1,by omega,h2,rfl,rfl⟩
 | h::h'::r,a,⟨b,h1,h2,h3,h4⟩,_=>by
  have ih:=GrOk.last h4 (by simp)
  refine ⟨b,h1,h2,h3,?_⟩
  simpa using ih
theorem A56 (l:List Change) (m ctx:Int):∀k,GrOk l m ctx 0 (V4 l m ctx k) k
 | 0=>rfl
 | k+1=>by
  have ih:=A56 l m ctx k
  have hne:=(C64 l m ctx k).2
  simp only [V4,C35]
  by_cases ho:opens l ctx k
  ·rw [if_pos ho]
   have e:(V4 l m ctx k++[A29 l ctx k]).set ((V4 l m ctx k++[A29 l ctx k]).length - 1) (C03 l m ctx k ((V4 l m ctx k++[A29 l ctx k]).getD ((V4 l m ctx k++[A29 l ctx k]).length - 1) G66))=V4 l m ctx k++[mkH l m ctx k (k+1)]:=by
    simp [mkH]
   rw [e]
   exact ih.snoc ho
  ·rw [if_neg ho]
   refine ih.last ?_
   have:k≠0:=fun e=>ho (.inl e)
   have:=hne (by omega)
   intro e;rw [e] at this;simp at this
theorem A57 (x:List Str) {a b c:Int} (h0:0≤a) (h1:a≤b) (h2:b≤c):sub x a b++sub x b c=sub x a c:=by
 unfold sub
 obtain ⟨u,rfl⟩:∃u:Nat,(u:Int)=a:=⟨a.toNat,by omega⟩
 obtain ⟨v,rfl⟩:∃v:Nat,(v:Int)=b:=⟨b.toNat,by omega⟩
 obtain ⟨w,rfl⟩:∃w:Nat,(w:Int)=c:=⟨c.toNat,by omega⟩
 simp only [I03]
 have h3:x.drop v=(x.drop u).drop (v - u):=by rw [List.drop_drop];congr 1;omega
 rw [h3,show w - u=(v - u)+(w - v) by omega,List.take_add]
theorem G68 (x:List Str) (a:Int):sub x a a=[]:=by simp [sub]
theorem A58 (x:List Str) {a b:Int} (h0:0≤a) (h1:a≤b) (h2:b≤x.length):((sub x a b).length:Int)=b - a:=by
 unfold sub;rw [I13,I10];omega
theorem D47 {x y:List Str} {p q p' q' e:Int} (h:sub x p q=sub y p' q') (h0:0≤p) (h0':0≤p') (he:0≤e) (h1:e≤q - p) (h2:q - p=q' - p'):sub x (q - e) q=sub y (q' - e) q':=by
 have key:∀(z:List Str) (a b:Int),0≤a→e≤b - a→sub z (b - e) b=(sub z a b).drop (b - a - e).toNat:=by
  intro z a b ha hb
  unfold sub
  rw [List.drop_take,List.drop_drop]
  congr 1
  ·omega
  ·congr 1;omega
 rw [key x p q h0 h1,key y p' q' h0' (by omega),h,h2]
theorem F64 {x y:List Str} {p q p' q' e:Int} (h:sub x p q=sub y p' q') (h0:0≤p) (h0':0≤p') (he:0≤e) (h1:e≤q - p) (h2:q - p=q' - p'):sub x p (p+e)=sub y p' (p'+e):=by
 have key:∀(z:List Str) (a b:Int),0≤a→e≤b - a→sub z a (a+e)=(sub z a b).take e.toNat:=by
  intro z a b ha hb
  unfold sub
  rw [List.take_take]
  congr 1
  omega
 rw [key x p q h0 h1,key y p' q' h0' (by omega),h]
theorem A59 (p q:List PatchLine) (k:UInt8):G5 (p++q) k=G5 p k++G5 q k:=by simp [G5]
theorem A60 (k k':UInt8) (ts:List Str):G5 (A02 k ts) k'=if k=k' then [] else ts:=by
 unfold G5 A02
 by_cases h:k=k'
 ·rw [if_pos h];subst h
  simp [List.filter_eq_nil_iff]
 ·rw [if_neg h]
  rw [List.filter_eq_self.2 (by simp [h])]
  simp [Function.comp_def]
structure ScFit (x y:List Str) (l:List Change):Prop where
 lx:(x.length:Int)≤4096
 ly:(y.length:Int)≤4096
 sc:K2 0 0 0 l x.length y.length=true
 eq:C38 x y 0 0 l
section
variable {x y:List Str} {l:List Change}
theorem ScFit.ok (h:ScFit x y l):ScOk 0 0 l x.length y.length:=A01 _ _ _ _ _ _ h.sc
theorem ScFit.check (h:ScFit x y l):check8 l x.length y.length=0:=by
 have h1:=h.lx
 have h2:=h.ly
 unfold check8
 rw [if_neg (by unfold L2;omega),if_pos h.sc]
theorem ScFit.nn (h:ScFit x y l) (k:Nat) (hk:k≤l.length):0≤eoI 0 l k∧0≤enI 0 l k∧eoI 0 l k≤x.length∧enI 0 l k≤y.length:=by
 cases k with
 | zero=>exact ⟨Int.le_refl _,Int.le_refl _,Int.natCast_nonneg _,Int.natCast_nonneg _⟩
 | succ k =>
  obtain ⟨⟨a1,a2⟩,⟨b1,b2⟩,⟨c1,c2⟩,⟨d1,d2⟩,h5,h6⟩:=h.ok.get k (by omega)
  rw [B14,B15];unfold A87 E88
  omega
def eA (l:List Change) (ctx:Int) (a:Nat):Int:=E87 ctx (cAt l a).Old
def eB (l:List Change) (m ctx:Int) (b:Nat):Int:=E87 ctx (m - eoI 0 l b)
theorem G69 {a b:Int} (h:0≤a) (h':0≤b):0≤E87 a b∧E87 a b≤a∧E87 a b≤b:=by unfold E87;split<;>omega
theorem C39 {ctx:Int} {a:Nat} (ho:opens l ctx a) (ha:a≠0):2*ctx < (cAt l a).Old - eoI 0 l a:=by
 rcases ho with h | h
 ·exact absurd h ha
 ·unfold eoI;rw [if_neg ha];unfold A87;omega
theorem ScFit.before (h:ScFit x y l) {ctx:Int} (hc:0≤ctx) {a:Nat} (ha:a < l.length) (ho:opens l ctx a) :
  0≤eA l ctx a∧eA l ctx a≤ctx∧eA l ctx a≤(cAt l a).Old - eoI 0 l a:=by
 obtain ⟨⟨a1,a2⟩,_⟩:=h.ok.get a ha
 have h3:=G69 hc a1
 unfold eA
 by_cases h0:a=0
 ·subst h0
  show _∧_∧_≤(cAt l 0).Old - 0
  omega
 ·have:=C39 ho h0;omega
theorem ScFit.after (h:ScFit x y l) {ctx:Int} (hc:0≤ctx) {b:Nat} (hb:b≤l.length) (ho:b < l.length→opens l ctx b) (hb0:b≠0) :
  0≤eB l x.length ctx b∧eB l x.length ctx b≤ctx∧eoI 0 l b+eB l x.length ctx b≤x.length∧enI 0 l b+eB l x.length ctx b≤y.length ∧
   sub x (eoI 0 l b) (eoI 0 l b+eB l x.length ctx b)=sub y (enI 0 l b) (enI 0 l b+eB l x.length ctx b):=by
 obtain ⟨h1,h2,h3,h4⟩:=h.nn b hb
 have h5:=G69 hc (show 0≤(x.length:Int) - eoI 0 l b by omega)
 unfold eB
 rcases Nat.lt_or_ge b l.length with hlt | hge
 ·obtain ⟨g1,g2,g3,g4,g5,g6,g7,g8⟩:=x6 _ _ _ _ _ _ h.sc b hlt
  obtain ⟨⟨a1,a2⟩,⟨b1,b2⟩,⟨c1,c2⟩,⟨d1,d2⟩,k5,k6⟩:=h.ok.get b hlt
  have hg:=C39 (ho hlt) hb0
  refine ⟨h5.1,h5.2.1,by omega,by omega,F64 (E89 x y l 0 0 h.eq b hlt) h1 h2 h5.1 (by omega) (by omega)⟩
 ·have e:b=l.length:=by omega
  subst e
  obtain ⟨g1,g2⟩:=G26 _ _ _ _ _ _ h.sc
  refine ⟨h5.1,h5.2.1,by omega,by omega,F64 (G27 x y l 0 0 h.eq) h1 h2 h5.1 (by omega) (by omega)⟩
def E90 (l:List Change) (j0:Int) (a t:Nat):Int:=if t=0 then j0 else E88 (cAt l (a+t - 1))
theorem D48 (i0:Int) (a t:Nat) (ht:t≠0):A03 l i0 a t=eoI 0 l (a+t):=by
 unfold A03 eoI;rw [if_neg ht,if_neg (by omega)]
theorem G70 (j0:Int) (a t:Nat) (ht:t≠0):E90 l j0 a t=enI 0 l (a+t):=by
 unfold E90 enI;rw [if_neg ht,if_neg (by omega)]
theorem ScFit.made (h:ScFit x y l) {ctx:Int} (hc:0≤ctx) {a:Nat} (ho:opens l ctx a):∀t,a+t≤l.length→(t=0→a < l.length) →
  G5 (s7 l x y ((cAt l a).Old - eA l ctx a) a t) 43=sub x ((cAt l a).Old - eA l ctx a) (A03 l ((cAt l a).Old - eA l ctx a) a t) ∧
  G5 (s7 l x y ((cAt l a).Old - eA l ctx a) a t) 45=sub y ((cAt l a).New - eA l ctx a) (E90 l ((cAt l a).New - eA l ctx a) a t)
 | 0,_,_=>by
  unfold A03 E90
  rw [if_pos rfl,if_pos rfl,G68,G68]
  exact ⟨rfl,rfl⟩
 | t + 1,hl,_=>by
  have hlt:a+t < l.length:=by omega
  have hla:a < l.length:=by omega
  obtain ⟨ih1,ih2⟩:=ScFit.made h hc ho t (by omega) (fun _=>hla)
  obtain ⟨q1,q2,q3⟩:=h.before hc hla ho
  obtain ⟨p1,p2,p3,p4⟩:=h.nn (a+t) (by omega)
  obtain ⟨r1,r2,r3,r4⟩:=h.nn a (by omega)
  obtain ⟨g1,g2,g3,g4,g5,g6,g7,g8⟩:=x6 _ _ _ _ _ _ h.sc (a+t) hlt
  obtain ⟨k1,⟨k2,k2'⟩,k3,⟨k4,k4'⟩,k5,k6,k7,k8⟩:=x6 _ _ _ _ _ _ h.sc a hla
  obtain ⟨⟨a1,a2⟩,⟨b1,b2⟩,⟨c1,c2⟩,⟨d1,d2⟩,w5,w6⟩:=h.ok.get (a+t) hlt
  have hrun:sub x (A03 l ((cAt l a).Old - eA l ctx a) a t) (cAt l (a+t)).Old=sub y (E90 l ((cAt l a).New - eA l ctx a) a t) (cAt l (a+t)).New ∧
    (cAt l a).Old - eA l ctx a≤A03 l ((cAt l a).Old - eA l ctx a) a t∧A03 l ((cAt l a).Old - eA l ctx a) a t≤(cAt l (a+t)).Old ∧
    (cAt l a).New - eA l ctx a≤E90 l ((cAt l a).New - eA l ctx a) a t∧E90 l ((cAt l a).New - eA l ctx a) a t≤(cAt l (a+t)).New:=by
   have hrun:=E89 x y l 0 0 h.eq (a+t) hlt
   by_cases ht:t=0
   ·subst ht
    unfold A03 E90
    rw [if_pos rfl,if_pos rfl]
    rw [show a+0=a from rfl] at *
    exact ⟨D47 hrun r1 r2 q1 (by omega) (by omega),by omega,by omega,by omega,by omega⟩
   ·rw [D48 _ _ _ ht,G70 _ _ _ ht]
    have m1:=h.ok.mono a (a+t - 1) (by omega) (by omega)
    have m2:eoI 0 l (a+t)=(cAt l (a+t - 1)).Old+(cAt l (a+t - 1)).OldLen:=by unfold eoI;rw [if_neg (by omega)];rfl
    have m4:∀u,u≤t→(cAt l a).New≤enI 0 l (a+u)∨u=0:=by
     intro u
     induction u with
     | zero=>exact fun _=>.inr rfl
     | succ u ihu =>
      intro hu
      obtain ⟨e1,e2,⟨e3,e3'⟩,⟨e4,e4'⟩,e5,e6,e7,e8⟩:=x6 _ _ _ _ _ _ h.sc (a+u) (by omega)
      have e9:enI 0 l (a+(u+1))=(cAt l (a+u)).New+(cAt l (a+u)).NewLen:=rfl
      rcases ihu (by omega) with h' | h'
      ·left;omega
      ·left;subst h';rw [e9];show (cAt l a).New≤(cAt l a).New+(cAt l a).NewLen;exact Int.le_add_of_nonneg_right e4
    have m5:=(m4 t (Nat.le_refl _)).resolve_right ht
    refine ⟨hrun,by omega,by omega,by omega,by omega⟩
  obtain ⟨hr1,hr2,hr3,hr4,hr5⟩:=hrun
  simp (decide:=true) only [s7,A59,A60,ih1,ih2,if_true,if_false,I14]
  have e1:A03 l ((cAt l a).Old - eA l ctx a) a (t+1)=A87 (cAt l (a+t)):=G25 _ _ _ _
  have e2:E90 l ((cAt l a).New - eA l ctx a) a (t+1)=E88 (cAt l (a+t)):=rfl
  rw [e1,e2]
  have s0:0≤(cAt l a).Old - eA l ctx a:=by omega
  have s1:0≤(cAt l a).New - eA l ctx a:=by omega
  refine ⟨?_,?_⟩
  ·rw [A57 x s0 hr2 hr3,A57 x s0 (by omega) (by unfold A87;omega)]
  ·rw [hr1,A57 y s1 hr4 hr5]
   exact A57 y s1 (by omega) (by omega)
end
end Go.AL
namespace Go.AL
open Go
section
variable {x y:List Str} {l:List Change}
structure HunkIs (x y:List Str) (l:List Change) (ctx:Int) (a b:Nat) (h:PatchHunk):Prop where
 old:h.Old=(cAt l a).Old - eA l ctx a
 new:h.New=(cAt l a).New - eA l ctx a
 o0:0≤h.Old
 n0:0≤h.New
 oe:h.Old+B37 h=eoI 0 l b+eB l x.length ctx b
 ne:h.New+B38 h=enI 0 l b+eB l x.length ctx b
 ox:h.Old+B37 h≤x.length
 ny:h.New+B38 h≤y.length
 ol:G5 h.Lines 43=sub x h.Old (h.Old+B37 h)
 nl:G5 h.Lines 45=sub y h.New (h.New+B38 h)
 ch:A15 h.Lines=true
 gl:(∀s∈x,J3 s=true)→(∀s∈y,J3 s=true)→h.Lines.all B66=true
theorem D49 (p q:List PatchLine):A15 (p++q)=(A15 p||A15 q):=by simp [A15]
theorem D50 {k:UInt8} {ts:List Str} (hk:k≠32) (h:ts≠[]):A15 (A02 k ts)=true:=by
 cases ts with
 | nil=>exact absurd rfl h
 | cons t ts=>simp [A15,A02,hk]
theorem A61 {k:UInt8} {ts:List Str} (hk:k=32∨k=45∨k=43) (h:∀t∈ts,J3 t=true):(A02 k ts).all B66=true:=by
 rw [List.all_eq_true]
 intro q hq
 unfold A02 at hq
 obtain ⟨t,ht,rfl⟩:=List.mem_map.1 hq
 unfold B66
 refine decide_eq_true ?_
 rintro (⟨⟨h1,h2⟩,h3⟩ | h1)
 ·rcases hk with e | e | e
  ·exact h1 e
  ·exact h2 e
  ·exact h3 e
 ·rw [show (PatchLine.mk k t).Text=t from rfl,h t ht] at h1;cases h1
theorem C65 (hx:∀s∈x,J3 s=true) (hy:∀s∈y,J3 s=true) (i0:Int) (a:Nat):∀t,(s7 l x y i0 a t).all B66=true
 | 0=>rfl
 | t+1=>by
  simp only [s7,I43,C65 hx hy i0 a t,Bool.true_and,H99]
  exact ⟨⟨A61 (.inl rfl) (fun s hs=>hx s (C91 hs)),A61 (.inr (.inl rfl)) (fun s hs=>hx s (C91 hs))⟩,A61 (.inr (.inr rfl)) (fun s hs=>hy s (C91 hs))⟩
theorem ScFit.hunk (h:ScFit x y l) {ctx:Int} (hc:0≤ctx) {a b:Nat} (hab:a < b) (hb:b≤l.length) (ho:opens l ctx a) (hob:b < l.length→opens l ctx b) :
  HunkIs x y l ctx a b (Y9 l x y (mkH l x.length ctx a b)):=by
 have hla:a < l.length:=by omega
 obtain ⟨q1,q2,q3⟩:=h.before hc hla ho
 obtain ⟨w1,w2,w3,w4,w5⟩:=h.after hc hb hob (by omega)
 obtain ⟨m1,m2⟩:=h.made hc ho (b - a) (by omega) (fun e=>by omega)
 rw [D48 _ _ _ (by omega)] at m1
 rw [G70 _ _ _ (by omega)] at m2
 rw [show a+(b - a)=b by omega] at m1 m2
 obtain ⟨r1,r2,r3,r4⟩:=h.nn a (by omega)
 obtain ⟨s1,s2,s3,s4⟩:=h.nn b hb
 obtain ⟨k1,⟨k2,k2'⟩,k3,⟨k4,k4'⟩,k5,k6,k7,k8⟩:=x6 _ _ _ _ _ _ h.sc a hla
 have hlb:b - 1 < l.length:=by omega
 obtain ⟨g1,⟨g2,g2'⟩,g3,⟨g4,g4'⟩,g5,g6,g7,g8⟩:=x6 _ _ _ _ _ _ h.sc (b - 1) hlb
 have eo:eoI 0 l b=(cAt l (b - 1)).Old+(cAt l (b - 1)).OldLen:=by unfold eoI;rw [if_neg (by omega)];rfl
 have en:enI 0 l b=(cAt l (b - 1)).New+(cAt l (b - 1)).NewLen:=by unfold enI;rw [if_neg (by omega)];rfl
 have mo:=h.ok.mono a (b - 1) (by omega) (by omega)
 have mn:(cAt l a).New≤enI 0 l b:=by
  have m4:∀u,a+u≤l.length→(cAt l a).New≤enI 0 l (a+u)∨u=0:=by
   intro u
   induction u with
   | zero=>exact fun _=>.inr rfl
   | succ u ihu =>
    intro hu
    obtain ⟨e1,e2,⟨e3,e3'⟩,⟨e4,e4'⟩,e5,e6,e7,e8⟩:=x6 _ _ _ _ _ _ h.sc (a+u) (by omega)
    have e9:enI 0 l (a+(u+1))=(cAt l (a+u)).New+(cAt l (a+u)).NewLen:=rfl
    rcases ihu (by omega) with h' | h'
    ·left;omega
    ·left;subst h';rw [e9];show (cAt l a).New≤(cAt l a).New+(cAt l a).NewLen;exact Int.le_add_of_nonneg_right e4
  have:=(m4 (b - a) (by omega)).resolve_right (by omega)
  rwa [show a+(b - a)=b by omega] at this
 have hF:(mkH l x.length ctx a b).First.toNat=a:=by show ((a:Int)).toNat=a;omega
 have hL:(mkH l x.length ctx a b).Last.toNat - (mkH l x.length ctx a b).First.toNat=b - a:=by
  show (((b - 1:Nat):Int)+1).toNat - ((a:Int)).toNat=b - a;omega
 have hOF:(mkH l x.length ctx a b).Old.From=(cAt l a).Old - eA l ctx a:=rfl
 have hNF:(mkH l x.length ctx a b).New.From=(cAt l a).New - eA l ctx a:=rfl
 have hOT:(mkH l x.length ctx a b).Old.To=eoI 0 l b+eB l x.length ctx b:=by
  unfold eB;rw [eo];rfl
 obtain ⟨P,hP⟩:∃P,P=Y9 l x y (mkH l x.length ctx a b):=⟨_,rfl⟩
 have hPl:P.Lines=s7 l x y ((cAt l a).Old - eA l ctx a) a (b - a)++A02 32 (sub x (eoI 0 l b) (eoI 0 l b+eB l x.length ctx b)):=by
  rw [hP];unfold Y9
  show s7 l x y _ (mkH l x.length ctx a b).First.toNat ((mkH l x.length ctx a b).Last.toNat - (mkH l x.length ctx a b).First.toNat)++A02 32 (sub x (A03 l _ (mkH l x.length ctx a b).First.toNat ((mkH l x.length ctx a b).Last.toNat - (mkH l x.length ctx a b).First.toNat)) _)=_
  rw [hL,hF,hOF,hOT,D48 _ _ _ (by omega),show a+(b - a)=b by omega]
 have hPO:P.Old=(cAt l a).Old - eA l ctx a:=by rw [hP];rfl
 have hPN:P.New=(cAt l a).New - eA l ctx a:=by rw [hP];rfl
 have h43:G5 P.Lines 43=sub x ((cAt l a).Old - eA l ctx a) (eoI 0 l b+eB l x.length ctx b):=by
  rw [hPl,A59,A60,if_neg (by decide),m1]
  exact A57 x (by omega) (by omega) (by omega)
 have h45:G5 P.Lines 45=sub y ((cAt l a).New - eA l ctx a) (enI 0 l b+eB l x.length ctx b):=by
  rw [hPl,A59,A60,if_neg (by decide),m2,w5]
  exact A57 y (by omega) (by omega) (by omega)
 have hon:B37 P=eoI 0 l b+eB l x.length ctx b - ((cAt l a).Old - eA l ctx a):=by
  unfold B37;rw [h43];exact A58 x (by omega) (by omega) (by omega)
 have hnn:B38 P=enI 0 l b+eB l x.length ctx b - ((cAt l a).New - eA l ctx a):=by
  unfold B38;rw [h45];exact A58 y (by omega) (by omega) (by omega)
 rw [←hP]
 refine ⟨hPO,hPN,by omega,by omega,by omega,by omega,by omega,by omega,?_,?_,?_,?_⟩
 ·rw [h43];congr 1
  ·exact hPO.symm
  ·omega
 ·rw [h45];congr 1
  ·exact hPN.symm
  ·omega
 ·rw [hPl,D49]
  have e:s7 l x y ((cAt l a).Old - eA l ctx a) a (b - a)=s7 l x y ((cAt l a).Old - eA l ctx a) a (b - 1 - a+1):=by congr 1;omega
  rw [e]
  simp only [s7,D49]
  rw [show a+(b - 1 - a)=b - 1 by omega]
  have key:A15 (A02 45 (sub x (cAt l (b - 1)).Old (A87 (cAt l (b - 1)))))=true∨A15 (A02 43 (sub y (cAt l (b - 1)).New ((cAt l (b - 1)).New+(cAt l (b - 1)).NewLen)))=true:=by
   obtain ⟨g3a,g3b⟩:=g3
   obtain ⟨g1a,g1b⟩:=g1
   by_cases h0:(cAt l (b - 1)).OldLen=0
   ·right
    refine D50 (by decide) fun e0=>?_
    have:=A58 y (a:=(cAt l (b - 1)).New) (b:=(cAt l (b - 1)).New+(cAt l (b - 1)).NewLen) g3a (by omega) (by omega)
    rw [e0] at this;simp at this;omega
   ·left
    refine D50 (by decide) fun e0=>?_
    have:=A58 x (a:=(cAt l (b - 1)).Old) (b:=A87 (cAt l (b - 1))) g1a (by unfold A87;omega) (by unfold A87;omega)
    rw [e0] at this;unfold A87 at this;simp at this;omega
  rcases key with e1 | e1<;>rw [e1]<;>simp
 ·intro hx hy
  rw [hPl,I43,C65 hx hy,Bool.true_and]
  exact A61 (.inl rfl) (fun s hs=>hx s (C91 hs))
theorem ScFit.hunks (h:ScFit x y l) {ctx:Int} (hc:0≤ctx) (hx:∀s∈x,J3 s=true) (hy:∀s∈y,J3 s=true):∀(hs:List Hunk) (a:Nat),GrOk l x.length ctx a hs l.length →
  ∀(i j e:Int),i=eoI 0 l a+e→j=enI 0 l a+e→0≤e→e≤ctx→(a=0→e=0) →
  C36 i j (hs.map (Y9 l x y))=true∧(M2 (hs.map (Y9 l x y)) 43).Sublist (x.drop i.toNat)∧(M2 (hs.map (Y9 l x y)) 45).Sublist (y.drop j.toNat) ∧
   ∀p∈hs.map (Y9 l x y),(p.Old+B37 p≤x.length∧p.New+B38 p≤y.length∧0≤p.Old∧0≤p.New)∧G5 p.Lines 43=sub x p.Old (p.Old+B37 p)∧G5 p.Lines 45=sub y p.New (p.New+B38 p)
 | [],a,_,i,j,e,_,_,_,_,_=>⟨rfl,by simp [M2],by simp [M2],by simp⟩
 | hk::hs,a,⟨b,hab,ho,hE,hr⟩,i,j,e,hi,hj,he,hec,he0=>by
  have hb:=hr.le
  have hob:b < l.length→opens l ctx b:=by
   intro hlt
   cases hs with
   | nil=>exact absurd hr (by show ¬b=l.length;omega)
   | cons h2 hs2=>obtain ⟨_,_,ho2,_⟩:=hr;exact ho2
  obtain ⟨w1,w2,w3,w4,w5⟩:=h.after hc hb hob (by omega)
  obtain ⟨q1,q2,q3⟩:=h.before hc (show a < l.length by omega) ho
  have H:=h.hunk hc hab hb ho hob
  rw [←hE] at H
  obtain ⟨P,hP⟩:∃P,P=Y9 l x y hk:=⟨_,rfl⟩
  rw [←hP] at H
  obtain ⟨i1,i2,i3,i4⟩:=ScFit.hunks h hc hx hy hs b hr (P.Old+B37 P) (P.New+B38 P) (eB l x.length ctx b) H.oe H.ne w1 w2 (by omega)
  obtain ⟨k1,⟨k2,k2'⟩,k3,⟨k4,k4'⟩,k5,k6,k7,k8⟩:=x6 _ _ _ _ _ _ h.sc a (show a < l.length by omega)
  have h1:=H.old
  have h2:=H.new
  have h3:=H.o0
  have h4:=H.n0
  have h5:=H.ox
  have h6:=H.ny
  have h7:=h.lx
  have h8:=h.ly
  have n1:0≤B37 P:=by unfold B37;omega
  have n2:0≤B38 P:=by unfold B38;omega
  have hgap:e+eA l ctx a≤(cAt l a).Old - eoI 0 l a:=by
   by_cases h0:a=0
   ·have:=he0 h0;omega
   ·have:=C39 ho h0;omega
  obtain ⟨r1,r2,r3,r4⟩:=h.nn a (by omega)
  have hij:i≤P.Old∧j≤P.New∧P.Old - i=P.New - j∧0≤i∧0≤j:=by omega
  have hsub:∀(z:List Str) (i f t:Int),0≤i→i≤f→f≤t→∀r:List Str,r.Sublist (z.drop t.toNat)→(sub z f t++r).Sublist (z.drop i.toNat):=by
   intro z i f t h0 h1 h2 r hr
   have e1:z.drop f.toNat=sub z f t++z.drop t.toNat:=by
    unfold sub
    rw [show t.toNat=f.toNat+(t.toNat - f.toNat) by omega,←List.drop_drop,show f.toNat+(t.toNat - f.toNat) - f.toNat=t.toNat - f.toNat by omega,I34]
   have e2:z.drop f.toNat=(z.drop i.toNat).drop (f.toNat - i.toNat):=by rw [List.drop_drop];congr 1;omega
   refine List.Sublist.trans ?_ (List.drop_sublist (f.toNat - i.toNat) (z.drop i.toNat))
   rw [←e2,e1]
   exact List.Sublist.append_left hr _
  have key:∀(k:UInt8),M2 ((hk::hs).map (Y9 l x y)) k=G5 P.Lines k++M2 (hs.map (Y9 l x y)) k:=by
   intro k;rw [hP];simp [M2]
  refine ⟨?_,?_,?_,?_⟩
  ·rw [I05,←hP]
   simp only [C36,H.gl hx hy,i1,Bool.and_true,Bool.true_and,H99,decide_eq_true_eq]
   refine ⟨?_,by omega⟩
   unfold C04
   rw [H.ch]
   rintro (((((e0 | e0) | e0) | e0) | e0) | e0)
   ·cases e0
   all_goals omega
  ·rw [key,H.ol]
   exact hsub x i P.Old (P.Old+B37 P) hij.2.2.2.1 hij.1 (by omega) _ i2
  ·rw [key,H.nl]
   exact hsub y j P.New (P.New+B38 P) hij.2.2.2.2 hij.2.1 (by omega) _ i3
  ·rw [I05,←hP]
   intro p hp
   rcases List.mem_cons.1 hp with rfl | hp
   ·exact ⟨⟨h5,h6,h3,h4⟩,H.ol,H.nl⟩
   ·exact i4 p hp
theorem C07:∀{s z:List Str},s.Sublist z→p8 z=true→p8 s=true:=by
 intro s z hs
 induction hs with
 | slnil=>exact fun h=>h
 | cons a _ ih =>
  intro h
  simp only [p8,H99] at h
  exact ih h.2
 | cons_cons a hs2 ih =>
  intro h
  simp only [p8,H99,I38] at h ⊢
  refine ⟨?_,ih h.2⟩
  rcases h.1 with h1 | h1
  ·left
   rw [List.isEmpty_iff] at h1 ⊢
   rw [h1] at hs2
   exact List.sublist_nil.1 hs2
  ·exact .inr h1
def Z0 (l:List Change) (x y:List Str) (ctx:Int):List PatchHunk:=(V4 l x.length ctx l.length).map (Y9 l x y)
theorem ScFit.good (h:ScFit x y l) {ctx:Int} (hc:0≤ctx) (hx:∀s∈x,J3 s=true) (hy:∀s∈y,J3 s=true) (ex:p8 x=true) (ey:p8 y=true):C37 (Z0 l x y ctx)=true:=by
 obtain ⟨h1,h2,h3,_⟩:=h.hunks hc hx hy _ 0 (A56 l x.length ctx l.length) 0 0 0 rfl rfl (Int.le_refl _) hc (fun _=>rfl)
 unfold C37 G24 Z0
 rw [h1,C07 h2 (by simpa using ex),C07 h3 (by simpa using ey)]
 rfl
theorem ScFit.texts (h:ScFit x y l) {ctx:Int} (hc:0≤ctx) (hx:∀s∈x,J3 s=true) (hy:∀s∈y,J3 s=true):∀p∈Z0 l x y ctx,(p.Old+B37 p≤x.length∧p.New+B38 p≤y.length∧0≤p.Old∧0≤p.New)∧G5 p.Lines 43=sub x p.Old (p.Old+B37 p)∧G5 p.Lines 45=sub y p.New (p.New+B38 p) :=
 (h.hunks hc hx hy _ 0 (A56 l x.length ctx l.length) 0 0 0 rfl rfl (Int.le_refl _) hc (fun _=>rfl)).2.2.2
end
end Go.AL
namespace Go.AL
open Go
theorem B31 {m n:Int} (hm:L2 m) (hn:L2 n):∀(p:List Span) (i j i0 j0:Int) (k0:Nat),Asc m n i j p→0≤i0→0≤j0→i0≤i→i - i0=j - j0→(0 < k0→i0 < i)→K2 k0 i0 j0 (N2 i j p m n) m n=true
 | [],i,j,i0,j0,k0,ha,h1,h2,h3,h4,h5=>by
  obtain ⟨a1,a2⟩:i≤m∧j≤n:=ha
  obtain ⟨m1,m2⟩:=hm
  obtain ⟨n1,n2⟩:=hn
  unfold N2
  split
  ·rename_i hc
   simp only [K2,H99,decide_eq_true_eq]
   refine ⟨?_,by omega⟩
   unfold E86 L2
   show ¬(((((((¬(0≤i∧i≤4096)∨¬(0≤m - i∧m - i≤4096))∨¬(0≤j∧j≤4096))∨¬(0≤n - j∧n - j≤4096))∨m - i+(n - j)=0)∨i - i0≠j - j0)∨i < i0)∨(0 < (k0:Int)∧i=i0))
   omega
  ·simp only [K2,decide_eq_true_eq];omega
 | x::r,i,j,i0,j0,k0,ha,h1,h2,h3,h4,h5=>by
  obtain ⟨a1,a2,a3⟩:=ha
  have hle:=a3.le
  unfold N2
  split
  ·rename_i hc
   simp only [I33,I28,K2,H99,decide_eq_true_eq]
   refine ⟨?_,?_⟩
   ·obtain ⟨m1,m2⟩:=hm
    obtain ⟨n1,n2⟩:=hn
    unfold E86 L2
    show ¬(((((((¬(0≤i∧i≤4096)∨¬(0≤x.From - i∧x.From - i≤4096))∨¬(0≤j∧j≤4096))∨¬(0≤x.To - j∧x.To - j≤4096))∨x.From - i+(x.To - j)=0)∨i - i0≠j - j0)∨i < i0)∨(0 < (k0:Int)∧i=i0))
    omega
   ·exact B31 hm hn r _ _ _ _ _ a3 (by omega) (by omega) (by omega) (by omega) (fun _=>by omega)
  ·rw [I28]
   exact B31 hm hn r _ _ _ _ _ a3 h1 h2 (by omega) (by omega) (fun h=>by omega)
def EqAt (X Y:List Str) (s:Span):Prop:=0≤s.From∧0≤s.To∧∃v,X[s.From.toNat]?=some v∧Y[s.To.toNat]?=some v
theorem F65 {X:List Str} {a b:Int} {v:Str} (h0:0≤a) (h1:a≤b) (hv:X[b.toNat]?=some v):sub X a (b+1)=sub X a b++[v]:=by
 rw [←A57 X h0 h1 (by omega:b≤b+1)]
 congr 1
 unfold sub
 obtain ⟨hl,e⟩:=List.getElem?_eq_some_iff.1 hv
 rw [I01 hl,e,show (b+1).toNat - b.toNat=1 by omega]
 rfl
theorem E34:∀(ls:List PatchLine),ls.all B66=true→(ls.map szL).sum≤64*((G5 ls 43).length+(G5 ls 45).length)+((G5 ls 43).flatten.length+(G5 ls 45).flatten.length)
 | [],_=>by simp
 | q::ls,h=>by
  rw [List.all_cons,H99] at h
  have ih:=E34 ls h.2
  have hk:q.Kind=32∨q.Kind=45∨q.Kind=43:=by
   have hg:=h.1
   unfold B66 at hg
   have hg:=A0 hg
   by_cases h1:q.Kind=32
   ·exact .inl h1
   by_cases h2:q.Kind=45
   ·exact .inr (.inl h2)
   by_cases h3:q.Kind=43
   ·exact .inr (.inr h3)
   exact absurd (.inl ⟨⟨h1,h2⟩,h3⟩) hg
  have hd:∀k:UInt8,G5 (q::ls) k=if q.Kind≠k then q.Text::G5 ls k else G5 ls k:=by
   intro k
   unfold G5
   by_cases e:q.Kind=k
   ·rw [if_neg (by simpa using e),List.filter_cons_of_neg (by simpa using e)]
   ·rw [if_pos e,List.filter_cons_of_pos (by simpa using e)];rfl
  rw [hd 43,hd 45,I05,I27]
  have hz:szL q=q.Text.length+64:=rfl
  rcases hk with e | e | e<;>rw [e]<;>simp (decide:=true) only [if_true,if_false,ne_eq,not_true_eq_false,not_false_eq_true,H96,I11,H95]<;>omega
theorem C08:∀(hs:List PatchHunk) (i j:Int),C36 i j hs=true→szP hs≤128*((M2 hs 43).length+(M2 hs 45).length)+((M2 hs 43).flatten.length+(M2 hs 45).flatten.length)
 | [],_,_,_=>by simp [szP]
 | h :: hs,i,j,hg=>by
  simp only [C36,H99,decide_eq_true_eq] at hg
  obtain ⟨h1,h2,h3,h4⟩:=hg
  have ih:=C08 hs _ _ h4
  have hl:=E34 h.Lines h1
  have hne:1≤h.Lines.length:=by
   cases hq:h.Lines with
   | nil=>exact absurd (.inl (.inl (.inl (.inl (.inl (by rw [hq];rfl)))))) h2
   | cons a b=>simp
  have hcnt:h.Lines.length≤(G5 h.Lines 43).length+(G5 h.Lines 45).length:=by
   have:64*h.Lines.length≤(h.Lines.map szL).sum:=szL_len h.Lines
   have key:∀ls:List PatchLine,ls.length≤(G5 ls 43).length+(G5 ls 45).length:=by
    intro ls
    induction ls with
    | nil=>simp
    | cons q ls ih =>
     have hd:∀k:UInt8,(G5 (q::ls) k).length=if q.Kind≠k then (G5 ls k).length+1 else (G5 ls k).length:=by
      intro k
      unfold G5
      by_cases e:q.Kind=k
      ·rw [if_neg (by simpa using e),List.filter_cons_of_neg (by simpa using e)]
      ·rw [if_pos e,List.filter_cons_of_pos (by simpa using e)];simp
     rw [hd 43,hd 45,H96]
     by_cases e:q.Kind=43
     ·have e2:q.Kind≠45:=by rw [e];decide
      rw [if_pos e2];split<;>omega
     ·rw [if_pos e];split<;>omega
   exact key h.Lines
  have hsz:szP (h::hs)=szH h+szP hs:=by simp [szP]
  have hszh:szH h=64+(h.Lines.map szL).sum:=rfl
  have hs1:∀k,M2 (h::hs) k=G5 h.Lines k++M2 hs k:=by intro k;simp [M2]
  rw [hsz,hszh,hs1 43,hs1 45]
  simp only [H95,I21]
  omega
theorem C66:∀{s z:List Str},s.Sublist z→s.flatten.length≤z.flatten.length:=by
 intro s z hs
 induction hs with
 | slnil=>exact Nat.le_refl _
 | cons a _ ih=>simp only [I11,H95];omega
 | cons_cons a _ ih=>simp only [I11,H95];omega
theorem ScFit.size {x y:List Str} {l:List Change} (h:ScFit x y l) {ctx:Int} (hc:0≤ctx) (hx:∀s∈x,J3 s=true) (hy:∀s∈y,J3 s=true):szP (Z0 l x y ctx)≤128*(x.length+y.length)+(x.flatten.length+y.flatten.length):=by
 obtain ⟨h1,h2,h3,_⟩:=h.hunks hc hx hy _ 0 (A56 l x.length ctx l.length) 0 0 0 rfl rfl (Int.le_refl _) hc (fun _=>rfl)
 have h4:=C08 _ _ _ h1
 have e:Z0 l x y ctx=(V4 l x.length ctx l.length).map (Y9 l x y):=rfl
 rw [←e] at h2 h3 h4
 have h2':(M2 (Z0 l x y ctx) 43).Sublist x:=by simpa using h2
 have h3':(M2 (Z0 l x y ctx) 45).Sublist y:=by simpa using h3
 have:=h2'.length_le
 have:=h3'.length_le
 have:=C66 h2'
 have:=C66 h3'
 omega
theorem D96 {a:Str} (h:a.length≤4096):B30 a=(C4 a,0):=by
 have:=Q5 a
 unfold B30;rw [if_neg (by omega)]
end Go.AL
namespace Go.AL
open Go
end Go.AL
namespace Go.AL
open Go
abbrev B67:Int→Nat→Cell:=fun x _=>.v (.int .u16 x)
abbrev pU16s (l:List Int):PV:=.one (.list Int 1 B67 l)
theorem G28 (n:Int) (h:0≤n∧n < 65536):IntKind.u16.wrap n=n:=by
 simp [IntKind.wrap,IntKind.signed,IntKind.bits];omega
def flat (a b:List Int) (done:Nat→Nat→Bool):List Int :=
 (List.range ((a.length+1)*(b.length+1))).map fun p=>if done (p / (b.length+1)) (p % (b.length+1))=true then (dist (a.drop (p / (b.length+1))) (b.drop (p % (b.length+1))):Int) else 0
theorem C67 (a b:List Int) (done:Nat→Nat→Bool):(flat a b done).length=(a.length+1)*(b.length+1):=by simp [flat]
theorem C92 {a b:List Int} {i j:Nat} (hi:i≤a.length) (hj:j≤b.length):i*(b.length+1)+j < (a.length+1)*(b.length+1)∧(i*(b.length+1)+j) / (b.length+1)=i∧(i*(b.length+1)+j) % (b.length+1)=j:=by
 refine ⟨?_,?_,?_⟩
 ·have:(i+1)*(b.length+1)≤(a.length+1)*(b.length+1):=I08 _ (by omega)
  rw [I18,Nat.one_mul] at this;omega
 ·rw [Nat.mul_comm,Nat.mul_add_div (by omega),Nat.div_eq_of_lt (by omega),Nat.add_zero]
 ·rw [Nat.mul_comm,Nat.mul_add_mod,Nat.mod_eq_of_lt (by omega)]
theorem D51 {a b:List Int} {done:Nat→Nat→Bool} {i j:Nat} (hi:i≤a.length) (hj:j≤b.length):(flat a b done)[i*(b.length+1)+j]?=some (if done i j=true then (dist (a.drop i) (b.drop j):Int) else 0):=by
 obtain ⟨h1,h2,h3⟩:=C92 hi hj
 unfold flat
 rw [A27 _ _ _ h1,h2,h3]
theorem F66 {a b:List Int} {done done':Nat→Nat→Bool} {i j:Nat} {v:Int} (hi:i≤a.length) (hj:j≤b.length) (hv:v=(dist (a.drop i) (b.drop j):Int)) (hd:done' i j=true)
  (ho:∀r q,r≤a.length→q≤b.length→¬(r=i∧q=j)→done' r q=done r q):(flat a b done).set (i*(b.length+1)+j) v=flat a b done':=by
 obtain ⟨h1,h2,h3⟩:=C92 hi hj
 unfold flat
 refine A26 _ _ _ _ _ (fun _=>?_) (fun q hq hne=>?_)
 ·rw [h2,h3,if_pos hd,hv]
 ·have hW:0 < b.length+1:=by omega
  have e:=Nat.div_add_mod q (b.length+1)
  have hr:q / (b.length+1)≤a.length:=by
   have:=(Nat.div_lt_iff_lt_mul hW).2 hq
   omega
  have hm:=Nat.mod_lt q hW
  rw [ho _ _ hr (by omega) (fun ⟨e1,e2⟩=>hne (by rw [e1,e2,Nat.mul_comm] at e;exact e.symm))]
theorem H18 (a b:List Int):List.replicate ((a.length+1)*(b.length+1)) 0=flat a b (fun _ _=>false):=by
 unfold flat
 simp only [Bool.false_eq_true,if_false]
 rw [List.map_const',List.length_range]
theorem A62 {a b:List Int} {done done':Nat→Nat→Bool} (h:∀r q,r≤a.length→q≤b.length→(done r q=done' r q∨dist (a.drop r) (b.drop q)=0)):flat a b done=flat a b done':=by
 unfold flat
 apply List.map_congr_left
 intro p hp
 have hp:=List.mem_range.1 hp
 have hW:0 < b.length+1:=by omega
 have hr:p / (b.length+1)≤a.length:=by have:=(Nat.div_lt_iff_lt_mul hW).2 hp;omega
 have hm:=Nat.mod_lt p hW
 rcases h (p / (b.length+1)) (p % (b.length+1)) hr (by omega) with e | e
 ·rw [e]
 ·rw [e];simp
def T5:List Int→List Int→Nat
 | x::a,y::b=>if x=y then T5 a b+1 else 0
 | _,_=>0
theorem F67:∀(a b:List Int),T5 a b≤a.length∧T5 a b≤b.length
 | [],_=>by simp [T5]
 | _::_,[]=>by simp [T5]
 | x::a,y::b=>by
  have:=F67 a b
  unfold T5
  simp only [H96]
  split<;>omega
theorem D52 (a b:List Int) (k:Nat) (hk:k < a.length) (hk':k < b.length):T5 (a.drop k) (b.drop k)=if a[k]=b[k] then T5 (a.drop (k+1)) (b.drop (k+1))+1 else 0:=by
 rw [I01 hk,I01 hk'];rfl
theorem H19 (a b:List Int) (k:Nat) (h:¬(k < a.length∧k < b.length)):T5 (a.drop k) (b.drop k)=0:=by
 by_cases h1:k < a.length
 ·rw [I02 (as:=b) (by omega)]
  cases a.drop k<;>rfl
 ·rw [I02 (as:=a) (by omega)];rfl
theorem D53:∀(a b:List Int) (p q:Int),F1 p q a b=M3 p q (T5 a b)++F1 (p+T5 a b) (q+T5 a b) (a.drop (T5 a b)) (b.drop (T5 a b))
 | [],b,p,q=>by simp [T5,j2]
 | x::a,[],p,q=>by simp [T5,j2]
 | x::a,y::b,p,q=>by
  unfold T5
  by_cases h:x=y
  ·rw [if_pos h]
   conv=>lhs;unfold F1
   rw [if_pos h,D53 a b (p+1) (q+1),A45]
   simp only [List.drop_succ_cons,I33]
   rw [show p+1+(T5 a b:Int)=p+((T5 a b+1:Nat):Int) by omega,show q+1+(T5 a b:Int)=q+((T5 a b+1:Nat):Int) by omega]
  ·rw [if_neg h]
   simp [j2]
end Go.AL
namespace Go.AL
open Go
def Y6 (l:List Merged) (bit:Int) (a b:Nat):List Merged:=((l.drop a).take (b - a)).map fun y=>⟨y.Line,K6 y.Parents bit⟩
def C09 (list:List Int) (bit:Int) (a n:Nat):List Merged:=((list.drop a).take n).map fun v=>⟨v,bit⟩
def j4 (l:List Merged) (list:List Int) (bit:Int) (k:Nat):List Change→List Merged
 | []=>Y6 l bit k l.length
 | c::r=>Y6 l bit k c.Old.toNat++(l.drop c.Old.toNat).take c.OldLen.toNat++C09 list bit c.New.toNat c.NewLen.toNat++j4 l list bit (c.Old.toNat+c.OldLen.toNat) r
theorem G29 {α:Type} (l:List α) {a b c:Nat} (h1:a≤b) (h2:b≤c):(l.drop a).take (c - a)=(l.drop a).take (b - a)++(l.drop b).take (c - b):=by
 have h:=List.take_add (l:=l.drop a) (i:=b - a) (j:=c - b)
 rw [List.drop_drop,show b - a+(c - b)=c - a by omega,show a+(b - a)=b by omega] at h
 exact h
theorem C68 (l:List Merged) (bit:Int) {a b c:Nat} (h1:a≤b) (h2:b≤c):Y6 l bit a c=Y6 l bit a b++Y6 l bit b c:=by
 unfold Y6;rw [G29 l h1 h2,I09]
theorem C40 (l:List Merged) (bit:Int) (a:Nat):Y6 l bit a a=[]:=by unfold Y6;simp
theorem C41 (l:List Merged) (bit:Int) {a:Nat} (h:a < l.length):Y6 l bit a (a+1)=(l[a]?.map fun y=>(⟨y.Line,K6 y.Parents bit⟩:Merged)).toList:=by
 unfold Y6
 rw [show a+1 - a=1 by omega,H97 h,I01 h]
 rfl
theorem D54 (l:List Merged) (list:List Int) (bit:Int):∀(ps:List Span) (k i j:Nat),k≤i→Asc l.length list.length i j ps →
  j4 l list bit k (N2 i j ps l.length list.length)=Y6 l bit k i++P5 l list bit i j ps
 | [],k,i,j,hk,ha=>by
  have h1:(i:Int)≤l.length∧(j:Int)≤list.length:=ha
  unfold N2 P5
  by_cases h:(l.length:Int) > i∨(list.length:Int) > j
  ·rw [if_pos h]
   simp only [j4]
   rw [show (i:Int).toNat+((l.length:Int) - i).toNat=l.length by omega,C40,I14,I03,I03,show ((l.length:Int) - i).toNat=l.length - i by omega,show ((list.length:Int) - j).toNat=list.length - j by omega,I06]
   rfl
  ·rw [if_neg h]
   have e1:i=l.length:=by omega
   have e2:j=list.length:=by omega
   rw [e1,e2]
   simp [j4]
 | x::r,k,i,j,hk,ha=>by
  obtain ⟨h1,h2,h3⟩:=ha
  have h4:=h3.le
  have e1:((x.From.toNat+1:Nat):Int)=x.From+1:=by omega
  have e2:((x.To.toNat+1:Nat):Int)=x.To+1:=by omega
  have ih:=fun k (hk:k≤x.From.toNat+1)=>D54 l list bit r k (x.From.toNat+1) (x.To.toNat+1) hk (by rw [e1,e2];exact h3)
  rw [e1,e2] at ih
  have hlt:x.From.toNat < l.length:=by omega
  unfold N2 P5
  by_cases h:x.From > i∨x.To > j
  ·rw [if_pos h,I40,j4]
   dsimp only
   rw [show (i:Int).toNat+(x.From - i).toNat=x.From.toNat by omega,ih _ (by omega),C41 l bit hlt,I03,I03,show (x.From - (i:Int)).toNat=x.From.toNat - i by omega,show (x.To - (j:Int)).toNat=x.To.toNat - j by omega]
   unfold C09
   simp only [I06]
  ·rw [if_neg h,I28]
   have e3:x.From.toNat=i:=by omega
   have e4:x.To.toNat=j:=by omega
   rw [ih k (by omega),C68 l bit hk (show i≤x.From.toNat+1 by omega),e3,e4,C41 l bit (by omega)]
   simp
theorem H57 (l:List Merged) (list:List Int) (bit:Int):j4 l list bit 0 (K5 (F4 l) list)=P5 l list bit 0 0 (F1 0 0 (F4 l) list):=by
 have hasc:=W2 (F4 l) list 0 0
 rw [Int.zero_add,Int.zero_add,show (F4 l).length=l.length by simp [F4]] at hasc
 have:=D54 l list bit (F1 0 0 (F4 l) list) 0 0 0 (Nat.le_refl _) hasc
 rw [C40,I28] at this
 unfold K5 X8
 rw [show (F4 l).length=l.length by simp [F4]]
 exact this
def N9 (p:Int) (ms:List Int) (c:Change):List Int:=ms.mapIdx fun k m=>if c.New.toNat≤k∧k < c.New.toNat+c.NewLen.toNat then K6 m (H3 p) else m
theorem m8 (p:Int) (ms:List Int) (c:Change):(N9 p ms c).length=ms.length:=by simp [N9]
theorem x7 (p:Int) (ms:List Int) (c:Change) (k:Nat):(N9 p ms c)[k]?=ms[k]?.map fun m=>if c.New.toNat≤k∧k < c.New.toNat+c.NewLen.toNat then K6 m (H3 p) else m:=by
 unfold N9;rw [List.getElem?_mapIdx]
def x8 (cs:List Change) (k:Nat):Bool:=cs.any fun c=>decide (c.New.toNat≤k∧k < c.New.toNat+c.NewLen.toNat)
def B16 (ps:List Span) (k:Nat):Bool:=ps.any fun x=>decide (x.To.toNat=k)
theorem or_or (m b:Int):K6 (K6 m b) b=K6 m b:=by
 unfold K6
 have h:BitVec.ofInt IntKind.u32.bits (IntKind.u32.wrap ((BitVec.ofInt IntKind.u32.bits m ||| BitVec.ofInt IntKind.u32.bits b).toNat:Int))=BitVec.ofInt IntKind.u32.bits m ||| BitVec.ofInt IntKind.u32.bits b:=by
  rw [show IntKind.u32.wrap ((BitVec.ofInt IntKind.u32.bits m ||| BitVec.ofInt IntKind.u32.bits b).toNat:Int)=((BitVec.ofInt IntKind.u32.bits m ||| BitVec.ofInt IntKind.u32.bits b).toNat:Int) from z8 _ (by
   have:=(BitVec.ofInt IntKind.u32.bits m ||| BitVec.ofInt IntKind.u32.bits b).isLt
   exact this)]
  rw [BitVec.ofInt_natCast,BitVec.ofNat_toNat,BitVec.setWidth_eq]
 rw [h,BitVec.or_assoc,BitVec.or_self]
theorem F68 (p:Int):∀(cs:List Change) (ms:List Int) (k:Nat),(cs.foldl (N9 p) ms)[k]?=ms[k]?.map fun m=>if x8 cs k=true then K6 m (H3 p) else m
 | [],ms,k=>by simp [x8]
 | c::r,ms,k=>by
  rw [I22,F68 p r,x7,Option.map_map]
  congr 1
  funext m
  show (if x8 r k=true then K6 (if c.New.toNat≤k∧k < c.New.toNat+c.NewLen.toNat then K6 m (H3 p) else m) (H3 p) else if c.New.toNat≤k∧k < c.New.toNat+c.NewLen.toNat then K6 m (H3 p) else m)=if x8 (c::r) k=true then K6 m (H3 p) else m
  have e:x8 (c::r) k=(decide (c.New.toNat≤k∧k < c.New.toNat+c.NewLen.toNat)||x8 r k):=rfl
  rw [e]
  by_cases h1:c.New.toNat≤k∧k < c.New.toNat+c.NewLen.toNat
  ·rw [if_pos h1,decide_eq_true h1,Bool.true_or,if_pos rfl]
   cases x8 r k
   ·rw [if_neg (by decide)]
   ·rw [if_pos rfl,or_or]
  ·rw [if_neg h1,decide_eq_false h1,Bool.false_or]
theorem clr_clr (m b:Int):Z5 (Z5 m b) b=Z5 m b:=by
 unfold Z5
 have h:BitVec.ofInt IntKind.u32.bits (IntKind.u32.wrap ((BitVec.ofInt IntKind.u32.bits m &&& ~~~BitVec.ofInt IntKind.u32.bits b).toNat:Int))=BitVec.ofInt IntKind.u32.bits m &&& ~~~BitVec.ofInt IntKind.u32.bits b:=by
  rw [show IntKind.u32.wrap ((BitVec.ofInt IntKind.u32.bits m &&& ~~~BitVec.ofInt IntKind.u32.bits b).toNat:Int)=((BitVec.ofInt IntKind.u32.bits m &&& ~~~BitVec.ofInt IntKind.u32.bits b).toNat:Int) from z8 _ (by
   have:=(BitVec.ofInt IntKind.u32.bits m &&& ~~~BitVec.ofInt IntKind.u32.bits b).isLt
   exact this)]
  rw [BitVec.ofInt_natCast,BitVec.ofNat_toNat,BitVec.setWidth_eq]
 rw [h,BitVec.and_assoc,BitVec.and_self]
theorem E35 (p:Int):∀(ps:List Span) (ms:List Int) (k:Nat),(∀x∈ps,x.To.toNat < ms.length)→(ps.foldl (J1 p) ms)[k]?=ms[k]?.map fun m=>if B16 ps k=true then Z5 m (H3 p) else m
 | [],ms,k,_=>by simp [B16]
 | x::r,ms,k,hp=>by
  have hx:=hp x (by simp)
  have hlen:(J1 p ms x).length=ms.length:=by simp [J1]
  rw [I22,E35 p r _ k (fun y hy=>by rw [hlen];exact hp y (by simp [hy]))]
  have hget:(J1 p ms x)[k]?=ms[k]?.map fun m=>if x.To.toNat=k then Z5 m (H3 p) else m:=by
   unfold J1
   rw [List.getElem?_set]
   by_cases h:x.To.toNat=k
   ·subst h
    rw [if_pos rfl,if_pos hx,H97 hx,I00,H97 hx]
    simp
   ·rw [if_neg h];simp [h]
  rw [hget,Option.map_map]
  congr 1
  funext m
  show (if B16 r k=true then Z5 (if x.To.toNat=k then Z5 m (H3 p) else m) (H3 p) else if x.To.toNat=k then Z5 m (H3 p) else m)=if B16 (x::r) k=true then Z5 m (H3 p) else m
  have e:B16 (x::r) k=(decide (x.To.toNat=k)||B16 r k):=rfl
  rw [e]
  by_cases h1:x.To.toNat=k
  ·rw [if_pos h1,decide_eq_true h1,Bool.true_or,if_pos rfl]
   cases B16 r k
   ·rw [if_neg (by decide)]
   ·rw [if_pos rfl,clr_clr]
  ·rw [if_neg h1,decide_eq_false h1,Bool.false_or]
theorem clr_or (m:Nat) (p:Nat) (hp:p < 32) (hm:m < 2 ^ p):Z5 (K6 m (H3 p)) (H3 p)=m:=by
 have h2:2 ^ p < 2 ^ 32:=Nat.pow_lt_pow_right (by decide) hp
 have hb:H3 (p:Int)=((2 ^ p:Nat):Int):=by
  unfold H3
  rw [A51 (n:=(p:Int)) (by omega),show min ((p:Int)).toNat IntKind.u32.bits=p by rw [I03];exact Nat.min_eq_left (by show p≤32;omega),Int.one_mul]
  rw [show (2:Int) ^ p=((2 ^ p:Nat):Int) by simp]
  exact z8 _ (by omega)
 rw [hb]
 obtain ⟨h3,h4⟩:=D43 m (2 ^ p) (by omega) (by omega)
 rw [h3]
 unfold Z5
 have e1:BitVec.ofInt IntKind.u32.bits (((m ||| 2 ^ p:Nat)):Int)=BitVec.ofNat 32 (m ||| 2 ^ p):=by simp [BitVec.ofInt_natCast];rfl
 have e2:BitVec.ofInt IntKind.u32.bits ((2 ^ p:Nat):Int)=BitVec.ofNat 32 (2 ^ p):=by rw [BitVec.ofInt_natCast];rfl
 rw [e1,e2]
 have h5:(BitVec.ofNat 32 (m ||| 2 ^ p) &&& ~~~BitVec.ofNat 32 (2 ^ p))=BitVec.ofNat 32 m:=by
  apply BitVec.eq_of_getLsbD_eq
  intro i hi
  simp only [BitVec.getLsbD_and,BitVec.getLsbD_not,BitVec.getLsbD_ofNat,hi,decide_true,Bool.true_and,Nat.testBit_or,Nat.testBit_two_pow]
  by_cases hip:p=i
  ·subst hip
   simp [Nat.testBit_lt_two_pow hm]
  ·simp [hip]
 have h6:(BitVec.ofNat 32 m).toNat=m:=by rw [BitVec.toNat_ofNat];exact Nat.mod_eq_of_lt (by omega)
 have h7:((BitVec.ofNat 32 (m ||| 2 ^ p) &&& ~~~BitVec.ofNat 32 (2 ^ p)).toNat:Int)=m:=by rw [h5,h6]
 exact (congrArg IntKind.u32.wrap h7).trans (z8 _ (by omega))
end Go.AL
namespace Go.AL
open Go
theorem F69 (a b:List Span) (k:Nat):B16 (a++b) k=(B16 a k||B16 b k):=by unfold B16;rw [List.any_append]
theorem C10 (i j:Int) (t:Nat) (k:Nat) (hj:0≤j):B16 (M3 i j t) k=decide (j≤k∧(k:Int) < j+t):=by
 unfold B16 M3
 rw [List.any_map,Bool.eq_iff_iff,List.any_eq_true,decide_eq_true_eq]
 constructor
 ·rintro ⟨s,hs,h⟩
  have h1:=List.mem_range.1 hs
  have h2:(j+(s:Int)).toNat=k:=A0 h
  omega
 ·rintro ⟨h1,h2⟩
  refine ⟨((k:Int) - j).toNat,List.mem_range.2 (by omega),?_⟩
  show decide ((j+((((k:Int) - j).toNat:Nat):Int)).toNat=k)=true
  exact decide_eq_true (by omega)
theorem D55 (c:Change) (r:List Change) (k:Nat):x8 (c::r) k=(decide (c.New.toNat≤k∧k < c.New.toNat+c.NewLen.toNat)||x8 r k):=rfl
theorem E36:∀(cs:List Change) (k0:Nat) (i j m n:Int),K2 k0 i j cs m n=true→0≤i→0≤j →
  (∀k:Nat,(k:Int) < j→B16 (J0 i j cs m) k=false∧x8 cs k=false)∧∀k:Nat,j≤k→(k:Int) < n→B16 (J0 i j cs m) k=!x8 cs k
 | [],k0,i,j,m,n,h,h1,h2=>by
  simp only [K2,decide_eq_true_eq] at h
  unfold J0
  refine ⟨fun k hk=>⟨?_,rfl⟩,fun k hk hk2=>?_⟩
  ·rw [C10 _ _ _ _ h2];exact decide_eq_false (by omega)
  ·rw [C10 _ _ _ _ h2]
   show _=true
   exact decide_eq_true (by omega)
 | c :: r,k0,i,j,m,n,h,h1,h2=>by
  simp only [K2,H99,decide_eq_true_eq] at h
  obtain ⟨hb,hr⟩:=h
  have hc:(0≤c.OldLen∧0≤c.NewLen∧i≤c.Old∧c.Old - i=c.New - j):=by
   unfold E86 L2 at hb
   by_cases a2:(0≤c.OldLen∧c.OldLen≤4096)<;>by_cases a4:(0≤c.NewLen∧c.NewLen≤4096)<;>simp [a2,a4] at hb ⊢<;>omega
  obtain ⟨c1,c2,c3,c4⟩:=hc
  obtain ⟨i1,i2⟩:=E36 r (k0+1) (c.Old+c.OldLen) (c.New+c.NewLen) m n hr (by omega) (by omega)
  unfold J0
  rw [show max i c.Old=c.Old by omega,show j+((c.Old - i).toNat:Int)+c.NewLen=c.New+c.NewLen by omega]
  refine ⟨fun k hk=>?_,fun k hk hk2=>?_⟩
  ·obtain ⟨q1,q2⟩:=i1 k (by omega)
   rw [F69,C10 _ _ _ _ h2,D55,q1,q2,decide_eq_false (by omega),decide_eq_false (by omega)]
   exact ⟨rfl,rfl⟩
  ·rw [F69,C10 _ _ _ _ h2,D55]
   by_cases g1:(k:Int) < c.New
   ·obtain ⟨q1,q2⟩:=i1 k (by omega)
    rw [q1,q2,decide_eq_true (by omega),decide_eq_false (by omega)];rfl
   ·rw [decide_eq_false (by omega),Bool.false_or]
    by_cases g2:(k:Int) < c.New+c.NewLen
    ·obtain ⟨q1,q2⟩:=i1 k g2
     rw [q1,decide_eq_true (by omega)];rfl
    ·rw [i2 k (by omega) hk2,decide_eq_false (by omega),Bool.false_or]
theorem G71 {m n:Int}:∀{p:List Span} {i j:Int},Asc m n i j p→∀x∈p,i≤x.From∧x.From < m∧j≤x.To∧x.To < n
 | x::r,i,j,h,y,hy=>by
  obtain ⟨h1,h2,h3⟩:=h
  have h4:=h3.le
  rcases List.mem_cons.1 hy with rfl | hy
  ·omega
  ·have:=G71 h3 y hy;omega
def x9 (ids:List (List Int)) (s:Loom) (p:Nat):Loom :=
 let file:=ids.getD (p+1) []
 let sc:=K5 file (ids.getD 0 [])
 (sc.foldl (N9 p) s.1,sc.foldl (I8 p file) s.2)
def A63 (ids:List (List Int)) (lines n p:Nat):Loom:=(List.range p).foldl (x9 ids) (u0 lines n)
theorem C69 (ids:List (List Int)) (lines n p:Nat):A63 ids lines n (p+1)=x9 ids (A63 ids lines n p) p:=by
 unfold A63;rw [I31,I29];rfl
def LowM (p:Nat) (ms:List Int):Prop:=∀v∈ms,0≤v∧v < ((2 ^ p:Nat):Int)
theorem H20 {p:Nat} (hp:p < 32):H3 (p:Int)=((2 ^ p:Nat):Int):=by
 have h2:2 ^ p < 2 ^ 32:=Nat.pow_lt_pow_right (by decide) hp
 unfold H3
 rw [A51 (n:=(p:Int)) (by omega),show min ((p:Int)).toNat IntKind.u32.bits=p by rw [I03];exact Nat.min_eq_left (by show p≤32;omega),Int.one_mul]
 rw [show (2:Int) ^ p=((2 ^ p:Nat):Int) by simp]
 exact z8 _ (by omega)
theorem or_low {m:Int} {p:Nat} (hp:p < 32) (h:0≤m∧m < ((2 ^ p:Nat):Int)):0≤K6 m (H3 p)∧K6 m (H3 p) < ((2 ^ (p+1):Nat):Int):=by
 have h2:2 ^ p < 2 ^ 32:=Nat.pow_lt_pow_right (by decide) hp
 obtain ⟨q,rfl⟩:∃q:Nat,m=q:=⟨m.toNat,by omega⟩
 have hq:q < 2 ^ p:=by omega
 rw [H20 hp]
 obtain ⟨h3,_⟩:=D43 q (2 ^ p) (by omega) (by omega)
 rw [h3]
 have h4:q ||| 2 ^ p < 2 ^ (p+1):=Nat.or_lt_two_pow (by rw [Nat.pow_succ];omega) (by rw [Nat.pow_succ];omega)
 omega
theorem H21 {ids:List (List Int)} {s:Loom} {p:Nat} {file base:List Int} (hf:file=ids.getD (p+1) []) (hb:base=ids.getD 0 []) (hp:p < 32) (hlow:LowM p s.1) (hlen:s.1.length=base.length) (hfl:file.length≤4096) (hbl:base.length≤4096) :
  x9 ids s p=K7 ids s p∧LowM (p+1) (x9 ids s p).1∧(x9 ids s p).1.length=base.length:=by
 have hasc:=W2 file base 0 0
 rw [Int.zero_add,Int.zero_add] at hasc
 have hsc:=B31 (m:=file.length) (n:=base.length) ⟨by omega,by omega⟩ ⟨by omega,by omega⟩ (F1 0 0 file base) 0 0 0 0 0 hasc (by omega) (by omega) (by omega) (by omega) (by omega)
 obtain ⟨_,hm⟩:=E36 _ 0 0 0 file.length base.length hsc (by omega) (by omega)
 have hmade:=A48 file base
 obtain ⟨sc,hscd⟩:∃sc,sc=K5 file base:=⟨_,rfl⟩
 have hsc2:N2 0 0 (F1 0 0 file base) file.length base.length=sc:=by rw [hscd];rfl
 rw [hsc2] at hm
 have e1:x9 ids s p=(sc.foldl (N9 p) s.1,sc.foldl (I8 p file) s.2):=by rw [hscd,hf,hb];rfl
 have e2:K7 ids s p=((O2 sc file.length).foldl (J1 p) (s.1.map (K6 · (H3 p))),sc.foldl (I8 p file) s.2):=by rw [hscd,hf,hb];rfl
 have hget:=F68 p sc s.1
 have hlen1:(sc.foldl (N9 p) s.1).length=s.1.length:=by
  have key:∀(cs:List Change) (ms:List Int),(cs.foldl (N9 p) ms).length=ms.length:=by
   intro cs
   induction cs with
   | nil=>intro ms;rfl
   | cons c r ih=>intro ms;rw [I22,ih,m8]
  exact key sc s.1
 refine ⟨?_,?_,by rw [e1];dsimp only;rw [hlen1,hlen]⟩
 ·rw [e1,e2,Prod.mk.injEq]
  refine ⟨?_,rfl⟩
  refine List.ext_getElem? fun k=>?_
  have hto:∀x∈O2 sc file.length,x.To.toNat < (s.1.map (K6 · (H3 p))).length:=by
   intro x hx
   rw [I19,hlen]
   rw [hscd,hmade] at hx
   have:=G71 hasc x hx
   omega
  rw [hget,E35 p _ _ k hto,I20,Option.map_map]
  cases hk:s.1[k]? with
  | none=>rfl
  | some v =>
   have hkl:k < base.length:=by have:=(List.getElem?_eq_some_iff.1 hk).1;omega
   have h3:=hm k (by omega) (by omega)
   have hv:=hlow v (I12 hk)
   show some (if x8 sc k=true then K6 v (H3 p) else v)=some (if B16 (O2 sc file.length) k=true then Z5 (K6 v (H3 p)) (H3 p) else K6 v (H3 p))
   have h3:B16 (O2 sc file.length) k=!x8 sc k:=h3
   rw [h3]
   cases x8 sc k
   ·obtain ⟨q,rfl⟩:∃q:Nat,v=q:=⟨v.toNat,by omega⟩
    rw [if_neg (by decide),if_pos (show (!false)=true from rfl),clr_or q p hp (by omega)]
   ·rw [if_pos rfl,if_neg (by decide)]
 ·rw [e1]
  intro v hv
  obtain ⟨k,hk,rfl⟩:=List.mem_iff_getElem.1 hv
  have hkl:k < s.1.length:=by rw [←hlen1];exact hk
  have h4:=hget k
  rw [H97 hk,H97 hkl] at h4
  have h4:(sc.foldl (N9 p) s.1)[k]=if x8 sc k=true then K6 s.1[k] (H3 p) else s.1[k]:=Option.some.inj h4
  show 0≤(sc.foldl (N9 p) s.1)[k]∧(sc.foldl (N9 p) s.1)[k] < _
  rw [h4]
  have hv:=hlow s.1[k] (I07 hkl)
  split
  ·exact or_low hp hv
  ·have:2 ^ p≤2 ^ (p+1):=Nat.pow_le_pow_right (by decide) (by omega)
   omega
theorem E37 {ids:List (List Int)} {base:List Int} {n:Nat} (hb:base=ids.getD 0 []) (hl:∀x∈ids,x.length≤4096) (hbl:base.length≤4096):∀p,p≤32→A63 ids base.length n p=P9 ids base.length n p∧LowM p (A63 ids base.length n p).1∧(A63 ids base.length n p).1.length=base.length
 | 0,_=>by
  refine ⟨rfl,fun v hv=>?_,by simp [A63,u0]⟩
  have:=List.eq_of_mem_replicate (show v∈List.replicate base.length 0 from hv)
  subst this;decide
 | p+1,hp=>by
  obtain ⟨h1,h2,h3⟩:=E37 (n:=n) hb hl hbl p (by omega)
  have hfl:(ids.getD (p+1) []).length≤4096:=by
   rw [I00]
   cases hx:ids[p+1]? with
   | none=>simp
   | some x=>exact hl x (I12 hx)
  obtain ⟨s1,s2,s3⟩:=H21 (ids:=ids) (s:=A63 ids base.length n p) (p:=p) rfl hb (by omega) h2 h3 hfl hbl
  rw [C69,B10,s1,h1]
  rw [s1,h1] at s2 s3
  exact ⟨rfl,s2,s3⟩
theorem F70 (p:Int) (ms:List Int) (a b d:Int):N9 p ms ⟨a,b,d,0⟩=ms:=by
 refine List.ext_getElem? fun k=>?_
 rw [x7]
 cases h:ms[k]? with
 | none=>rfl
 | some v=>simp only [Option.map_some];rw [if_neg (by omega)]
theorem F71 (p:Int) (ms:List Int) (a b:Int) (d t:Nat) (h:d+t < ms.length):(N9 p ms ⟨a,b,d,t⟩)[d+t]?=some (ms.getD (d+t) 0)∧(N9 p ms ⟨a,b,d,t⟩).set (d+t) (K6 (ms.getD (d+t) 0) (H3 p))=N9 p ms ⟨a,b,d,((t+1:Nat):Int)⟩:=by
 have hg:ms[d+t]?=some (ms.getD (d+t) 0):=by rw [I00,H97 h];rfl
 refine ⟨?_,?_⟩
 ·rw [x7,hg]
  simp only [Option.map_some,I03]
  rw [if_neg (by omega)]
 ·refine List.ext_getElem? fun k=>?_
  rw [List.getElem?_set,x7,x7,m8]
  simp only [I03]
  by_cases hk:d+t=k
  ·subst hk
   rw [if_pos rfl,if_pos h,hg]
   simp only [Option.map_some]
   rw [if_pos (by omega)]
  ·rw [if_neg hk]
   cases ms[k]? with
   | none=>rfl
   | some v =>
    simp only [Option.map_some]
    by_cases g:d≤k∧k < d+t
    ·rw [if_pos g,if_pos (by omega)]
    ·rw [if_neg g,if_neg (by omega)]
end Go.AL
namespace Go.AL
open Go
def GrX (l:List Change) (m ctx:Int):Nat→List Hunk→Nat→Prop
 | a,[],k=>a=k
 | a,h::r,k=>∃b,a < b∧opens l ctx a∧(∀c,a < c→c < b→¬opens l ctx c)∧h=mkH l m ctx a b∧GrX l m ctx b r k
theorem GrX.le {l:List Change} {m ctx:Int}:∀{hs:List Hunk} {a k:Nat},GrX l m ctx a hs k→a≤k
 | [],a,k,h=>Nat.le_of_eq h
 | _::_,a,k,⟨b,h1,_,_,_,h2⟩=>by have:=GrX.le h2;omega
theorem GrX.snoc {l:List Change} {m ctx:Int} {k n:Nat} (ho:opens l ctx k) (hk:k < n) (hno:∀c,k < c→c < n→¬opens l ctx c):∀{hs:List Hunk} {a:Nat},GrX l m ctx a hs k→GrX l m ctx a (hs++[mkH l m ctx k n]) n
 | [],a,h=>by
  obtain rfl:a=k:=h
  exact ⟨n,hk,ho,hno,rfl,rfl⟩
 | _::_,a,⟨b,h1,h2,h3,h4,h5⟩=>⟨b,h1,h2,h3,h4,GrX.snoc ho hk hno h5⟩
theorem GrX.last {l:List Change} {m ctx:Int} {k:Nat} (hno:¬opens l ctx k):∀{hs:List Hunk} {a:Nat},GrX l m ctx a hs k→hs≠[]→GrX l m ctx a (hs.set (hs.length - 1) (C03 l m ctx k (hs.getD (hs.length - 1) G66))) (k+1)
 | [],_,_,h0=>absurd rfl h0
 | [h],a,⟨b,h1,h2,h3,h4,h5⟩,_=>by
  obtain rfl:b=k:=h5
  subst h4
  refine ⟨b+1,by omega,h2,fun c hc1 hc2=>?_,rfl,rfl⟩
  by_cases hcb:c=b
  ·rw [hcb];exact hno
  ·exact h3 c hc1 (by omega)
 | h::h'::r,a,⟨b,h1,h2,h3,h4,h5⟩,_=>by
  have ih:=GrX.last hno h5 (by simp)
  refine ⟨b,h1,h2,h3,h4,?_⟩
  simpa using ih
theorem GrX.len {l:List Change} {m ctx:Int}:∀{hs:List Hunk} {a k:Nat},GrX l m ctx a hs k→hs.length≤k - a
 | [],_,_,_=>Nat.zero_le _
 | _::_,a,k,⟨b,h1,_,_,_,h2⟩=>by have:=GrX.len h2;have:=h2.le;simp only [H96];omega
end Go.AL
namespace Go.AL
open Go
def u7:List Str→Int→List (Str × Cell)
 | [],_=>[]
 | s::r,i=>(s,.v (.int .i64 i))::u7 r (i+1)
theorem E38 (s:Str):∀(l:List Str) (i:Int),u7 (l++[s]) i=u7 l i++[(s,.v (.int .i64 (i+l.length)))]
 | [],i=>by simp [u7]
 | x::r,i=>by
  simp only [I33,u7,E38 s r,H96]
  rw [show i+1+(r.length:Int)=i+((r.length+1:Nat):Int) by omega]
theorem E39 (s:Str):∀(l:List Str) (i:Int),s∈l→r8 (u7 l i) s=some (.v (.int .i64 (H7 l s i)))
 | [],_,h=>by simp at h
 | x::r,i,h=>by
  simp only [u7,r8,H7]
  by_cases he:x=s
  ·rw [if_pos he,if_pos he]
  ·rw [if_neg he,if_neg he]
   exact E39 s r (i+1) ((List.mem_cons.1 h).resolve_left (fun q=>he q.symm))
theorem D56 (s:Str):∀(l:List Str) (i:Int),s∉l→r8 (u7 l i) s=none
 | [],_,_=>rfl
 | x::r,i,h=>by
  simp only [u7,r8]
  rw [if_neg (fun q=>h (by simp [q]))]
  exact D56 s r (i+1) (fun q=>h (by simp [q]))
theorem B17 (s:Str) (r:List Str):∀(l:List Str) (i:Int),s∈l→H7 (l++r) s i=H7 l s i
 | [],_,h=>by simp at h
 | x::l,i,h=>by
  simp only [I33,H7]
  by_cases he:x=s
  ·rw [if_pos he,if_pos he]
  ·rw [if_neg he,if_neg he]
   exact B17 s r l (i+1) ((List.mem_cons.1 h).resolve_left (fun q=>he q.symm))
theorem C70 (s:Str):∀(l:List Str) (i:Int),s∉l→H7 (l++[s]) s i=i+l.length
 | [],i,_=>by simp [H7]
 | x::l,i,h=>by
  simp only [I33,H7,H96]
  rw [if_neg (fun q=>h (by simp [q])),C70 s l (i+1) (fun q=>h (by simp [q]))]
  omega
theorem C11:∀(l out:List Str),∃r,l.foldl G7 out=out++r
 | [],out=>⟨[],by simp⟩
 | s::l,out=>by
  obtain ⟨r,hr⟩:=C11 l (G7 out s)
  rw [I22,hr]
  unfold G7
  split
  ·exact ⟨r,rfl⟩
  ·exact ⟨s::r,by simp⟩
def M4 (files:List (List Str)) (k j:Nat):List Str:=((files.take k).flatten++(files.getD k []).take j).foldl G7 []
theorem F72 (files:List (List Str)) (k:Nat):M4 files (k+1) 0=M4 files k (files.getD k []).length:=by
 unfold M4
 rw [List.take_zero,I14,I16]
 by_cases h:k < files.length
 ·rw [S3 files k h]
  congr 2
  simp [h]
 ·rw [I35 (by omega),I35 (by omega)]
  have:files.getD k []=[]:=by simp [show files.length≤k by omega]
  rw [this,I14]
theorem E91 (files:List (List Str)) (k j:Nat) (s:Str) (h:(files.getD k [])[j]?=some s):M4 files k (j+1)=G7 (M4 files k j) s:=by
 unfold M4
 have hj:j < (files.getD k []).length:=(List.getElem?_eq_some_iff.1 h).1
 have he:=(List.getElem?_eq_some_iff.1 h).2
 rw [I04 hj,he,←I06,I29]
 rfl
theorem F73 (files:List (List Str)):M4 files files.length 0=E1 files:=by
 unfold M4 E1
 rw [I16];simp
theorem C71 (files:List (List Str)) (k j:Nat):∃r,E1 files=M4 files k j++r:=by
 have h:∃m,files.flatten=((files.take k).flatten++(files.getD k []).take j)++m:=by
  refine ⟨(files.getD k []).drop j++(files.drop (k+1)).flatten,?_⟩
  by_cases hk:k < files.length
  ·have e:files=files.take k++files.getD k []::files.drop (k+1):=by
    have:files.getD k []=files[k]:=by simp [hk]
    rw [this,List.getElem_cons_drop,I34]
   conv=>lhs;rw [e]
   rw [I21,I11,I06]
   congr 1
   rw [←I06,I34]
  ·have:files.getD k []=[]:=by simp [show files.length≤k by omega]
   rw [this,I35 (by omega:files.length≤k),I02 (by omega:files.length≤k+1)]
   simp
 obtain ⟨m,hm⟩:=h
 unfold E1 M4
 rw [hm,I29]
 obtain ⟨r,hr⟩:=C11 m (((files.take k).flatten++(files.getD k []).take j).foldl G7 [])
 exact ⟨r,hr⟩
theorem D57 (files:List (List Str)) (k j:Nat):(M4 files k j).length≤files.flatten.length:=by
 obtain ⟨r,hr⟩:=C71 files k j
 have:=B07 files
 rw [hr,H95] at this;omega
def N8 (files:List (List Str)) (k:Nat):List TC:=(List.range files.length).map fun r=>if r < k then .p (.list Int 1 F5 (K3 (E1 files) (files.getD r []))) else .p (.v (.slice none 0 0))
theorem H22 {files:List (List Str)} {k:Nat} (h:k < files.length):(N8 files k)[k]?=some (.p (.v (.slice none 0 0))):=by
 simp [N8,h]
theorem E92 (files:List (List Str)) (k m:Nat) (_h:k < files.length):((N8 files k).set k (.buf m Int 1 F5 (K3 (E1 files) (files.getD k [])))).map (TC.forget m)=N8 files (k+1):=by
 have e1:(N8 files k).map (TC.forget m)=N8 files k:=by
  unfold N8
  rw [I32]
  apply List.map_congr_left
  intro r _
  simp only [Function.comp]
  split<;>rfl
 rw [List.map_set,e1]
 have e2:(TC.buf m Int 1 F5 (K3 (E1 files) (files.getD k []))).forget m=.p (.list Int 1 F5 (K3 (E1 files) (files.getD k []))):=by simp [TC.forget]
 rw [e2]
 unfold N8
 refine A26 _ _ _ _ _ (fun _=>by simp) (fun q hq hne=>?_)
 simp only [show (q < k+1)=(q < k) from propext ⟨fun h=>by omega,fun h=>by omega⟩]
theorem G30 (files:List (List Str)):List.replicate files.length (TC.p (.v (.slice none 0 0)))=N8 files 0:=by
 unfold N8
 simp only [Nat.not_lt_zero,if_false,List.map_const',List.length_range]
theorem G31 (files:List (List Str)):N8 files files.length=(files.map (K3 (E1 files))).map fun x=>TC.p (intsC x 0):=by
 unfold N8
 apply List.ext_getElem
 ·simp
 ·intro i h1 h2
  have hi:i < files.length:=by simpa using h1
  simp [hi,intsC]
end Go.AL
namespace Go.AL
open Go
theorem G72 (m n:Int):∀(l:List Change) (k0:Nat) (i j:Int),(∀k,k < l.length→L2 (cAt l k).Old∧L2 (cAt l k).OldLen∧L2 (cAt l k).New∧L2 (cAt l k).NewLen∧(cAt l k).OldLen+(cAt l k).NewLen≠0∧(cAt l k).Old - eoI i l k=(cAt l k).New - enI j l k∧eoI i l k≤(cAt l k).Old∧(0 < k0+k→eoI i l k < (cAt l k).Old)) →
  (m - eoI i l l.length=n - enI j l l.length∧eoI i l l.length≤m)→K2 k0 i j l m n=true
 | [],k0,i,j,_,h=>by
  have h1:m - i=n - j∧i≤m:=h
  simp only [K2,decide_eq_true_eq];omega
 | c::r,k0,i,j,h,he=>by
  simp only [K2,H99,decide_eq_true_eq]
  refine ⟨?_,G72 m n r (k0+1) _ _ (fun k hk=>?_) ?_⟩
  ·obtain ⟨h1,h2,h3,h4,h5,h6,h7,h8⟩:=h 0 (by simp)
   have h1:L2 c.Old:=h1
   have h2:L2 c.OldLen:=h2
   have h3:L2 c.New:=h3
   have h4:L2 c.NewLen:=h4
   have h5:c.OldLen+c.NewLen≠0:=h5
   have h6:c.Old - i=c.New - j:=h6
   have h7:i≤c.Old:=h7
   have h8:0 < k0+0→i < c.Old:=h8
   unfold E86
   rintro (((((((q | q) | q) | q) | q) | q) | q) | ⟨q,q2⟩)
   ·exact q h1
   ·exact q h2
   ·exact q h3
   ·exact q h4
   ·exact h5 q
   ·exact q h6
   ·omega
   ·have:=h8 (by omega);omega
  ·have:=h (k+1) (by simpa using hk)
   rw [C06,p9,q8] at this
   obtain ⟨e1,e2,e3,e4,e5,e6,e7,e8⟩:=this
   exact ⟨e1,e2,e3,e4,e5,e6,e7,fun h0=>e8 (by omega)⟩
  ·rw [H96,p9,q8] at he;exact he
theorem G73 (x y:List Str):∀(l:List Change) (i j:Int),(∀k,k < l.length→sub x (eoI i l k) (cAt l k).Old=sub y (enI j l k) (cAt l k).New)→sub x (eoI i l l.length) x.length=sub y (enI j l l.length) y.length→C38 x y i j l
 | [],_,_,_,h=>h
 | c::r,i,j,h,he=>by
  refine ⟨h 0 (by simp),G73 x y r _ _ (fun k hk=>?_) ?_⟩
  ·have:=h (k+1) (by simpa using hk)
   rw [C06,p9,q8] at this;exact this
  ·rw [H96,p9,q8] at he;exact he
theorem G74 {x:List Str} {p q:Int} {t:Nat} (h0:0≤p) (h:p+t < q):(sub x p q)[t]?=x[(p+t).toNat]?:=by
 unfold sub
 rw [List.getElem?_take,if_pos (by omega),I30]
 congr 1;omega
theorem E93 {x y:List Str} {p q p' q':Int} (h:sub x p q=sub y p' q') (h0:0≤p) (h0':0≤p') (hq:q≤x.length) (he:q - p=q' - p') {t:Nat} (ht:p+t < q):∃v,x[(p+t).toNat]?=some v∧y[(p'+t).toNat]?=some v:=by
 have h1:x[(p+t).toNat]?=some x[(p+t).toNat]:=H97 (by omega)
 refine ⟨_,h1,?_⟩
 rw [←G74 (q:=q') h0' (by omega),←h,G74 h0 ht];exact h1
theorem C72 {i j:Int} {n:Nat} {p:Span} (h:p∈M3 i j n):∃t:Nat,t < n∧p=⟨i+t,j+t⟩:=by
 unfold M3 at h
 obtain ⟨t,h1,h2⟩:=List.mem_map.1 h
 exact ⟨t,List.mem_range.1 h1,h2.symm⟩
theorem D58 {x y:List Str}:∀(l:List Change) (k0:Nat) (i j:Int),K2 k0 i j l x.length y.length=true→C38 x y i j l→0≤i→0≤j→∀p∈J0 i j l x.length,EqAt x y p
 | [],k0,i,j,hs,he,hi,hj,p,hp=>by
  simp only [K2,decide_eq_true_eq] at hs
  unfold J0 at hp
  obtain ⟨t,ht,rfl⟩:=C72 hp
  have he:sub x i x.length=sub y j y.length:=he
  exact ⟨by dsimp only;omega,by dsimp only;omega,E93 he hi hj (by omega) (by omega) (by omega)⟩
 | c::r,k0,i,j,hs,he,hi,hj,p,hp=>by
  have hok:=A01 _ _ _ _ _ _ hs
  have g:=x6 x.length y.length (c::r) k0 i j hs 0 (by simp)
  obtain ⟨g1,g2,g3,g4,g5,g6,g7,_⟩:=g
  have g1:L2 c.Old:=g1
  have g2:L2 c.OldLen:=g2
  have g3:L2 c.New:=g3
  have g4:L2 c.NewLen:=g4
  have g6:c.Old - i=c.New - j:=g6
  have g7:i≤c.Old:=g7
  simp only [K2,H99,decide_eq_true_eq] at hs
  unfold J0 at hp
  unfold L2 at g1 g2 g3 g4
  have hm:=hok.2.2.2.2.2.2.end_le
  rcases List.mem_append.1 hp with hp | hp
  ·obtain ⟨t,ht,rfl⟩:=C72 hp
   exact ⟨by dsimp only;omega,by dsimp only;omega,E93 he.1 hi hj (by omega) (by omega) (by omega)⟩
  ·rw [show max i c.Old+c.OldLen=c.Old+c.OldLen by omega,show j+((c.Old - i).toNat:Int)+c.NewLen=c.New+c.NewLen by omega] at hp
   exact D58 r (k0+1) _ _ hs.2 he.2 (by omega) (by omega) p hp
theorem ScFit.pairs {x y:List Str} {l:List Change} (h:ScFit x y l):∀p∈O2 l x.length,EqAt x y p:=D58 l 0 0 0 h.sc h.eq (Int.le_refl _) (Int.le_refl _)
def C42 (c:Change):Change:=⟨c.Old+1,c.OldLen,c.New+1,c.NewLen⟩
def A64 (l:List Change) (k:Nat):List Change:=l.set k (C42 (cAt l k))
def atI (t:List Int) (i:Int):Int:=t.getD i.toNat 0
def G75 (l:List Change) (k:Nat) (t:List Int) (f n:Int):Prop:=(f+n < t.length∧atI t f=atI t (f+n))∧(k+1=l.length∨(cAt l k).Old+(cAt l k).OldLen+1 < (cAt l (k+1)).Old)
instance (l:List Change) (k:Nat) (t:List Int) (f n:Int):Decidable (G75 l k t f n):=by unfold G75;exact inferInstance
def C93 (l:List Change) (a b:List Int) (k:Nat):Bool :=
 if (cAt l k).NewLen=0 then decide (G75 l k a (cAt l k).Old (cAt l k).OldLen) else if (cAt l k).OldLen=0 then decide (G75 l k b (cAt l k).New (cAt l k).NewLen) else false
theorem j5 (l:List Change) (k:Nat):(A64 l k).length=l.length:=by simp [A64]
theorem B32 (l:List Change) {k:Nat} (hk:k < l.length) (q:Nat):cAt (A64 l k) q=if q=k then C42 (cAt l k) else cAt l q:=by
 unfold A64
 by_cases h:q=k
 ·subst h
  have:∀z,cAt (l.set q z) q=z:=fun z=>by unfold cAt;simp [hk]
  rw [if_pos rfl,this]
 ·rw [if_neg h];unfold cAt
  simp only [I00]
  rw [List.getElem?_set_ne (Ne.symm h)]
theorem C12 (l:List Change) {k:Nat} (hk:k < l.length) (q:Nat):eoI 0 (A64 l k) q=eoI 0 l q+(if q=k+1 then 1 else 0):=by
 cases q with
 | zero=>simp [eoI]
 | succ q =>
  rw [B14,B14,B32 l hk]
  by_cases h:q=k
  ·subst h;rw [if_pos rfl,if_pos rfl];simp only [A87,C42];omega
  ·rw [if_neg h,if_neg (by omega)];omega
theorem C13 (l:List Change) {k:Nat} (hk:k < l.length) (q:Nat):enI 0 (A64 l k) q=enI 0 l q+(if q=k+1 then 1 else 0):=by
 cases q with
 | zero=>simp [enI]
 | succ q =>
  rw [B15,B15,B32 l hk]
  by_cases h:q=k
  ·subst h;rw [if_pos rfl,if_pos rfl];simp only [E88,C42];omega
  ·rw [if_neg h,if_neg (by omega)];omega
structure IdsOf (x:List Str) (a:List Int):Prop where
 len:a.length=x.length
 inj:∀(i j:Nat) (u v:Str) (z:Int),x[i]?=some u→x[j]?=some v→a[i]?=some z→a[j]?=some z→u=v
theorem ScFit.down {x y:List Str} {l:List Change} {a b:List Int} (h:ScFit x y l) (ha:IdsOf x a) (hb:IdsOf y b) {k:Nat} (hk:k < l.length) (hd:C93 l a b k=true):ScFit x y (A64 l k):=by
 have hlx:=h.lx
 have hly:=h.ly
 have hg:=x6 _ _ _ 0 0 0 h.sc
 have hge:=G26 _ _ _ 0 0 0 h.sc
 have hq:=E89 _ _ _ _ _ h.eq
 have hqe:=G27 _ _ _ _ _ h.eq
 have hok:=h.ok
 obtain ⟨c,hc⟩:∃c,c=cAt l k:=⟨_,rfl⟩
 obtain ⟨g1,g2,g3,g4,g5,g6,g7,g8⟩:=hg k hk
 have hb4:=hok.get k hk
 rw [←hc] at g1 g2 g3 g4 g5 g6 g7 g8 hb4
 unfold L2 at g1 g2 g3 g4
 have eo1:eoI 0 l (k+1)=c.Old+c.OldLen:=by rw [B14,←hc];rfl
 have en1:enI 0 l (k+1)=c.New+c.NewLen:=by rw [B15,←hc];rfl
 obtain ⟨E,E',hE1,hE2,hE3,hE4,hE5,hEn⟩:∃E E':Int,sub x (c.Old+c.OldLen) E=sub y (c.New+c.NewLen) E'∧E - (c.Old+c.OldLen)=E' - (c.New+c.NewLen)∧E≤x.length∧E'≤y.length∧(c.Old+c.OldLen < E)∧(k+1 < l.length→E=(cAt l (k+1)).Old∧E'=(cAt l (k+1)).New∧c.Old+c.OldLen+1 < E):=by
  by_cases hl:k+1=l.length
  ·rw [←hl,eo1,en1] at hge hqe
   refine ⟨x.length,y.length,hqe,by omega,by omega,by omega,?_,fun q=>absurd hl (by omega)⟩
   unfold C93 at hd
   rw [←hc] at hd
   split at hd
   ·have:=(A0 hd).1.1;rw [ha.len] at this;omega
   ·split at hd
    ·have:=(A0 hd).1.1;rw [hb.len] at this;omega
    ·cases hd
  ·have hl:k+1 < l.length:=by omega
   obtain ⟨f1,f2,f3,f4,f5,f6,f7,f8⟩:=hg (k+1) hl
   have f9:=hq (k+1) hl
   have f10:=hok.get (k+1) hl
   rw [eo1,en1] at f6 f9
   rw [eo1] at f7
   unfold L2 at f2 f4
   have hroom:c.Old+c.OldLen+1 < (cAt l (k+1)).Old:=by
    unfold C93 at hd
    rw [←hc] at hd
    split at hd
    ·have:=(A0 hd).2;rw [←hc] at this;omega
    ·split at hd
     ·have:=(A0 hd).2;rw [←hc] at this;omega
     ·cases hd
   exact ⟨_,_,f9,by omega,by omega,by omega,by omega,fun _=>⟨rfl,rfl,hroom⟩⟩
 have hv:∃v,x[c.Old.toNat]?=some v∧y[c.New.toNat]?=some v:=by
  obtain ⟨v,v1,v2⟩:=E93 (t:=0) hE1 (by omega) (by omega) (by omega) hE2 (by omega)
  simp only [Int.natCast_zero,Int.add_zero] at v1 v2
  unfold C93 at hd
  rw [←hc] at hd
  split at hd
  ·rename_i hn
   have:=(A0 hd).1.2
   rw [hn,Int.add_zero] at v2
   refine ⟨v,?_,v2⟩
   have l1:c.Old.toNat < a.length:=by rw [ha.len];omega
   have l2:(c.Old+c.OldLen).toNat < a.length:=by rw [ha.len];omega
   have hx:x[c.Old.toNat]?=some x[c.Old.toNat]:=H97 (by omega)
   have ea:a[c.Old.toNat]?=some (atI a c.Old):=by unfold atI;rw [I00,H97 l1];rfl
   have eb:a[(c.Old+c.OldLen).toNat]?=some (atI a (c.Old+c.OldLen)):=by unfold atI;rw [I00,H97 l2];rfl
   rw [←this] at eb
   have:=ha.inj _ _ _ _ _ hx v1 ea eb
   rw [hx,this]
  ·split at hd
   ·rename_i _ hn
    have:=(A0 hd).1.2
    rw [hn,Int.add_zero] at v1
    refine ⟨v,v1,?_⟩
    have l1:c.New.toNat < b.length:=by rw [hb.len];omega
    have l2:(c.New+c.NewLen).toNat < b.length:=by rw [hb.len];omega
    have hx:y[c.New.toNat]?=some y[c.New.toNat]:=H97 (by omega)
    have ea:b[c.New.toNat]?=some (atI b c.New):=by unfold atI;rw [I00,H97 l1];rfl
    have eb:b[(c.New+c.NewLen).toNat]?=some (atI b (c.New+c.NewLen)):=by unfold atI;rw [I00,H97 l2];rfl
    rw [←this] at eb
    have:=hb.inj _ _ _ _ _ hx v2 ea eb
    rw [hx,this]
   ·cases hd
 obtain ⟨v,v1,v2⟩:=hv
 have hen0:0≤eoI 0 l k∧0≤enI 0 l k:=by
  cases k with
  | zero=>simp [eoI,enI]
  | succ k =>
   obtain ⟨f1,f2,f3,f4,_⟩:=hg k (by omega)
   unfold L2 at f1 f2 f3 f4
   rw [B14,B15];unfold A87 E88;omega
 have htail:sub x (c.Old+c.OldLen+1) E=sub y (c.New+c.NewLen+1) E':=by
  have:=D47 (e:=E - (c.Old+c.OldLen) - 1) hE1 (by omega) (by omega) (by omega) (by omega) hE2
  rw [show E - (E - (c.Old+c.OldLen) - 1)=c.Old+c.OldLen+1 by omega,show E' - (E - (c.Old+c.OldLen) - 1)=c.New+c.NewLen+1 by omega] at this
  exact this
 refine ⟨hlx,hly,G72 _ _ _ 0 0 0 (fun q hql=>?_) ?_,G73 _ _ _ 0 0 (fun q hql=>?_) ?_⟩
 ·rw [j5] at hql
  rw [B32 l hk,C12 l hk,C13 l hk]
  by_cases e:q=k
  ·rw [if_pos e,if_neg (show ¬q=k+1 by omega),e,←hc]
   unfold L2
   simp only [C42]
   refine ⟨by omega,g2,by omega,g4,g5,by omega,by omega,fun _=>by omega⟩
  ·rw [if_neg e]
   obtain ⟨f1,f2,f3,f4,f5,f6,f7,f8⟩:=hg q hql
   refine ⟨f1,f2,f3,f4,f5,?_,?_,?_⟩
   ·by_cases e2:q=k+1
    ·rw [if_pos e2];omega
    ·rw [if_neg e2];omega
   ·by_cases e2:q=k+1
    ·rw [if_pos e2];have:=f8 (by omega);omega
    ·rw [if_neg e2];omega
   ·intro h0
    by_cases e2:q=k+1
    ·rw [if_pos e2,e2,eo1]
     have:=(hEn (by omega))
     omega
    ·rw [if_neg e2];have:=f8 h0;omega
 ·rw [j5,C12 l hk,C13 l hk]
  by_cases e2:l.length=k+1
  ·rw [if_pos e2,e2,eo1,en1]
   rw [e2,eo1,en1] at hge
   have h1:E≤x.length:=hE3
   omega
  ·rw [if_neg e2];omega
 ·rw [j5] at hql
  rw [B32 l hk,C12 l hk,C13 l hk]
  by_cases e:q=k
  ·rw [if_pos e,if_neg (show ¬q=k+1 by omega),e,←hc]
   simp only [C42,Int.add_zero]
   have:=hq k hk
   rw [←hc] at this
   rw [F65 hen0.1 g7 v1,F65 hen0.2 (by omega) v2,this]
  ·rw [if_neg e]
   by_cases e2:q=k+1
   ·rw [if_pos e2]
    subst e2
    obtain ⟨q1,q2,_⟩:=hEn hql
    rw [eo1,en1,←q1,←q2];exact htail
   ·rw [if_neg e2,Int.add_zero,Int.add_zero]
    exact hq q hql
 ·rw [j5,C12 l hk,C13 l hk]
  by_cases e2:l.length=k+1
  ·rw [if_pos e2]
   rw [e2,eo1,en1] at hqe hge ⊢
   have:=D47 (e:=x.length - (c.Old+c.OldLen) - 1) hqe (by omega) (by omega) (by omega) (by omega) (by omega)
   rw [show (x.length:Int) - (x.length - (c.Old+c.OldLen) - 1)=c.Old+c.OldLen+1 by omega,show (y.length:Int) - (x.length - (c.Old+c.OldLen) - 1)=c.New+c.NewLen+1 by omega] at this
   exact this
  ·rw [if_neg e2,Int.add_zero,Int.add_zero];exact hqe
section
variable {x y:List Str} {a b:List Int} (ha:IdsOf x a) (hb:IdsOf y b)
include ha hb
omit ha hb in
omit ha hb in
end
end Go.AL
namespace Go.AL
open Go
structure Made12 (on nn a b:Str) (l:List Change) (ctx:Int):Prop where
 chk:C05 ⟨on,nn,Z0 l (C4 a) (C4 b) ctx⟩=0
 wr:(G67 ⟨on,nn,Z0 l (C4 a) (C4 b) ctx⟩).length≤16777216
 fit:PFit ⟨on,nn,Z0 l (C4 a) (C4 b) ctx⟩
 rg:∀h∈Z0 l (C4 a) (C4 b) ctx,(-4611686018427387904≤h.Old∧h.Old≤4611686018427387904)∧(-4611686018427387904≤h.New∧h.New≤4611686018427387904)
 sz:szP (Z0 l (C4 a) (C4 b) ctx)≤268435456
end Go.AL
namespace Go.AL
open Go
section
variable {x y:List Str} {l:List Change}
end
end Go.AL
namespace Go.AL
open Go
end Go.AL
namespace Go.AL
open Go
end Go.AL
namespace Go.AL
open Go
theorem check12_good {p:Patch} (h:C05 p=0):C37 p.Hunks=true:=by
 unfold C05 at h
 split at h
 ·cases h
 ·split at h
  ·cases h
  ·rename_i h1;simpa using h1
end Go.AL
namespace Go.AL
open Go
structure CHunk where
 At:List Int
 Rows:List Row
 deriving DecidableEq
structure Comb where
 Path:Str
 Dense:Bool
 Parents:Int
 Hunks:List CHunk
 deriving DecidableEq
def M6:CHunk→Nat→Cell:=fun h j=>match j with
 | 0=>.list Int 1 F5 h.At
 | _=>.list Row 3 rowC h.Rows
abbrev A65 (h:CHunk):PV:=.agg [.list Int 1 F5 h.At,.list Row 3 rowC h.Rows]
abbrev R2 (c:Comb):PV:=.agg [.v (.string ⟨c.Path.toArray⟩),.v (.bool c.Dense),.v (.int .i64 c.Parents),.list CHunk 2 M6 c.Hunks]
def comb0:Comb:=⟨[],false,0,[]⟩
def Q6 (n k:Nat):Int:=if k=n then -1 else k
def L7 (rows:List Row) (n k:Nat):Int:=(O1 rows (Q6 n k)).length
def H9 (rows:List Row) (n:Nat):List Int:=(List.range (n+1)).map (L7 rows n)
def atS (n:Nat):Str:=List.replicate n 64
def E94 (n k:Nat):UInt8:=if k=n then 43 else 45
def C73 (n:Nat) (h:CHunk) (k:Nat):Str:=[32,E94 n k]++N5 (h.At.getD k 0) (L7 h.Rows n k)
def T3 (n:Nat) (h:CHunk) (k:Nat):Str:=((List.range k).map (C73 n h)).flatten
def A80 (n:Nat) (h:CHunk):Str:=atS (n+1)++T3 n h (n+1)++[32]++atS (n+1)
def A81 (r:Row) (p:Nat):UInt8:=if A28 r.Marks p=false then 32 else if r.Lost then 45 else 43
def Z6 (n:Nat) (r:Row):Str:=(List.range n).map (A81 r)
def T6 (n:Nat) (r:Row):List Str:=if ended r.Text=true then [Z6 n r++r.Text] else [Z6 n r++r.Text,markS]
def P1 (n:Nat) (h:CHunk):List Str:=(A80 n h++[10])::(h.Rows.map (T6 n)).flatten
def ccS:Str:=[100,105,102,102,32,45,45,99,99,32]
def combS:Str:=[100,105,102,102,32,45,45,99,111,109,98,105,110,101,100,32]
def parS:Str:=[112,97,114,101,110,116,115,32]
def A82 (d:Bool):Str:=if d=true then ccS else combS
def G32 (c:Comb):List Str:=(A82 c.Dense++X1 c.Path++[10])::(parS++Y5 c.Parents++[10])::(c.Hunks.map (P1 c.Parents.toNat)).flatten
def A16 (c:Comb):Str:=(G32 c).flatten
def A17 (n:Nat) (ends:List Int) (h:CHunk):Bool:=decide (h.At.length=n+1∧h.Rows≠[])&&(List.range (n+1)).all fun k=>decide ((ends.getD k 0≤h.At.getD k 0∧h.At.getD k 0≤4096)∧h.At.getD k 0+L7 h.Rows n k≤4096)
def T4 (n:Nat) (h:CHunk):List Int:=(List.range (n+1)).map fun k=>h.At.getD k 0+L7 h.Rows n k
def U5 (n:Nat) (ends:List Int):List CHunk→Bool
 | []=>true
 | h::r=>A17 n ends h&&U5 n (T4 n h) r
def J8 (hs:List CHunk):List Row:=(hs.map (·.Rows)).flatten
def P7 (n:Nat) (hs:List CHunk):Bool:=U5 n (List.replicate (n+1) 0) hs&&j3 (J8 hs) n
def V2 (n:Nat) (hs:List CHunk):Bool:=hs.all fun h=>L6 h.Rows n
def I5 (c:Comb):Int:=if S7 c.Path=false then 120 else if c.Parents < 1∨32 < c.Parents then 2 else if V2 c.Parents.toNat c.Hunks=false then 180 else if P7 c.Parents.toNat c.Hunks=false then 121 else if 16777216 < (A16 c).length then 1 else 0
theorem E95 {n:Nat} {r:Row} (h:X9 n r=true):0≤r.Marks∧r.Marks < 2 ^ n∧(r.Lost=true→r.Marks≠0):=by
 unfold X9 at h
 simp only [H99,beq_iff_eq,Bool.not_eq_true',Bool.and_eq_false_iff,beq_eq_false_iff_ne] at h
 obtain ⟨h1,h2⟩:=h
 have hp:(0:Int) < 2 ^ n:=Int.pow_pos (by decide)
 have h3:=Int.emod_add_mul_ediv r.Marks (2 ^ n)
 have h4:=Int.emod_nonneg r.Marks (Int.ne_of_gt hp)
 have h5:=Int.emod_lt_of_pos r.Marks hp
 rw [h1,Int.mul_zero,Int.add_zero] at h3
 rw [h3] at h4 h5
 refine ⟨h4,h5,fun hl=>?_⟩
 rcases h2 with h2 | h2
 ·rw [hl] at h2;cases h2
 ·exact h2
theorem pow32 {n:Nat} (h:n≤32):(2:Int) ^ n≤4294967296:=by
 have h1:(2:Nat) ^ n≤2 ^ 32:=Nat.pow_le_pow_right (by omega) h
 have h2:((2 ^ n:Nat):Int)=2 ^ n:=by simp
 have h3:(2:Nat) ^ 32=4294967296:=rfl
 omega
theorem H58 {n:Nat} (hn:n≤32) {rows:List Row} (h:L6 rows n=true):I7 rows:=by
 intro r hr
 have h1:=E95 (List.all_eq_true.1 h r hr)
 have:=pow32 hn
 omega
def W5 (n:Nat) (ends:List Int) (h:CHunk):Bool:=decide (h.At.length=n+1∧h.Rows≠[])&&(List.range (n+1)).all fun k=>decide (ends.getD k 0≤h.At.getD k 0∧h.At.getD k 0≤4096)
def j6 (res:Bool) (rows:List Row):Bool:=rows.foldl B12 res
def j7 (par:Int) (rows:List Row):Int:=rows.foldl B13 par
def j8 (n:Nat) (ends:List Int) (res:Bool) (par:Int):List CHunk→Bool
 | []=>decide (∀e∈ends,e≤4096)
 | h::r=>W5 n ends h&&(Q0 res par h.Rows&&j8 n (T4 n h) (j6 res h.Rows) (j7 par h.Rows) r)
theorem D59:∀(a b:List Row) (res:Bool) (par:Int),Q0 res par (a++b)=(Q0 res par a&&Q0 (j6 res a) (j7 par a) b)
 | [],b,res,par=>by simp [Q0,j6,j7]
 | x::a,b,res,par=>by
  rw [I33,Q0,Q0,D59 a b]
  simp only [j6,j7,I22,Bool.and_assoc]
theorem B18 (f:Nat→Int) (n k:Nat) (h:k < n):((List.range n).map f).getD k 0=f k:=by
 rw [I00,I20,I23 h];rfl
theorem D60 {n:Nat} {ends:List Int} (hl:ends.length=n+1):(∀e∈ends,e≤4096)↔∀k,k < n+1→ends.getD k 0≤4096:=by
 constructor
 ·intro h k hk
  rw [I00,H97 (by omega)]
  exact h _ (I07 _)
 ·intro h e he
  obtain ⟨k,hk,rfl⟩:=List.getElem_of_mem he
  have:=h k (by omega)
  rwa [I00,H97 hk] at this
theorem A66 (n:Nat) (h:CHunk):(T4 n h).length=n+1:=by unfold T4;simp
theorem C74 (n:Nat):∀(hs:List CHunk) (ends:List Int) (res:Bool) (par:Int),ends.length=n+1 →
  j8 n ends res par hs=(decide (∀e∈ends,e≤4096)&&U5 n ends hs&&Q0 res par (J8 hs))
 | [],ends,res,par,_=>by simp [j8,U5,J8,Q0]
 | h::r,ends,res,par,hl=>by
  have ih:=C74 n r (T4 n h) (j6 res h.Rows) (j7 par h.Rows) (A66 n h)
  have e1:J8 (h::r)=h.Rows++J8 r:=by simp [J8]
  rw [j8,ih,U5,e1,D59]
  have e2:(W5 n ends h&&decide (∀e∈T4 n h,e≤4096))=(decide (∀e∈ends,e≤4096)&&A17 n ends h):=by
   rw [Bool.eq_iff_iff]
   unfold W5 A17
   simp only [H99,decide_eq_true_eq,List.all_eq_true,List.mem_range]
   rw [D60 hl,D60 (A66 n h)]
   have e3:∀k,k < n+1→(T4 n h).getD k 0=h.At.getD k 0+L7 h.Rows n k:=fun k hk=>B18 _ _ _ hk
   constructor
   ·rintro ⟨⟨h1,h2⟩,h3⟩
    exact ⟨fun k hk=>by have:=h2 k hk;omega,h1,fun k hk=>⟨h2 k hk,by have:=h3 k hk;rwa [e3 k hk] at this⟩⟩
   ·rintro ⟨_,h2,h3⟩
    exact ⟨⟨h2,fun k hk=>(h3 k hk).1⟩,fun k hk=>by rw [e3 k hk];exact (h3 k hk).2⟩
  generalize W5 n ends h=A at e2 ⊢
  generalize decide (∀e∈T4 n h,e≤4096)=B at e2 ⊢
  generalize decide (∀e∈ends,e≤4096)=C at e2 ⊢
  generalize A17 n ends h=D at e2 ⊢
  generalize Q0 res par h.Rows=E
  generalize U5 n (T4 n h) r=F
  generalize Q0 (j6 res h.Rows) (j7 par h.Rows) (J8 r)=G
  cases A<;>cases B<;>cases C<;>cases D<;>first | (cases e2;done) | (cases E<;>cases F<;>cases G<;>rfl)
theorem E40 {n:Nat} {hs:List CHunk} (h:V2 n hs=true):L6 (J8 hs) n=true:=by
 unfold L6 J8
 rw [List.all_eq_true]
 intro r hr
 obtain ⟨l,h1,h2⟩:=List.mem_flatten.1 hr
 obtain ⟨x,hx,rfl⟩:=List.mem_map.1 h1
 exact List.all_eq_true.1 (List.all_eq_true.1 h x hx) r h2
theorem F74 {n:Nat} (hn:n≤32) {hs:List CHunk} (h:V2 n hs=true):j8 n (List.replicate (n+1) 0) false 0 hs=P7 n hs:=by
 rw [C74 n hs _ _ _ (List.length_replicate ..),D45 _ n hn (E40 h) (H58 hn (E40 h))]
 have:∀L:List Int,(∀e∈L,e≤4096)→decide (∀e∈L,e≤4096)=true:=fun L h=>decide_eq_true h
 rw [this _ (fun e he=>by have:=(List.mem_replicate.1 he).2;omega)];rfl
theorem C43 {n:Nat}:∀(hs:List CHunk) (ends:List Int),(∀k,k < n+1→0≤ends.getD k 0)→U5 n ends hs=true→∀h∈hs,h.At.length=n+1∧h.Rows≠[]∧∀k,k < n+1→0≤h.At.getD k 0∧h.At.getD k 0+L7 h.Rows n k≤4096
 | [],_,_,_,h,hm=>by cases hm
 | x::r,ends,he,hg,h,hm=>by
  rw [U5,H99] at hg
  obtain ⟨h1,h2⟩:=hg
  unfold A17 at h1
  simp only [H99,decide_eq_true_eq,List.all_eq_true,List.mem_range] at h1
  obtain ⟨⟨h3,h4⟩,h5⟩:=h1
  have hx:∀k,k < n+1→0≤x.At.getD k 0∧x.At.getD k 0+L7 x.Rows n k≤4096:=fun k hk=>by have:=h5 k hk;have:=he k hk;omega
  rcases List.mem_cons.1 hm with rfl | hm
  ·exact ⟨h3,h4,hx⟩
  ·refine C43 r _ (fun k hk=>?_) h2 h hm
   rw [show (T4 n x).getD k 0=x.At.getD k 0+L7 x.Rows n k from B18 _ _ _ hk]
   have:=hx k hk
   have:0≤L7 x.Rows n k:=by unfold L7;omega
   omega
structure CRead (n:Nat) (h:CHunk):Prop where
 len:h.At.length=n+1
 ne:h.Rows≠[]
 at0:∀k,k < n+1→0≤h.At.getD k 0∧h.At.getD k 0+L7 h.Rows n k≤4096
 rows:∀r∈h.Rows,X9 n r=true∧J3 r.Text=true
theorem G33 {c:Comb} (h:I5 c=0):(1≤c.Parents.toNat∧c.Parents.toNat≤32)∧c.Parents=(c.Parents.toNat:Int)∧(∀x∈c.Hunks,CRead c.Parents.toNat x)∧(A16 c).length≤16777216∧S7 c.Path=true:=by
 unfold I5 at h
 split at h
 ·cases h
 ·rename_i h0
  split at h
  ·cases h
  ·rename_i h1
   split at h
   ·cases h
   ·rename_i h2
    split at h
    ·cases h
    ·rename_i h3
     split at h
     ·cases h
     ·rename_i h4
      refine ⟨by omega,by omega,?_,by omega,by simpa using h0⟩
      intro x hx
      have h2:V2 c.Parents.toNat c.Hunks=true:=by simpa using h2
      have h3:P7 c.Parents.toNat c.Hunks=true:=by simpa using h3
      unfold P7 at h3
      rw [H99] at h3
      obtain ⟨a1,a2,a3⟩:=C43 c.Hunks _ (fun k hk=>by rw [I00,List.getElem?_replicate_of_lt hk];exact Int.le_refl _) h3.1 x hx
      refine ⟨a1,a2,a3,fun r hr=>⟨List.all_eq_true.1 (List.all_eq_true.1 h2 x hx) r hr,?_⟩⟩
      have h5:=h3.2
      unfold j3 at h5
      rw [H99] at h5
      exact List.all_eq_true.1 h5.1 r (List.mem_flatten.2 ⟨x.Rows,List.mem_map.2 ⟨x,hx,rfl⟩,hr⟩)
theorem A30 (n:Nat) (r:Row):(Z6 n r).length=n:=by simp [Z6]
theorem C94 (n:Nat):(atS n).length=n:=by simp [atS]
end Go.AL
namespace Go.AL
open Go
end Go.AL
namespace Go.AL
open Go
def Q7 (r:Row):Nat:=r.Text.length+96
def A88 (h:CHunk):Nat:=2048+h.At.length+(h.Rows.map Q7).sum
def szC (hs:List CHunk):Nat:=(hs.map A88).sum
theorem R7 (rows:List Row):rows.length*96≤(rows.map Q7).sum:=by
 induction rows with
 | nil=>simp
 | cons x r ih=>simp only [I05,I27,H96,Q7] at ih ⊢;omega
theorem A67 (rows:List Row):P6 rows≤(rows.map Q7).sum:=by
 unfold P6
 induction rows with
 | nil=>simp
 | cons x r ih=>simp only [I05,I11,H95,I27,Q7] at ih ⊢;omega
theorem C44 {rows:List Row} {r:Row} (h:r∈rows):Q7 r≤(rows.map Q7).sum:=by
 induction rows with
 | nil=>cases h
 | cons x l ih =>
  simp only [I05,I27]
  rcases List.mem_cons.1 h with rfl | h
  ·omega
  ·have:=ih h;omega
theorem A68 {hs:List CHunk} {h:CHunk} (hm:h∈hs):A88 h≤szC hs:=by
 unfold szC
 induction hs with
 | nil=>cases hm
 | cons x l ih =>
  simp only [I05,I27]
  rcases List.mem_cons.1 hm with rfl | hm
  ·omega
  ·have:=ih hm;omega
theorem A04 (hs:List CHunk):hs.length*2048≤szC hs:=by
 unfold szC
 induction hs with
 | nil=>simp
 | cons x l ih =>
  have h2:2048≤A88 x:=by unfold A88;exact Nat.le_trans (Nat.le_add_right _ _) (Nat.le_add_right _ _)
  rw [I05,I27,H96,I18,Nat.one_mul,Nat.add_comm]
  exact Nat.add_le_add h2 ih
theorem D61 (rows:List Row) (k:Nat):((rows.take k).map Q7).sum≤(rows.map Q7).sum:=by
 conv=>rhs;rw [←I34 k rows,I09,I41]
 omega
theorem D62 (hs:List CHunk) (k:Nat):szC (hs.take k)≤szC hs:=by
 unfold szC
 conv=>rhs;rw [←I34 k hs,I09,I41]
 omega
theorem D63 {l:List Int} {i:Nat} (h:i < l.length):l[i]?=some (l.getD i 0):=by simp [h]
theorem B68 (rows:List Row) (n k:Nat):0≤L7 rows n k∧L7 rows n k≤rows.length:=by
 have:=B28 rows (Q6 n k)
 unfold L7;omega
theorem H59 (rows:List Row) (n k i:Nat) (h:i < rows.length):L7 (rows.take (i+1)) n k=L7 (rows.take i) n k+if Z4 rows[i] (Q6 n k)=true then 1 else 0:=by
 unfold L7 O1
 rw [I04 h,List.filter_append,I09,H95]
 by_cases hv:Z4 rows[i] (Q6 n k)=true<;>simp [hv]
def j9 (rows:List Row) (n i p:Nat):List Int:=(List.range (n+1)).map fun k=>L7 (rows.take (if k < p then i+1 else i)) n k
theorem H23 (rows:List Row) (n i p:Nat):(j9 rows n i p).length=n+1:=by unfold j9;simp
theorem G34 (rows:List Row) (n:Nat):j9 rows n 0 0=List.replicate (n+1) 0:=by
 unfold j9
 refine List.ext_getElem (by simp) fun k h1 h2=>?_
 simp [L7,O1]
theorem H24 (rows:List Row) (n i p:Nat) (hp:p≤n):(j9 rows n i p)[p]?=some (L7 (rows.take i) n p):=by
 unfold j9
 rw [I20,I23 (by omega)];simp
theorem B69 (f:Nat→Int) (n p:Nat) (v:Int):((List.range n).map f).set p v=(List.range n).map (fun k=>if k=p then v else f k):=by
 refine List.ext_getElem (by simp) fun k h1 h2=>?_
 rw [List.getElem_set,List.getElem_map,List.getElem_map,List.getElem_range]
 by_cases e:p=k
 ·rw [if_pos e,if_pos e.symm]
 ·rw [if_neg e,if_neg (fun h=>e h.symm)]
theorem G35 (rows:List Row) (n i p:Nat) (hi:i < rows.length) (hp:p≤n):j9 rows n i (p+1)=if Z4 rows[i] (Q6 n p)=true then (j9 rows n i p).set p (L7 (rows.take i) n p+1) else j9 rows n i p:=by
 have hs:=H59 rows n p i hi
 by_cases hv:Z4 rows[i] (Q6 n p)=true
 ·rw [if_pos hv] at hs ⊢
  unfold j9
  rw [B69]
  refine List.map_congr_left fun k hk=>?_
  by_cases e:k=p
  ·subst e;rw [if_pos rfl,if_pos (by omega),hs]
  ·rw [if_neg e]
   by_cases h3:k < p
   ·rw [if_pos (by omega),if_pos h3]
   ·rw [if_neg (by omega),if_neg h3]
 ·rw [if_neg hv] at hs ⊢
  unfold j9
  refine List.map_congr_left fun k hk=>?_
  by_cases e:k=p
  ·subst e;rw [if_pos (by omega),if_neg (by omega),hs];omega
  ·by_cases h3:k < p
   ·rw [if_pos (by omega),if_pos h3]
   ·rw [if_neg (by omega),if_neg h3]
theorem G36 (rows:List Row) (n i:Nat):j9 rows n i (n+1)=j9 rows n (i+1) 0:=by
 unfold j9
 refine List.map_congr_left fun k hk=>?_
 rw [if_pos (List.mem_range.1 hk),if_neg (by omega)]
theorem G37 (rows:List Row) (n:Nat):j9 rows n rows.length 0=H9 rows n:=by
 unfold j9 H9
 refine List.map_congr_left fun k hk=>?_
 rw [if_neg (by omega),I16]
theorem G38 (rows:List Row) (n:Nat):(H9 rows n).length=n+1:=by unfold H9;simp
theorem G39 (rows:List Row) (n k:Nat) (h:k < n+1):(H9 rows n)[k]?=some (L7 rows n k):=by
 unfold H9
 rw [I20,I23 h];rfl
def s8 (n:Nat) (h:CHunk) (k:Nat):List Int:=(List.range (n+1)).map fun j=>if j < k then h.At.getD j 0+L7 h.Rows n j else L7 h.Rows n j
theorem G40 (n:Nat) (h:CHunk) (k:Nat):(s8 n h k).length=n+1:=by unfold s8;simp
theorem F75 (n:Nat) (h:CHunk):s8 n h 0=H9 h.Rows n:=by
 unfold s8 H9
 refine List.map_congr_left fun k hk=>?_
 rw [if_neg (by omega)]
theorem G41 (n:Nat) (h:CHunk) (k:Nat) (hk:k < n+1):(s8 n h k)[k]?=some (L7 h.Rows n k):=by
 unfold s8
 rw [I20,I23 hk];simp
theorem G42 (n:Nat) (h:CHunk) (k:Nat):(s8 n h k).set k (L7 h.Rows n k+h.At.getD k 0)=s8 n h (k+1):=by
 unfold s8
 rw [B69]
 refine List.map_congr_left fun j hj=>?_
 by_cases e:j=k
 ·subst e;rw [if_pos rfl,if_pos (by omega)];omega
 ·rw [if_neg e]
  by_cases h3:j < k
  ·rw [if_pos h3,if_pos (by omega)]
  ·rw [if_neg h3,if_neg (by omega)]
theorem F76 (n:Nat) (h:CHunk):s8 n h (n+1)=T4 n h:=by
 unfold s8 T4
 refine List.map_congr_left fun k hk=>?_
 rw [if_pos (List.mem_range.1 hk)]
theorem C75 (n:Nat) (ends:List Int) (h:CHunk):W5 n ends h=true↔(h.At.length=n+1∧h.Rows≠[])∧∀k,k < n+1→ends.getD k 0≤h.At.getD k 0∧h.At.getD k 0≤4096:=by
 unfold W5
 simp only [H99,decide_eq_true_eq,List.all_eq_true,List.mem_range]
theorem H25 (n:Nat) (h:CHunk) (k:Nat):(C73 n h k).length≤26:=by
 have:=A00 (h.At.getD k 0) (L7 h.Rows n k)
 unfold C73;simp only [H95,H96,H98];omega
theorem A05 (n:Nat) (h:CHunk) (k:Nat):T3 n h (k+1)=T3 n h k++C73 n h k:=by
 unfold T3
 rw [I31,I09,I21];simp
theorem A69 (n:Nat) (h:CHunk):∀k,(T3 n h k).length≤26*k
 | 0=>by simp [T3]
 | k+1=>by
  have:=A69 n h k
  have:=H25 n h k
  rw [A05,H95];omega
theorem B33 {n:Nat} (hn:n≤32) (h:CHunk):(A80 n h).length≤925:=by
 have:=A69 n h (n+1)
 unfold A80
 simp only [H95,C94,H96,H98];omega
theorem E41 {n:Nat} (hn:n≤32) (r:Row):(T6 n r).flatten.length≤Q7 r:=by
 have hm:markS.length=29:=rfl
 unfold T6 Q7
 split<;>simp only [I11,I39,H95,A30,H98]<;>omega
theorem D64 {n:Nat} (hn:n≤32) (rs:List Row):((rs.map (T6 n)).flatten).flatten.length≤(rs.map Q7).sum:=by
 induction rs with
 | nil=>simp
 | cons x r ih =>
  have:=E41 hn x
  simp only [I05,I11,I21,H95,I27];omega
theorem F77 {n:Nat} (hn:n≤32) (h:CHunk):(P1 n h).flatten.length≤A88 h:=by
 have h1:=B33 hn h
 have h2:=D64 hn h.Rows
 unfold P1 A88
 simp only [I11,H95,H96,H98];omega
theorem E96 {n:Nat} (hn:n≤32) (hs:List CHunk):((hs.map (P1 n)).flatten).flatten.length≤szC hs:=by
 unfold szC
 induction hs with
 | nil=>simp
 | cons x r ih =>
  have:=F77 hn x
  simp only [I05,I11,I21,H95,I27];omega
def A70 (c:Comb):Str:=A82 c.Dense++X1 c.Path++[10]++(parS++Y5 c.Parents++[10])
def cTo (c:Comb) (k:Nat):Str:=A70 c++(((c.Hunks.take k).map (P1 c.Parents.toNat)).flatten).flatten
theorem D65 (c:Comb):cTo c 0=A70 c:=by simp [cTo]
theorem F78 (c:Comb) (k:Nat) (h:k < c.Hunks.length):cTo c (k+1)=cTo c k++(P1 c.Parents.toNat c.Hunks[k]).flatten:=by
 unfold cTo
 rw [I04 h];simp only [I09,I05,I25,I21,I11,I39,I14,I06]
theorem D66 (c:Comb):cTo c c.Hunks.length=A16 c:=by
 unfold cTo A70 A16 G32
 rw [I16];simp
def rTo (n:Nat) (rs:List Row) (k:Nat):Str:=(((rs.take k).map (T6 n)).flatten).flatten
theorem F79 (n:Nat) (rs:List Row):rTo n rs 0=[]:=by simp [rTo]
theorem F80 (n:Nat) (rs:List Row) (k:Nat) (h:k < rs.length):rTo n rs (k+1)=rTo n rs k++(T6 n rs[k]).flatten:=by
 unfold rTo
 rw [I04 h];simp only [I09,I05,I25,I21,I11,I39,I14,I06]
theorem G76 {n:Nat} (hn:n≤32) (rs:List Row) (k:Nat):(rTo n rs k).length≤(rs.map Q7).sum:=by
 have:=D64 hn (rs.take k)
 have:=D61 rs k
 unfold rTo;omega
theorem E42 (n:Nat) (h:CHunk):(P1 n h).flatten=A80 n h++[10]++rTo n h.Rows h.Rows.length:=by
 unfold P1 rTo
 rw [I16];simp
theorem B70 (p:Str):(X1 p).length≤4*p.length+2:=F58 p
theorem E97 (n:Int):(Y5 n).length≤10:=T0 n
theorem G43 (c:Comb):(A70 c).length≤4*c.Path.length+48:=by
 have h1:=B70 c.Path
 have h2:=E97 c.Parents
 have h3:(A82 c.Dense).length≤16:=by cases c.Dense<;>decide
 have h4:parS.length=8:=rfl
 unfold A70
 simp only [H95,H96,H98];omega
theorem E98 (c:Comb) (hn:c.Parents.toNat≤32) (k:Nat):(cTo c k).length≤4*c.Path.length+48+szC c.Hunks:=by
 have h1:=G43 c
 have h2:=E96 hn (c.Hunks.take k)
 have h3:=D62 c.Hunks k
 unfold cTo
 rw [H95];omega
theorem C76 (n:Nat) (r:Row):Z6 (n+1) r=Z6 n r++[A81 r n]:=by
 unfold Z6
 rw [I31,I09];rfl
theorem D67 (n:Nat) (r:Row):(T6 n r).flatten=Z6 n r++r.Text++(if ended r.Text=true then [] else markS):=by
 unfold T6
 split<;>simp
end Go.AL
namespace Go.AL
open Go
end Go.AL
namespace Go.AL
open Go
def X4 (n:Nat) (rows:List Row):Int→List CHunk→List Span→Option (List CHunk)
 | _,hs,[]=>some hs
 | e,hs,s::r=>if s.From < e∨s.To≤s.From∨(rows.length:Int) < s.To then none else X4 n rows s.To (hs++[⟨H9 (rows.take s.From.toNat) n,(rows.drop s.From.toNat).take (s.To.toNat - s.From.toNat)⟩]) r
def V5 (path:Str) (t:Table) (sp:List Span) (d:Bool):Comb × Int :=
 if S7 path=false then (comb0,120) else if N4 t≠0 then (comb0,N4 t) else match X4 t.Parents.toNat t.Rows 0 [] sp with
  | none=>(comb0,3)
  | some hs=>if I5 ⟨path,d,t.Parents,hs⟩≠0 then (comb0,I5 ⟨path,d,t.Parents,hs⟩) else (⟨path,d,t.Parents,hs⟩,0)
theorem G77 (f:Row→Nat) (c n:Nat) (rows:List Row):∀(sp:List Span) (e:Int) (hs hs':List CHunk),0≤e→X4 n rows e hs sp=some hs'→(hs.map fun h=>c+(h.Rows.map f).sum).sum≤c*hs.length+((rows.take e.toNat).map f).sum→hs.length≤e.toNat →
  (hs'.map fun h=>c+(h.Rows.map f).sum).sum≤c*hs'.length+(rows.map f).sum∧hs'.length≤max rows.length hs.length
 | [],e,hs,hs',he,h,hw,hl=>by
  cases h
  refine ⟨?_,by omega⟩
  have:((rows.take e.toNat).map f).sum≤(rows.map f).sum:=by
   conv=>rhs;rw [←I34 e.toNat rows,I09,I41]
   omega
  omega
 | s :: r,e,hs,hs',he,h,hw,hl=>by
  rw [X4] at h
  split at h
  ·cases h
  ·rename_i hc
   simp only [not_or,Int.not_lt,Int.not_le] at hc
   obtain ⟨c1,c2,c3⟩:=hc
   have ih:=G77 f c n rows r s.To _ hs' (by omega) h
   have hsum:((rows.take e.toNat).map f).sum+(((rows.drop s.From.toNat).take (s.To.toNat - s.From.toNat)).map f).sum≤((rows.take s.To.toNat).map f).sum:=by
    have e1:rows.take s.To.toNat=rows.take s.From.toNat++(rows.drop s.From.toNat).take (s.To.toNat - s.From.toNat):=by
     have:=List.take_add (l:=rows) (i:=s.From.toNat) (j:=s.To.toNat - s.From.toNat)
     rw [show s.From.toNat+(s.To.toNat - s.From.toNat)=s.To.toNat by omega] at this
     exact this
    have e2:rows.take s.From.toNat=rows.take e.toNat++(rows.drop e.toNat).take (s.From.toNat - e.toNat):=by
     have:=List.take_add (l:=rows) (i:=e.toNat) (j:=s.From.toNat - e.toNat)
     rw [show e.toNat+(s.From.toNat - e.toNat)=s.From.toNat by omega] at this
     exact this
    rw [e1,I09,I41]
    conv=>rhs;rw [e2,I09,I41]
    omega
   have hih:=ih (by
    rw [I09,I41,H95]
    simp only [I05,I25,I27,List.sum_nil,H96,H98,Nat.mul_add,Nat.mul_one,Nat.mul_zero]
    omega) (by rw [H95];simp;omega)
   refine ⟨hih.1,?_⟩
   have:=hih.2
   rw [H95] at this
   simp only [H96,H98] at this
   have h3:hs.length+1≤rows.length:=by omega
   omega
def CInvA (n:Nat) (hs:List CHunk):Prop:=∀h∈hs,h.At.length=n+1∧I7 h.Rows
theorem D68 {n:Nat} {rows:List Row} (hr:I7 rows):∀(sp:List Span) (e:Int) (hs hs':List CHunk),X4 n rows e hs sp=some hs'→CInvA n hs→CInvA n hs'
 | [],e,hs,hs',h,hi=>by cases h;exact hi
 | s::r,e,hs,hs',h,hi=>by
  rw [X4] at h
  split at h
  ·cases h
  ·refine D68 hr r _ _ hs' h ?_
   intro x hx
   rcases List.mem_append.1 hx with hx | hx
   ·exact hi x hx
   ·simp only [List.mem_cons,List.not_mem_nil,or_false] at hx
    rw [hx]
    exact ⟨G38 _ _,fun y hy=>hr y (List.mem_of_mem_drop (List.mem_of_mem_take hy))⟩
def wRow (n:Nat) (r:Row):Nat:=r.Text.length+n+29
theorem A71:∀(s cur:Str),(H8 cur s).length≤s.count 10+1
 | [],cur=>by unfold H8;split<;>simp
 | c::r,cur=>by
  rw [A13]
  split
  ·rename_i h
   have:=A71 r []
   rw [H96,List.count_cons,h];simp;omega
  ·have:=A71 r (cur++[c])
   rw [List.count_cons];omega
theorem C77 (s:Str):(C4 s).length≤s.count 10+1:=A71 s []
theorem C14 (result:Str) (parents:List Str) (L B:Nat) (h0:(C4 result).length≤L∧result.length≤B) (h1:∀b∈parents,(C4 b).length≤L∧b.length≤B) :
  I7 (M5 result parents).1.Rows∧(M5 result parents).1.Rows.length≤(L+1)*(parents.length*L+1)∧∀r∈(M5 result parents).1.Rows,r.Text.length≤B:=by
 have hnil:I7 []∧([]:List Row).length≤(L+1)*(parents.length*L+1)∧∀r∈([]:List Row),r.Text.length≤B:=⟨fun r hr=>(by cases hr),(by simp),fun r hr=>(by cases hr)⟩
 by_cases hn:parents.length < 1∨32 < parents.length
 ·rw [M5,if_pos hn];exact hnil
 obtain ⟨fs,hfs⟩:∃fs,fs=C4 result::parents.map C4:=⟨_,rfl⟩
 obtain ⟨names,hnames⟩:∃names,names=E1 fs:=⟨_,rfl⟩
 obtain ⟨s,hs⟩:∃s,s=P9 (fs.map (K3 names)) (C4 result).length parents.length parents.length:=⟨_,rfl⟩
 have hm:M5 result parents=if ∃k,k < (C4 result).length+1∧(E9 (s.2 k)).2≠0 then (⟨0,[]⟩,1) else (⟨parents.length,U0 names (C4 result) s ((C4 result).length+1)⟩,0):=by
  rw [M5,if_neg hn,hs,hnames,hfs]
 rw [hm]
 split
 ·exact hnil
 have hfB:∀f∈fs,f.length≤L∧∀t∈f,t.length≤B:=by
  intro f hf
  rw [hfs] at hf
  rcases List.mem_cons.1 hf with rfl | hf
  ·exact ⟨h0.1,fun t ht=>by have:=F63 _ _ ht;omega⟩
  ·obtain ⟨b,hb,rfl⟩:=List.mem_map.1 hf
   have:=h1 b hb
   exact ⟨this.1,fun t ht=>by have:=F63 _ _ ht;omega⟩
 have hnB:∀t∈names,t.length≤B:=by
  intro t ht
  rw [hnames] at ht
  obtain ⟨f,hf,h2⟩:=List.mem_flatten.1 (F53 fs t ht)
  exact (hfB f hf).2 t h2
 have hid:∀x∈fs.map (K3 names),x.length≤L∧∀v∈x,(fun _:Int=>True) v:=by
  intro x hx
  obtain ⟨f,hf,rfl⟩:=List.mem_map.1 hx
  exact ⟨by rw [K3,I19];exact (hfB f hf).1,fun _ _=>trivial⟩
 have hok:LoomOk (fun _=>True) L (C4 result).length parents.length s:=by rw [hs];exact B29 hid _
 have hL:(C4 result).length≤L:=h0.1
 have hcs:∀k,(E9 (s.2 k)).1.length≤parents.length*L∧∀m∈(E9 (s.2 k)).1,0≤m.Parents∧m.Parents < 4294967296:=fun k=>by
  have h2:=hok.gaps k
  have h3:=A14 (fun _=>True) L (s.2 k) h2.2
  rw [h2.1] at h3
  exact ⟨h3.1,fun m hmem=>(h3.2 m hmem).1⟩
 have hgetD:∀(l:List Str) (k:Nat),(∀t∈l,t.length≤B)→(l.getD k []).length≤B:=by
  intro l k hl
  rw [I00]
  cases h:l[k]? with
  | none=>simp
  | some t=>exact hl t (I12 h)
 have key:∀k,k≤(C4 result).length+1→I7 (U0 names (C4 result) s k)∧(U0 names (C4 result) s k).length≤k*(parents.length*L+1)∧∀r∈U0 names (C4 result) s k,r.Text.length≤B:=by
  intro k
  induction k with
  | zero=>intro _;simp only [U0,List.range_zero,I25,I39];exact ⟨fun r hr=>(by cases hr),by simp,fun r hr=>(by cases hr)⟩
  | succ k ih =>
   intro hk
   obtain ⟨i1,i2,i3⟩:=ih (by omega)
   have hc:=hcs k
   have hgap:∀r∈U9 names (C4 result) s k,(0≤r.Marks∧r.Marks < 4294967296)∧r.Text.length≤B:=by
    intro r hr
    unfold U9 at hr
    rcases List.mem_append.1 hr with h | h
    ·obtain ⟨m,hmem,rfl⟩:=List.mem_map.1 h
     exact ⟨hc.2 m hmem,hgetD _ _ hnB⟩
    ·split at h
     ·rename_i hkl
      simp only [List.mem_singleton] at h
      subst h
      refine ⟨?_,hgetD _ _ (hfB _ (by rw [hfs];simp)).2⟩
      have:k < s.1.length:=by rw [hok.len];exact hkl
      show 0≤s.1.getD k 0∧s.1.getD k 0 < 4294967296
      rw [I00,H97 this]
      exact hok.marks _ (I07 this)
     ·cases h
   have hgl:(U9 names (C4 result) s k).length≤parents.length*L+1:=by
    unfold U9
    rw [H95,I19]
    have:=hc.1
    split<;>simp<;>omega
   rw [a7]
   refine ⟨fun r hr=>?_,by rw [H95,I18,Nat.one_mul];omega,fun r hr=>?_⟩
   ·rcases List.mem_append.1 hr with h | h
    ·exact i1 r h
    ·exact (hgap r h).1
   ·rcases List.mem_append.1 hr with h | h
    ·exact i3 r h
    ·exact (hgap r h).2
 obtain ⟨k1,k2,k3⟩:=key _ (Nat.le_refl _)
 have:((C4 result).length+1)*(parents.length*L+1)≤(L+1)*(parents.length*L+1):=I08 _ (by omega)
 exact ⟨k1,by simp only;omega,k3⟩
end Go.AL
namespace Go.AL
open Go
end Go.AL
namespace Go.AL
open Go
end Go.AL
