/- Plain facts about data; no project text. -/
import Derived.Test.YtbiadkkamhpdnaaGreatDoorD
import Derived.Lib.Strings
import Derived.Lib.Bytealg
import Derived.Lib.Join
import Derived.Lib.ItoaNum
import Derived.Test.YtbiadkkamhpdnaaGreatDoorAn
set_option linter.unusedSimpArgs false
namespace Go.AL
open Go
theorem F75 (c:UInt8):((c.toNat:Int)=10)↔c=10:=by
 constructor
 ·intro h
  have:c.toNat=10:=by omega
  exact UInt8.toNat_inj.1 (by simpa using this)
 ·rintro rfl;rfl
def J3 (cur:Str):Str→List Str
 | []=>if cur=[] then [] else [cur]
 | c::r=>if c=10 then (cur++[c])::J3 [] r else J3 (cur++[c]) r
def C2 (b:Str):List Str:=J3 [] b
theorem B62 (cur:Str) (s:Str):(J3 cur s).length≤s.length+1:=by
 induction s generalizing cur with
 | nil=>unfold J3;split<;>simp
 | cons c r ih=>unfold J3;split<;>simp<;>(have:=ih [];have:=ih (cur++[c]);omega)
theorem C32 (s:Str):(J3 [] s).length≤s.length:=by
 have key:∀(s cur:Str),cur≠[]→(J3 cur s).length≤s.length+1:=fun s cur _=>B62 cur s
 induction s with
 | nil=>simp [J3]
 | cons c r ih=>unfold J3;split<;>simp<;>(have:=B62 ([]++[c]) r;simp at this;omega)
theorem U5 (b:Str):(C2 b).length≤b.length:=C32 b
theorem A01 (cur r:Str) (c:UInt8):J3 cur (c::r)=if c=10 then (cur++[c])::J3 [] r else J3 (cur++[c]) r:=rfl
theorem G40 (cur:Str) (h:cur≠[]):J3 cur []=[cur]:=by simp [J3,h]
theorem or_pick {p q:Prop} [Decidable p] [Decidable q]:(if decide p=true then true else decide q)=decide (p∨q):=by by_cases p<;>simp [*]
theorem R7 {p q:Prop} [Decidable p] [Decidable q]:(if decide p=true then decide q else false)=decide (p∧q):=by by_cases p<;>simp [*]
theorem W3 {α:Type} (l:List (List α)) (i:Nat) (h:i < l.length):(l.take (i+1)).flatten=(l.take i).flatten++l[i]:=by
 rw [List.take_add_one,K07 h,Option.toList_some,K36];simp
theorem Y8 {α:Type} (l:List (List α)) (i:Nat):(l.take i).flatten.length≤l.flatten.length:=by
 conv=>rhs;rw [←K46 i l,K36,K06]
 omega
theorem H92 (i:Nat):((i:Int)+1).toNat=i+1:=by omega
theorem F76 {α:Type} (b:List α) (f i:Nat) (hf:f≤i) (hi:i < b.length):(b.drop f).take (i - f)++[b[i]]=(b.drop f).take (i+1 - f):=by
 rw [show i+1 - f=(i - f)+1 by omega,List.take_add_one,K33,show f+(i - f)=i by omega,K07 hi]
 rfl
def ended (s:Str):Bool:=s.getLast? == some 10
theorem J52 (s:Str):ended s=(if decide (s≠[])=true then decide (((s.getLastD 0).toNat:Int)=10) else false):=by
 unfold ended
 by_cases h:s=[]
 ·simp [h]
 ·rw [List.getLast?_eq_some_getLast h,List.getLastD_eq_getLast?,List.getLast?_eq_some_getLast h]
  simp only [ne_eq,h,not_false_eq_true,decide_true,if_true,Option.getD_some,F75]
  rfl
def I5:List Str→Str→Int→Int
 | [],_,_ => -1
 | x::r,s,i=>if x=s then i else I5 r s (i+1)
theorem G41 (l:List Str) (s:Str) (k:Nat) (h:k < l.length):I5 (l.drop k) s k=if l[k]=s then (k:Int) else I5 (l.drop (k+1)) s ((k:Int)+1):=by
 rw [K13 h]
 simp [I5]
theorem H11 (l:List Str) (s:Str):∀(k:Int),0≤k→((I5 l s k < 0)↔s∉l):=by
 induction l with
 | nil=>intro k _;simp [I5]
 | cons x r ih =>
  intro k hk
  unfold I5
  by_cases h:x=s
  ·simp [h];omega
  ·have:=ih (k+1) (by omega)
   simp [h,this,Ne.symm h]
def J5 (s:Str):Bool:=s.dropLast.all (·≠10)&&s != []
def Y4:List Str→Bool
 | []=>true
 | s::r=>J5 s&&(r.isEmpty||ended s)&&Y4 r
def d7 (b:Str):Int:=if b.length > 1048576∨(C2 b).length > 4096 then 1 else 0
def J1 (out:List Str) (s:Str):List Str:=if s∈out then out else out++[s]
def E5 (files:List (List Str)):List Str:=files.flatten.foldl J1 []
def L2 (names:List Str) (file:List Str):List Int:=file.map (fun s=>I5 names s 0)
theorem D39 (out:List Str) (s:Str):(J1 out s).length≤out.length+1:=by unfold J1;split<;>simp
theorem A47 (l out:List Str):(l.foldl J1 out).length≤out.length+l.length:=by
 induction l generalizing out with
 | nil=>simp
 | cons s r ih=>have h1:=ih (J1 out s);have h2:=D39 out s;simp only [K37,K08];omega
theorem B94 (fs:List (List Str)):(E5 fs).length≤fs.flatten.length:=by have:=A47 fs.flatten [];simpa [E5] using this
end Go.AL
namespace Go.AL
open Go
def O0 (i j:Int):List Span→Int→Int→List Change
 | [],m,n=>if m > i∨n > j then [⟨i,m - i,j,n - j⟩] else []
 | x::r,m,n=>(if x.From > i∨x.To > j then [⟨i,x.From - i,j,x.To - j⟩] else [])++O0 (x.From+1) (x.To+1) r m n
def i7 (p:List Span) (m n:Int):List Change:=O0 0 0 p m n
theorem A02 (p:List Span) (i j m n:Int):(O0 i j p m n).length≤p.length+1:=by
 induction p generalizing i j with
 | nil=>unfold O0;split<;>simp
 | cons x r ih=>unfold O0;have:=ih (x.From+1) (x.To+1);split<;>simp<;>omega
def P7 (i j:Int) (n:Nat):List Span:=(List.range n).map fun (t:Nat)=>⟨i+(t:Int),j+(t:Int)⟩
theorem A48 (i j:Int) (n:Nat):(P7 i j n).length=n:=by simp [P7]
theorem B26 (i j:Int) (n:Nat):P7 i j (n+1)=⟨i,j⟩::P7 (i+1) (j+1) n:=by
 unfold P7
 rw [List.range_succ_eq_map,K14,K40]
 congr 1
 ·simp
 ·refine List.map_congr_left fun t _=>?_
  simp only [Function.comp,Span.mk.injEq]
  omega
def L9 (i j:Int):List Change→Int→List Span
 | [],m=>P7 i j (m - i).toNat
 | c::r,m=>P7 i j (c.Old - i).toNat++L9 (max i c.Old+c.OldLen) (j+(c.Old - i).toNat+c.NewLen) r m
def S2 (l:List Change) (m:Int):List Span:=L9 0 0 l m
def dist:List Int→List Int→Nat
 | [],b=>b.length
 | x::a,[]=>(x::a).length
 | x::a,y::b=>if x=y then dist a b else 1+min (dist a (y::b)) (dist (x::a) b)
theorem A49 (a:List Int):dist a []=a.length:=by cases a<;>simp [dist]
theorem C22 (a b:List Int):dist a b≤a.length+b.length:=by
 induction a generalizing b with
 | nil=>simp [dist]
 | cons x a iha =>
  induction b with
  | nil=>simp [dist]
  | cons y b ihb =>
   unfold dist
   split
   ·have:=iha b;simp;omega
   ·have:=iha (y::b);have:=ihb;simp only [K08] at *;omega
def F9 (i j:Int):List Int→List Int→List Span
 | [],_=>[]
 | _::_,[]=>[]
 | x::a,y::b=>if x=y then ⟨i,j⟩::F9 (i+1) (j+1) a b else if dist a (y::b)+1=dist (x::a) (y::b) then F9 (i+1) j a (y::b) else F9 i (j+1) (x::a) b
def L3 (a b:List Int):List Change:=i7 (F9 0 0 a b) a.length b.length
theorem F77 (a b:List Int) (i j:Nat) (hi:i < a.length) (hj:j < b.length) :
  dist (a.drop i) (b.drop j)=if a[i]=b[j] then dist (a.drop (i+1)) (b.drop (j+1)) else 1+min (dist (a.drop (i+1)) (b.drop j)) (dist (a.drop i) (b.drop (j+1))):=by
 rw [K13 hi,K13 hj]
 conv=>lhs;rw [dist]
theorem A15 (a b:List Int) (i j:Nat) (hi:i < a.length) (hj:j < b.length) (p q:Int) :
  F9 p q (a.drop i) (b.drop j)=if a[i]=b[j] then ⟨p,q⟩::F9 (p+1) (q+1) (a.drop (i+1)) (b.drop (j+1)) else
   if dist (a.drop (i+1)) (b.drop j)+1=dist (a.drop i) (b.drop j) then F9 (p+1) q (a.drop (i+1)) (b.drop j) else F9 p (q+1) (a.drop i) (b.drop (j+1)):=by
 rw [K13 hi,K13 hj]
 conv=>lhs;rw [F9]
theorem Y9 (p q:Int) (b:List Int):F9 p q [] b=[]:=by simp [F9]
theorem d8 (p q:Int) (a:List Int):F9 p q a []=[]:=by cases a<;>simp [F9]
theorem W9 (p q:Int) (a b:List Int):(F9 p q a b).length≤a.length:=by
 induction a generalizing p q b with
 | nil=>simp [F9]
 | cons x a iha =>
  induction b generalizing p q with
  | nil=>simp [F9]
  | cons y b ihb =>
   unfold F9
   split
   ·have:=iha (p+1) (q+1) b;simp;omega
   ·split
    ·have:=iha (p+1) q (y::b);simp;omega
    ·exact ihb p (q+1)
universe u
theorem A37 {α:Type u} (n k:Nat) (f g:Nat→α) (v:α) (hv:k < n→g k=v) (h:∀q,q < n→q≠k→g q=f q):((List.range n).map f).set k v=(List.range n).map g:=by
 refine List.ext_getElem (by simp) fun q h1 h2=>?_
 have hq:q < n:=by simpa using h2
 rw [List.getElem_set]
 by_cases he:k=q
 ·subst he;simp [hv hq]
 ·rw [if_neg he];simp [h q hq (Ne.symm he)]
theorem A38 {α:Type u} (n k:Nat) (f:Nat→α) (h:k < n):((List.range n).map f)[k]?=some (f k):=by simp [h]
def T0 (a b:List Int) (i q:Nat):List Int:=(List.range (b.length+1)).map fun j=>if q≤j then (dist (a.drop i) (b.drop j):Int) else 0
def Q4 (a b:List Int) (i:Nat):List (List Int):=(List.range (a.length+1)).map fun r=>if i≤r then T0 a b r 0 else []
def C23 (a b:List Int):List (List Int):=Q4 a b 0
theorem E69 (a b:List Int) (i q:Nat):(T0 a b i q).length=b.length+1:=by simp [T0]
theorem A23 (a b:List Int) (i:Nat):(Q4 a b i).length=a.length+1:=by simp [Q4]
theorem G42 (a b:List Int) (i:Nat):List.replicate (b.length+1) 0=T0 a b i (b.length+1):=by
 refine List.ext_getElem (by simp [T0]) fun q h1 h2=>?_
 have:¬(b.length+1≤q):=by simp at h1;omega
 simp [T0,this]
theorem F33 (a b:List Int):List.replicate (a.length+1) []=Q4 a b (a.length+1):=by
 refine List.ext_getElem (by simp [Q4]) fun q h1 h2=>?_
 have:¬(a.length+1≤q):=by simp at h1;omega
 simp [Q4,this]
theorem H12 (a b:List Int) (i j:Nat):(T0 a b i (j+1)).set j (dist (a.drop i) (b.drop j):Int)=T0 a b i j:=by
 unfold T0
 refine A37 _ _ _ _ _ (fun _=>by simp) fun q hq hne=>?_
 by_cases h:j≤q
 ·rw [if_pos h,if_pos (by omega)]
 ·rw [if_neg h,if_neg (by omega)]
theorem A16 (a b:List Int) (i q j:Nat) (h:q≤j) (hj:j≤b.length):(T0 a b i q)[j]?=some (dist (a.drop i) (b.drop j):Int):=by
 unfold T0
 rw [A38 _ _ _ (by omega),if_pos h]
theorem G43 (a b:List Int) (i:Nat):(Q4 a b (i+1)).set i (T0 a b i 0)=Q4 a b i:=by
 unfold Q4
 refine A37 _ _ _ _ _ (fun _=>by simp) fun q hq hne=>?_
 by_cases h:i≤q
 ·rw [if_pos h,if_pos (by omega)]
 ·rw [if_neg h,if_neg (by omega)]
theorem B27 (a b:List Int) (i r:Nat) (h:i≤r) (hr:r≤a.length):(Q4 a b i)[r]?=some (T0 a b r 0):=by
 unfold Q4
 rw [A38 _ _ _ (by omega),if_pos h]
def F5 (l:List Merged):List Int:=l.map (·.Line)
theorem u9 (i j:Int):P7 i j 0=[]:=rfl
theorem B28 (i j:Int) (n:Nat):P7 i j (n+1)=P7 i j n++[⟨i+n,j+n⟩]:=by simp [P7,K44]
def Asc (m n:Int):Int→Int→List Span→Prop
 | i,j,[]=>i≤m∧j≤n
 | i,j,x::r=>i≤x.From∧j≤x.To∧Asc m n (x.From+1) (x.To+1) r
theorem Asc.le {m n:Int}:∀{p:List Span} {i j:Int},Asc m n i j p→i≤m∧j≤n
 | [],i,j,h=>h
 | x::r,i,j,h=>by have:=Asc.le h.2.2;have:=h.1;have:=h.2.1;omega
theorem Asc.weaken {m n:Int} {p:List Span} {i j i' j':Int} (h:Asc m n i j p) (hi:i'≤i) (hj:j'≤j):Asc m n i' j' p:=by
 cases p with
 | nil=>exact ⟨by have:=h.1;omega,by have:=h.2;omega⟩
 | cons x r=>exact ⟨by have:=h.1;omega,by have:=h.2.1;omega,h.2.2⟩
theorem X0 (a b:List Int):∀(p q:Int),Asc (p+a.length) (q+b.length) p q (F9 p q a b):=by
 induction a generalizing b with
 | nil=>intro p q;rw [Y9];simp only [Asc,K11];omega
 | cons x a iha =>
  induction b with
  | nil=>intro p q;rw [d8];simp only [Asc,K11];omega
  | cons y b ihb =>
   intro p q
   rw [F9]
   split
   ·have:=iha b (p+1) (q+1)
    refine ⟨Int.le_refl _,Int.le_refl _,?_⟩
    simp only [K08]
    rwa [show p+((a.length+1:Nat):Int)=p+1+a.length by omega,show q+((b.length+1:Nat):Int)=q+1+b.length by omega]
   ·split
    ·have:=(iha (y::b) (p+1) q).weaken (i':=p) (j':=q) (by omega) (Int.le_refl _)
     rwa [show p+((x::a).length:Int)=p+1+a.length by simp;omega]
    ·have:=(ihb p (q+1)).weaken (i':=p) (j':=q) (Int.le_refl _) (by omega)
     rwa [show q+((y::b).length:Int)=q+1+b.length by simp;omega]
theorem Asc.made {m n:Int}:∀{p:List Span} {i j:Int},Asc m n i j p→∀c∈O0 i j p m n,i≤c.Old∧j≤c.New∧0≤c.OldLen∧0≤c.NewLen∧c.Old+c.OldLen≤m∧c.New+c.NewLen≤n
 | [],i,j,h,c,hc=>by
  unfold O0 at hc
  split at hc
  ·simp only [List.mem_singleton] at hc;subst hc
   have:=h.1;have:=h.2
   simp only;omega
  ·cases hc
 | x::r,i,j,h,c,hc=>by
  unfold O0 at hc
  obtain ⟨h1,h2,h3⟩:=h
  have h4:=h3.le
  rcases List.mem_append.1 hc with hc | hc
  ·split at hc
   ·simp only [List.mem_singleton] at hc;subst hc
    simp only;omega
   ·cases hc
  ·have:=Asc.made h3 c hc;omega
theorem E70 (i j m:Int) (l:List Change) (h:∀c∈l,i+1≤c.Old) (hm:l=[]→i+1≤m):L9 i j l m=⟨i,j⟩::L9 (i+1) (j+1) l m:=by
 cases l with
 | nil =>
  have:=hm rfl
  rw [L9,L9,show (m - i).toNat=(m - (i+1)).toNat+1 by omega,B26]
 | cons c r =>
  have:=h c (List.mem_cons_self ..)
  rw [L9,L9,show (c.Old - i).toNat=(c.Old - (i+1)).toNat+1 by omega,B26]
  rw [show max (i+1) c.Old=max i c.Old by omega,show (j+1+((c.Old - (i+1)).toNat:Int))=j+(((c.Old - (i+1)).toNat+1:Nat):Int) by omega]
  rfl
theorem D00 {m n:Int}:∀{p:List Span} {i j:Int},Asc m n i j p→L9 i j (O0 i j p m n) m=p
 | [],i,j,h=>by
  have h1:=h.1;have h2:=h.2
  unfold O0
  split
  ·rw [L9,L9,show (i - i).toNat=0 by omega,show (m - (max i i+(m - i))).toNat=0 by omega];rfl
  ·rw [L9,show (m - i).toNat=0 by omega];rfl
 | x::r,i,j,h=>by
  obtain ⟨h1,h2,h3⟩:=h
  have ih:=D00 h3
  have hm:=h3.le
  have hd:=E70 x.From x.To m (O0 (x.From+1) (x.To+1) r m n) (fun c hc=>(h3.made c hc).1) (fun _=>hm.1)
  rw [ih] at hd
  unfold O0
  split
  ·rw [K57,L9,show (i - i).toNat=0 by omega,show max i i+(x.From - i)=x.From by omega,show j+((0:Nat):Int)+(x.To - j)=x.To by omega,hd];rfl
  ·have e1:i=x.From:=by omega
   have e2:j=x.To:=by omega
   rw [K39,e1,e2,hd]
theorem B29 (a b:List Int):S2 (L3 a b) a.length=F9 0 0 a b:=by
 have:=X0 a b 0 0
 rw [Int.zero_add,Int.zero_add] at this
 exact D00 this
theorem B30 (a b:List Int):∀c∈L3 a b,0≤c.Old∧0≤c.New∧0≤c.OldLen∧0≤c.NewLen∧c.Old+c.OldLen≤a.length∧c.New+c.NewLen≤b.length:=by
 have:=X0 a b 0 0
 rw [Int.zero_add,Int.zero_add] at this
 exact this.made
def H0 (p:Int):Int:=IntKind.u32.wrap (1*2 ^ (min (IntKind.u64.wrap p).toNat IntKind.u32.bits))
def K6 (a b:Int):Int:=IntKind.u32.wrap ((BitVec.ofInt IntKind.u32.bits a ||| BitVec.ofInt IntKind.u32.bits b).toNat:Int)
def P9 (l:List Merged) (list:List Int) (bit:Int) (i j:Nat):List Span→List Merged
 | []=>(l.drop i).take (l.length - i)++((list.drop j).take (list.length - j)).map fun v=>⟨v,bit⟩
 | x::r=>(l.drop i).take (x.From.toNat - i)++(((list.drop j).take (x.To.toNat - j)).map fun v=>⟨v,bit⟩)++((l[x.From.toNat]?.map fun y=>(⟨y.Line,K6 y.Parents bit⟩:Merged)).toList++P9 l list bit (x.From.toNat+1) (x.To.toNat+1) r)
def R8 (l:List Merged) (list:List Int) (p:Int):List Merged:=P9 l list (H0 p) 0 0 (F9 0 0 (F5 l) list)
theorem A50 {α:Type} (l:List α) (i t:Nat) (h:i+t < l.length):(l.drop i).take (t+1)=(l.drop i).take t++[l[i+t]]:=by
 rw [List.take_add_one,K33,K07 h];rfl
theorem C42 (l:List Merged) (list:List Int) (bit:Int):∀(p:List Span) (i j:Nat),(P9 l list bit i j p).length≤l.length*(p.length+1)+list.length*(p.length+1)+p.length
 | [],i,j=>by simp [P9];omega
 | x::r,i,j=>by
  have:=C42 l list bit r (x.From.toNat+1) (x.To.toNat+1)
  have h1:((l.drop i).take (x.From.toNat - i)).length≤l.length:=by simp;omega
  have h2:((list.drop j).take (x.To.toNat - j)).length≤list.length:=by simp;omega
  have h3:((l[x.From.toNat]?.map fun y=>(⟨y.Line,K6 y.Parents bit⟩:Merged)).toList).length≤1:=by cases l[x.From.toNat]?<;>simp
  simp only [P9,K06,K30,K08,Nat.mul_add,Nat.mul_one] at *
  omega
end Go.AL
namespace Go.AL
open Go
def W4 (m:Int) (c:Nat):Bool:=m / 2 ^ c % 2 == 1
def Z8 (r:Row) (c:Int):Bool:=if c = -1 then !r.Lost else if c < -1∨32≤c then false else W4 r.Marks c.toNat == r.Lost
def K7 (rows:List Row) (c:Int):List Str:=(rows.filter (Z8 · c)).map (·.Text)
def X1 (n:Nat) (r:Row):Bool:=r.Marks / 2 ^ n == 0&&!(r.Lost&&r.Marks == 0)
def N8 (rows:List Row) (n:Nat):Bool:=rows.all (X1 n)
def T3 (rows:List Row) (n:Nat):Bool:=rows.all (fun r=>J5 r.Text)&&(List.range (n+1)).all fun k=>Y4 (K7 rows ((k:Int) - 1))
def L4 (t:Table):Int:=if t.Parents < 1∨32 < t.Parents then 2 else if N8 t.Rows t.Parents.toNat=false then 180 else if T3 t.Rows t.Parents.toNat=false then 4 else 0
theorem B31 (r:Row) (rs:List Row) (n:Nat):N8 (r::rs) n=(X1 n r&&N8 rs n):=rfl
def I8 (rows:List Row):Prop:=∀r∈rows,0≤r.Marks∧r.Marks < 4294967296
def P3 (rows:List Row):Nat:=(rows.map (·.Text)).flatten.length
theorem A99 (rows:List Row) (c:Int):(K7 rows c).length≤rows.length:=by unfold K7;rw [K30];exact List.length_filter_le _ _
theorem H93 (rows:List Row) (c:Int):(K7 rows c).flatten.length≤P3 rows:=by
 unfold K7 P3
 induction rows with
 | nil=>simp
 | cons r rs ih =>
  rw [K51]
  split
  ·simp only [K14,K25,K06];omega
  ·simp only [K14,K25,K06];omega
theorem J03 (rows:List Row) (c:Int):∀s∈K7 rows c,∃r∈rows,r.Text=s:=by
 intro s hs
 unfold K7 at hs
 obtain ⟨r,hr,rfl⟩:=List.mem_map.1 hs
 exact ⟨r,(List.mem_filter.1 hr).1,rfl⟩
theorem D01 (rows:List Row):∀r∈rows,r.Text.length≤P3 rows:=by
 intro r hr
 unfold P3
 exact (List.sublist_flatten_of_mem (List.mem_map_of_mem hr)).length_le
theorem B95 (x:Int) (h:0≤x∧x < 4294967296):IntKind.u32.wrap ((BitVec.ofInt IntKind.u32.bits x &&& BitVec.ofInt IntKind.u32.bits 1).toNat:Int)=x % 2:=by
 have h1:(BitVec.ofInt IntKind.u32.bits x &&& BitVec.ofInt IntKind.u32.bits 1).toNat=x.toNat % 2:=by
  rw [BitVec.toNat_and,BitVec.toNat_ofInt,BitVec.toNat_ofInt]
  have e1:(x % ((2 ^ IntKind.u32.bits:Nat):Int)).toNat=x.toNat:=by
   rw [show ((2 ^ IntKind.u32.bits:Nat):Int)=4294967296 by rfl];omega
  have e2:((1:Int) % ((2 ^ IntKind.u32.bits:Nat):Int)).toNat=1:=by rfl
  rw [e1,e2,Nat.and_one_is_mod]
 rw [h1]
 have h2:IntKind.u32.wrap ((x.toNat % 2:Nat):Int)=((x.toNat % 2:Nat):Int):=by
  simp [IntKind.wrap,IntKind.signed,IntKind.bits];omega
 rw [h2];omega
theorem A86 {n:Int} (h:0≤n∧n < 18446744073709551616):IntKind.u64.wrap n=n:=by simp [IntKind.wrap,IntKind.signed,IntKind.bits];omega
theorem E71 (m c:Int) (hc:0≤c∧c≤32):m.fdiv (2 ^ (min c.toNat IntKind.u32.bits))=m / 2 ^ c.toNat:=by
 rw [show min c.toNat IntKind.u32.bits=c.toNat from Nat.min_eq_left (by show c.toNat≤32;omega),Int.fdiv_eq_ediv_of_nonneg _ (Int.pow_nonneg (by decide))]
theorem shr64' (m c:Int) (hc:0≤c∧c≤64):m.fdiv (2 ^ (min c.toNat IntKind.u64.bits))=m / 2 ^ c.toNat:=by
 rw [show min c.toNat IntKind.u64.bits=c.toNat from Nat.min_eq_left (by show c.toNat≤64;omega),Int.fdiv_eq_ediv_of_nonneg _ (Int.pow_nonneg (by decide))]
theorem shr_eq (m c:Int) (b:Nat) (hc:0≤c∧c≤b):m.fdiv (2 ^ (min c.toNat b))=m / 2 ^ c.toNat:=by
 rw [show min c.toNat b=c.toNat by omega,Int.fdiv_eq_ediv_of_nonneg _ (Int.pow_nonneg (by decide))]
end Go.AL
namespace Go.AL
open Go
theorem E72 (n:Int):0≤IntKind.u32.wrap n∧IntKind.u32.wrap n < 4294967296:=by simp [IntKind.wrap,IntKind.signed,IntKind.bits];omega
def n6 (a b:Int):Int:=IntKind.u32.wrap ((BitVec.ofInt IntKind.u32.bits a &&& ~~~BitVec.ofInt IntKind.u32.bits b).toNat:Int)
def H8 (acc:List Merged) (p:Nat):List (List Int)→List Merged × Int
 | []=>(acc,0)
 | x::r=>if 4096 < acc.length∨4096 < x.length then ([],1) else H8 (R8 acc x p) (p+1) r
def E6 (lists:List (List Int)):List Merged × Int:=if 32 < lists.length then ([],1) else H8 [] 0 lists
theorem D73 (l:List Merged) (list:List Int) (bit:Int):∀(ps:List Span) (i j:Nat),i≤l.length→j≤list.length→Asc l.length list.length i j ps→(P9 l list bit i j ps).length≤(l.length - i)+(list.length - j)
 | [],i,j,hi,hj,_=>by simp [P9]
 | x::r,i,j,hi,hj,ha=>by
  obtain ⟨h1,h2,h3⟩:=ha
  have h4:=h3.le
  have e1:((x.From.toNat+1:Nat):Int)=x.From+1:=by omega
  have e2:((x.To.toNat+1:Nat):Int)=x.To+1:=by omega
  have ih:=D73 l list bit r (x.From.toNat+1) (x.To.toNat+1) (by omega) (by omega) (by rw [e1,e2];exact h3)
  have h5:((l[x.From.toNat]?.map fun y=>(⟨y.Line,K6 y.Parents bit⟩:Merged)).toList).length≤1:=by cases l[x.From.toNat]?<;>simp
  simp only [P9,K06,K30,K19,K23]
  omega
theorem A66 (l:List Merged) (list:List Int) (p:Int):(R8 l list p).length≤l.length+list.length:=by
 have hasc:=X0 (F5 l) list 0 0
 rw [Int.zero_add,Int.zero_add,show (F5 l).length=l.length by simp [F5]] at hasc
 have:=D73 l list (H0 p) (F9 0 0 (F5 l) list) 0 0 (Nat.zero_le _) (Nat.zero_le _) hasc
 simpa [R8] using this
theorem Z3 {α:Type} {l:List α} {i n:Nat} {x:α} (h:x∈(l.drop i).take n):x∈l:=List.mem_of_mem_drop (List.mem_of_mem_take h)
theorem E73 (l:List Merged) (list:List Int) (bit:Int) (hb:0≤bit∧bit < 4294967296) (hl:∀m∈l,0≤m.Parents∧m.Parents < 4294967296) (Q:Int→Prop) (hq1:∀m∈l,Q m.Line) (hq2:∀v∈list,Q v) :
  ∀(ps:List Span) (i j:Nat),∀m∈P9 l list bit i j ps,(0≤m.Parents∧m.Parents < 4294967296)∧Q m.Line
 | [],i,j,m,hm=>by
  rcases List.mem_append.1 hm with h | h
  ·have:=Z3 h;exact ⟨hl _ this,hq1 _ this⟩
  ·obtain ⟨v,hv,rfl⟩:=List.mem_map.1 h
   exact ⟨hb,hq2 _ (Z3 hv)⟩
 | x :: r,i,j,m,hm=>by
  unfold P9 at hm
  rcases List.mem_append.1 hm with h | h
  ·rcases List.mem_append.1 h with h | h
   ·have:=Z3 h;exact ⟨hl _ this,hq1 _ this⟩
   ·obtain ⟨v,hv,rfl⟩:=List.mem_map.1 h
    exact ⟨hb,hq2 _ (Z3 hv)⟩
  ·rcases List.mem_append.1 h with h | h
   ·cases hx:l[x.From.toNat]? with
    | none=>simp [hx] at h
    | some y =>
     simp [hx] at h
     subst h
     exact ⟨E72 _,hq1 y (K27 hx)⟩
   ·exact E73 l list bit hb hl Q hq1 hq2 r _ _ m h
theorem A67 (Q:Int→Prop) (B:Nat):∀(ls:List (List Int)) (acc:List Merged) (p:Nat),(∀x∈ls,x.length≤B∧∀v∈x,Q v)→(∀m∈acc,(0≤m.Parents∧m.Parents < 4294967296)∧Q m.Line) →
  (H8 acc p ls).1.length≤acc.length+ls.length*B∧∀m∈(H8 acc p ls).1,(0≤m.Parents∧m.Parents < 4294967296)∧Q m.Line
 | [],acc,p,_,ha=>by simp only [H8];exact ⟨by simp,ha⟩
 | x::r,acc,p,hl,ha=>by
  unfold H8
  split
  ·exact ⟨by simp,by simp⟩
  ·have hx:=hl x (List.mem_cons_self ..)
   have hj:=A66 acc x p
   have hm:=E73 acc x (H0 p) (E72 _) (fun m hm=>(ha m hm).1) Q (fun m hm=>(ha m hm).2) hx.2 (F9 0 0 (F5 acc) x) 0 0
   have ih:=A67 Q B r (R8 acc x p) (p+1) (fun y hy=>hl y (List.mem_cons_of_mem _ hy)) hm
   refine ⟨?_,ih.2⟩
   have h1:=ih.1
   have h2:=hx.1
   simp only [K08,K32,Nat.one_mul]
   omega
theorem A03 (Q:Int→Prop) (B:Nat) (ls:List (List Int)) (h:∀x∈ls,x.length≤B∧∀v∈x,Q v):(E6 ls).1.length≤ls.length*B∧∀m∈(E6 ls).1,(0≤m.Parents∧m.Parents < 4294967296)∧Q m.Line:=by
 unfold E6
 split
 ·exact ⟨by simp,by simp⟩
 ·have:=A67 Q B ls [] 0 h (by simp)
  simpa using this
def M1 (p:Int) (ms:List Int) (x:Span):List Int:=ms.set x.To.toNat (n6 (ms.getD x.To.toNat 0) (H0 p))
def L1 (p:Nat) (file:List Int) (g:Nat→List (List Int)) (c:Change):Nat→List (List Int):=fun k =>
 if k=c.New.toNat then (g k).set p ((file.drop c.Old.toNat).take ((c.Old+c.OldLen).toNat - c.Old.toNat)) else g k
abbrev Loom:=List Int × (Nat→List (List Int))
def M6 (ids:List (List Int)) (s:Loom) (p:Nat):Loom :=
 let file:=ids.getD (p+1) []
 let sc:=L3 file (ids.getD 0 [])
 ((S2 sc file.length).foldl (M1 p) (s.1.map (K6 · (H0 p))),sc.foldl (L1 p file) s.2)
def A17 (lines n:Nat):Loom:=(List.replicate lines 0,fun _=>List.replicate n [])
def O8 (ids:List (List Int)) (lines n p:Nat):Loom:=(List.range p).foldl (M6 ids) (A17 lines n)
def S3 (names:List Str) (file:List Str) (s:Loom) (k:Nat):List Row :=
 (E6 (s.2 k)).1.map (fun m=>(⟨true,m.Parents,names.getD m.Line.toNat []⟩:Row))++(if k < file.length then [⟨false,s.1.getD k 0,file.getD k []⟩] else [])
def V7 (names:List Str) (file:List Str) (s:Loom) (k:Nat):List Row:=((List.range k).map (S3 names file s)).flatten
def F2 (result:Str) (parents:List Str):Table × Int :=
 if parents.length < 1∨32 < parents.length then (⟨0,[]⟩,2) else
 let fs:=C2 result::parents.map C2
 let names:=E5 fs
 let s:=O8 (fs.map (L2 names)) (C2 result).length parents.length parents.length
 if ∃k,k < (C2 result).length+1∧(E6 (s.2 k)).2≠0 then (⟨0,[]⟩,1) else (⟨parents.length,V7 names (C2 result) s ((C2 result).length+1)⟩,0)
theorem q9 (names file:List Str) (s:Loom) (k:Nat):V7 names file s (k+1)=V7 names file s k++S3 names file s k:=by
 unfold V7;rw [K44,K20,K36];simp
structure LoomOk (Q:Int→Prop) (B lines n:Nat) (s:Loom):Prop where
 len:s.1.length=lines
 marks:∀m∈s.1,0≤m∧m < 4294967296
 gaps:∀k,(s.2 k).length=n∧∀x∈s.2 k,x.length≤B∧∀v∈x,Q v
theorem J53 (Q:Int→Prop) (B lines n:Nat):LoomOk Q B lines n (A17 lines n) where
 len:=by simp [A17]
 marks:=fun m hm=>by have:=List.eq_of_mem_replicate hm;subst this;decide
 gaps:=fun k=>⟨by simp [A17],fun x hx=>by have:=List.eq_of_mem_replicate hx;subst this;simp⟩
theorem J04 {Q:Int→Prop} {B n p:Nat} {file:List Int} (hf:file.length≤B∧∀v∈file,Q v) {g:Nat→List (List Int)} (hg:∀k,(g k).length=n∧∀x∈g k,x.length≤B∧∀v∈x,Q v) (c:Change) :
  ∀k,(L1 p file g c k).length=n∧∀x∈L1 p file g c k,x.length≤B∧∀v∈x,Q v:=by
 intro k
 unfold L1
 split
 ·refine ⟨by rw [K47];exact (hg k).1,fun x hx=>?_⟩
  rcases List.mem_or_eq_of_mem_set hx with h | rfl
  ·exact (hg k).2 x h
  ·exact ⟨by simp;omega,fun v hv=>hf.2 v (Z3 hv)⟩
 ·exact hg k
theorem B32 {Q:Int→Prop} {B n p:Nat} {file:List Int} (hf:file.length≤B∧∀v∈file,Q v):∀(sc:List Change) {g:Nat→List (List Int)},(∀k,(g k).length=n∧∀x∈g k,x.length≤B∧∀v∈x,Q v) →
  ∀k,(sc.foldl (L1 p file) g k).length=n∧∀x∈sc.foldl (L1 p file) g k,x.length≤B∧∀v∈x,Q v
 | [],_,hg=>hg
 | c::r,_,hg=>B32 hf r (J04 hf hg c)
theorem H13 {p:Int} {ms:List Int} {x:Span} (h:∀m∈ms,0≤m∧m < 4294967296):(M1 p ms x).length=ms.length∧∀m∈M1 p ms x,0≤m∧m < 4294967296:=by
 refine ⟨by simp [M1],fun m hm=>?_⟩
 rcases List.mem_or_eq_of_mem_set hm with h' | rfl
 ·exact h m h'
 ·exact E72 _
theorem B96 {p:Int}:∀(ps:List Span) {ms:List Int},(∀m∈ms,0≤m∧m < 4294967296)→(ps.foldl (M1 p) ms).length=ms.length∧∀m∈ps.foldl (M1 p) ms,0≤m∧m < 4294967296
 | [],ms,h=>⟨rfl,h⟩
 | x::r,ms,h=>by
  have h1:=H13 (p:=p) (x:=x) h
  have h2:=B96 (p:=p) r h1.2
  exact ⟨h2.1.trans h1.1,h2.2⟩
theorem F34 {Q:Int→Prop} {B lines n:Nat} {ids:List (List Int)} (hids:∀x∈ids,x.length≤B∧∀v∈x,Q v) {s:Loom} (h:LoomOk Q B lines n s) (p:Nat):LoomOk Q B lines n (M6 ids s p):=by
 have hf:(ids.getD (p+1) []).length≤B∧∀v∈ids.getD (p+1) [],Q v:=by
  rw [K09]
  cases hx:ids[p+1]? with
  | none=>simp
  | some x=>exact hids x (K27 hx)
 have hr:∀m∈s.1.map (K6 · (H0 p)),0≤m∧m < 4294967296:=fun m hm=>by
  obtain ⟨v,_,rfl⟩:=List.mem_map.1 hm;exact E72 _
 have hc:=B96 (p:=p) (S2 (L3 (ids.getD (p+1) []) (ids.getD 0 [])) (ids.getD (p+1) []).length) hr
 exact { len:=by rw [M6];simp only;rw [hc.1,K30];exact h.len,marks:=hc.2,gaps:=B32 hf _ h.gaps }
theorem A68 (ids:List (List Int)) (lines n p:Nat):O8 ids lines n (p+1)=M6 ids (O8 ids lines n p) p:=by
 unfold O8;rw [K44,K43];rfl
theorem A39 {Q:Int→Prop} {B lines n:Nat} {ids:List (List Int)} (hids:∀x∈ids,x.length≤B∧∀v∈x,Q v):∀p,LoomOk Q B lines n (O8 ids lines n p)
 | 0=>J53 Q B lines n
 | p+1=>by rw [A68];exact F34 hids (A39 hids p) p
theorem B33 (l:List Str) (s:Str):∀k:Int,0≤k→s∈l→k≤I5 l s k∧I5 l s k < k+l.length:=by
 induction l with
 | nil=>intro k _ h;cases h
 | cons x r ih =>
  intro k hk h
  unfold I5
  by_cases hx:x=s
  ·rw [if_pos hx];simp;omega
  ·rw [if_neg hx]
   have:=ih (k+1) (by omega) (by rcases List.mem_cons.1 h with rfl | h;exact absurd rfl hx;exact h)
   simp only [K08];omega
theorem E01 (l:List Str):∀(out:List Str) (s:Str),s∈out∨s∈l→s∈l.foldl J1 out:=by
 induction l with
 | nil=>intro out s h;rcases h with h | h;exact h;cases h
 | cons x r ih =>
  intro out s h
  apply ih
  rcases h with h | h
  ·left;unfold J1;split;exact h;exact List.mem_append_left _ h
  ·rcases List.mem_cons.1 h with rfl | h
   ·left;unfold J1;split;assumption;simp
   ·exact .inr h
theorem B97 (fs:List (List Str)) (s:Str) (f:List Str) (hf:f∈fs) (hs:s∈f):s∈E5 fs:=E01 _ _ _ (.inr (List.mem_flatten.2 ⟨f,hf,hs⟩))
theorem H94 (fs:List (List Str)):∀x∈fs.map (L2 (E5 fs)),∀v∈x,0≤v∧v < (E5 fs).length:=by
 intro x hx v hv
 obtain ⟨f,hf,rfl⟩:=List.mem_map.1 hx
 obtain ⟨s,hs,rfl⟩:=List.mem_map.1 hv
 have:=B33 (E5 fs) s 0 (Int.le_refl _) (B97 fs s f hf hs)
 omega
theorem E02 (l:List Str):∀(out:List Str) (s:Str),s∈l.foldl J1 out→s∈out∨s∈l:=by
 induction l with
 | nil=>intro out s h;exact .inl h
 | cons x r ih =>
  intro out s h
  rcases ih _ _ h with h | h
  ·unfold J1 at h
   split at h
   ·exact .inl h
   ·rcases List.mem_append.1 h with h | h
    ·exact .inl h
    ·simp at h;subst h;exact .inr (by simp)
  ·exact .inr (List.mem_cons_of_mem _ h)
theorem D74 (fs:List (List Str)) (s:Str) (h:s∈E5 fs):s∈fs.flatten:=by
 rcases E02 _ _ _ h with h | h
 ·cases h
 ·exact h
end Go.AL
namespace Go.AL
open Go
theorem D02 (s:Str):Lib.hasSuffix s [10]=ended s:=by
 unfold Lib.hasSuffix ended
 rw [Bool.eq_iff_iff,List.isSuffixOf_iff_suffix,beq_iff_eq]
 constructor
 ·rintro ⟨t,rfl⟩;simp
 ·intro h
  obtain ⟨hne,h2⟩:=List.getLast?_eq_some_iff.1 h
  exact ⟨hne,h2.symm⟩
def B98 (s:Str):Str:=if ended s then s.dropLast else s
theorem F35 (s:Str):Lib.trimSuffix s [10]=B98 s:=by
 unfold Lib.trimSuffix B98
 rw [D02,List.dropLast_eq_take];rfl
theorem A24 (c:UInt8):∀l:Str,(c∉l∧Lib.indexByte l c = -1)∨∃a b,l=a++c::b∧c∉a∧Lib.indexByte l c=a.length
 | []=>.inl ⟨by simp,rfl⟩
 | x::l=>by
  unfold Lib.indexByte
  by_cases hx:x=c
  ·exact .inr ⟨[],l,by rw [hx];rfl,by simp,by simp [hx]⟩
  ·rcases A24 c l with ⟨h1,h2⟩ | ⟨a,b,h1,h2,h3⟩
   ·exact .inl ⟨by simp [h1,Ne.symm hx],by simp [hx,h2]⟩
   ·refine .inr ⟨x::a,b,by rw [h1];rfl,by simp [h2,Ne.symm hx],?_⟩
    have h4:¬((a.length:Int) = -1):=by omega
    simp [hx,h3,h4]
theorem F36 (c:UInt8) (l:Str):0≤Lib.indexByte l c↔c∈l:=by
 rcases A24 c l with ⟨h1,h2⟩ | ⟨a,b,h1,h2,h3⟩
 ·rw [h2];simp [h1]
 ·rw [h3,h1];simp
theorem H95 (s:Str):J5 s=true↔s≠[]∧10∉s.dropLast:=by
 unfold J5
 rw [K10,List.all_eq_true]
 constructor
 ·rintro ⟨h1,h2⟩
  exact ⟨by simpa using h2,fun h=>by have:=h1 10 h;simp at this⟩
 ·rintro ⟨h1,h2⟩
  exact ⟨fun x hx=>by simpa using fun e:x=10=>h2 (e ▸ hx),by simpa using h1⟩
theorem J54 (s:Str):10∈B98 s↔10∈s.dropLast:=by
 unfold B98
 split
 ·exact Iff.rfl
 ·rename_i h
  by_cases hs:s=[]
  ·subst hs;simp
  ·constructor
   ·intro h2
    have e:=(List.dropLast_concat_getLast hs).symm
    rw [e] at h2
    rcases List.mem_append.1 h2 with h3 | h3
    ·exact h3
    ·exfalso
     refine h ?_
     unfold ended
     rw [List.getLast?_eq_some_getLast hs]
     simp at h3;simp [←h3]
   ·exact fun h2=>List.dropLast_subset s h2
theorem J05 (s:Str):(if decide (s≠[])=true then !decide (0≤Lib.indexByte (B98 s) 10) else false)=J5 s:=by
 rw [Bool.eq_iff_iff,H95]
 have h:=J54 s
 have h2:=F36 10 (B98 s)
 by_cases hs:s=[]
 ·simp [hs]
 ·simp [hs,h2,h]
theorem D75 (s:Str) (r:List Str):Y4 (s::r)=(J5 s&&(r.isEmpty||ended s)&&Y4 r):=rfl
def H14 (a b:Int):Int:=IntKind.u32.wrap ((BitVec.ofInt IntKind.u32.bits a &&& BitVec.ofInt IntKind.u32.bits b).toNat:Int)
def not32 (a:Int):Int:=IntKind.u32.wrap ((BitVec.ofInt IntKind.u32.bits IntKind.u32.max ^^^ BitVec.ofInt IntKind.u32.bits a).toNat:Int)
theorem y8 (n c:Nat):W4 (n:Int) c=n.testBit c:=by
 unfold W4
 rw [Nat.testBit_eq_decide_div_mod_eq]
 have:((n:Int) / 2 ^ c % 2 == 1)=decide (n / 2 ^ c % 2=1):=by
  rw [Bool.eq_iff_iff,beq_iff_eq,decide_eq_true_iff]
  have e:(n:Int) / 2 ^ c % 2=((n / 2 ^ c % 2:Nat):Int):=by simp
  rw [e];omega
 exact this
theorem A69 (n:Nat) (h:n < 4294967296):IntKind.u32.wrap (n:Int)=n:=by simp [IntKind.wrap,IntKind.signed,IntKind.bits];omega
theorem D40 (n:Nat):BitVec.ofInt IntKind.u32.bits (n:Int)=BitVec.ofNat 32 n:=BitVec.ofInt_natCast 32 n
theorem J06 (n m:Nat) (hn:n < 4294967296) (hm:m < 4294967296):H14 n m=((n &&& m:Nat):Int):=by
 unfold H14
 rw [D40,D40]
 have e:(BitVec.ofNat 32 n &&& BitVec.ofNat 32 m).toNat=n &&& m:=by
  rw [BitVec.toNat_and,BitVec.toNat_ofNat,BitVec.toNat_ofNat,Nat.mod_eq_of_lt (by omega),Nat.mod_eq_of_lt (by omega)]
 have h2:n &&& m < 2 ^ 32:=Nat.and_lt_two_pow n (by omega)
 show IntKind.u32.wrap ((BitVec.ofNat 32 n &&& BitVec.ofNat 32 m).toNat:Int)=_
 rw [e,A69 _ (by omega)]
theorem D03 (n m:Nat) (hn:n < 4294967296) (hm:m < 4294967296):K6 n m=((n ||| m:Nat):Int)∧n ||| m < 4294967296:=by
 unfold K6
 rw [D40,D40]
 have e:(BitVec.ofNat 32 n ||| BitVec.ofNat 32 m).toNat=n ||| m:=by
  rw [BitVec.toNat_or,BitVec.toNat_ofNat,BitVec.toNat_ofNat,Nat.mod_eq_of_lt (by omega),Nat.mod_eq_of_lt (by omega)]
 have h2:n ||| m < 2 ^ 32:=Nat.or_lt_two_pow (by omega) (by omega)
 refine ⟨?_,by omega⟩
 show IntKind.u32.wrap ((BitVec.ofNat 32 n ||| BitVec.ofNat 32 m).toNat:Int)=_
 rw [e,A69 _ (by omega)]
theorem J07 (n:Nat) (hn:n < 4294967296):not32 n=((4294967295 ^^^ n:Nat):Int)∧4294967295 ^^^ n < 4294967296:=by
 unfold not32
 rw [D40,show IntKind.u32.max=((4294967295:Nat):Int) from rfl,D40]
 have e:(BitVec.ofNat 32 4294967295 ^^^ BitVec.ofNat 32 n).toNat=4294967295 ^^^ n:=by
  rw [BitVec.toNat_xor,BitVec.toNat_ofNat,BitVec.toNat_ofNat,Nat.mod_eq_of_lt (by omega),Nat.mod_eq_of_lt (by omega)]
 have h2:4294967295 ^^^ n < 2 ^ 32:=Nat.xor_lt_two_pow (by omega) (by omega)
 refine ⟨?_,by omega⟩
 show IntKind.u32.wrap ((BitVec.ofNat 32 4294967295 ^^^ BitVec.ofNat 32 n).toNat:Int)=_
 rw [e,A69 _ (by omega)]
theorem J55 (c:Nat) (h:c < 32):(4294967295:Nat).testBit c=true:=by
 have:(4294967295:Nat)=2 ^ 32 - 1:=rfl
 rw [this,Nat.testBit_two_pow_sub_one];simpa using h
def F37 (r:Row):Int:=if r.Lost then r.Marks else not32 r.Marks
def C43 (res:Bool) (par:Int) (r:Row):Bool:=decide (H14 par (F37 r)=0)&&(r.Lost||!res)
def B99 (res:Bool) (r:Row):Bool:=if ended r.Text then res else res||!r.Lost
def C00 (par:Int) (r:Row):Int:=if ended r.Text then par else K6 par (F37 r)
def T8:Bool→Int→List Row→Bool
 | _,_,[]=>true
 | res,par,r::rs=>J5 r.Text&&C43 res par r&&T8 (B99 res r) (C00 par r) rs
theorem H15 (r:Row) (hr:0≤r.Marks∧r.Marks < 4294967296):∃m:Nat,m < 4294967296∧F37 r=m∧∀c,c < 32→m.testBit c=Z8 r c:=by
 obtain ⟨k,hk⟩:∃k:Nat,r.Marks=k:=⟨r.Marks.toNat,by omega⟩
 have hv:∀c:Nat,c < 32→Z8 r c=(k.testBit c == r.Lost):=by
  intro c hc
  rw [Z8,if_neg (by omega),if_neg (by omega),hk,K12,y8]
 unfold F37
 cases hl:r.Lost
 ·have:=J07 k (by omega)
  refine ⟨4294967295 ^^^ k,this.2,by rw [if_neg (by simp),hk];exact this.1,fun c hc=>?_⟩
  rw [hv c hc,hl,Nat.testBit_xor,J55 c hc]
  cases k.testBit c<;>rfl
 ·refine ⟨k,by omega,by rw [if_pos rfl];exact hk,fun c hc=>?_⟩
  rw [hv c hc,hl]
  cases k.testBit c<;>rfl
theorem B34 (r:Row):Z8 r (-1)=!r.Lost:=by rw [Z8,if_pos rfl]
def m6:Bool→List Str→Bool
 | _,[]=>true
 | b,s::r=>!b&&J5 s&&m6 (!ended s) r
theorem G44 (l:List Str):m6 true l=l.isEmpty:=by cases l<;>simp [m6]
theorem H16 (l:List Str):Y4 l=m6 false l:=by
 induction l with
 | nil=>rfl
 | cons s r ih =>
  rw [D75,ih,m6]
  cases he:ended s
  ·rw [show (!false)=true from rfl,G44]
   cases r<;>simp [m6]
  ·simp
structure EndsAt (res:Bool) (par:Int) (bad:Int→Bool):Prop where
 res:res=bad (-1)
 par:∃p:Nat,p < 4294967296∧par=p∧∀c:Nat,c < 32→p.testBit c=bad c
theorem J56 (n m:Nat) (hm:m < 4294967296):n &&& m=0↔∀c,c < 32→m.testBit c=true→n.testBit c=false:=by
 constructor
 ·intro h c hc hm1
  have:(n &&& m).testBit c=false:=by rw [h];simp
  rw [Nat.testBit_and,hm1] at this
  simpa using this
 ·intro h
  refine Nat.eq_of_testBit_eq fun c=>?_
  rw [Nat.testBit_and,Nat.zero_testBit]
  by_cases hc:c < 32
  ·cases hm1:m.testBit c
   ·simp
   ·rw [h c hc hm1];rfl
  ·have:m.testBit c=false:=Nat.testBit_lt_two_pow (Nat.lt_of_lt_of_le (by omega:m < 2 ^ 32) (Nat.pow_le_pow_right (by omega) (by omega)))
   rw [this];simp
theorem J08 {res:Bool} {par:Int} {bad:Int→Bool} (h:EndsAt res par bad) (r:Row) (hr:0≤r.Marks∧r.Marks < 4294967296):C43 res par r=true↔∀c:Int,-1≤c→c < 32→Z8 r c=true→bad c=false:=by
 obtain ⟨m,hm,he,hb⟩:=H15 r hr
 obtain ⟨p,hp,hpe,hpb⟩:=h.par
 unfold C43
 rw [he,hpe,J06 p m hp hm,K10,decide_eq_true_iff,show (((p &&& m:Nat):Int)=0)↔p &&& m=0 by omega,J56 p m hm]
 constructor
 ·rintro ⟨h1,h2⟩ c hc1 hc2 hv
  by_cases hc:c = -1
  ·subst hc
   rw [B34] at hv
   rw [←h.res]
   simpa [show r.Lost=false by simpa using hv] using h2
  ·obtain ⟨k,rfl⟩:∃k:Nat,c=k:=⟨c.toNat,by omega⟩
   rw [←hpb k (by omega)]
   exact h1 k (by omega) (by rw [hb k (by omega)];exact hv)
 ·intro h1
  refine ⟨fun c hc hm1=>?_,?_⟩
  ·rw [hpb c hc]
   exact h1 c (by omega) (by omega) (by rw [←hb c hc];exact hm1)
  ·cases hl:r.Lost
   ·have:=h1 (-1) (by omega) (by omega) (by rw [B34,hl];rfl)
    rw [h.res,this];rfl
   ·rfl
theorem J09 {res:Bool} {par:Int} {bad:Int→Bool} (h:EndsAt res par bad) (r:Row) (hr:0≤r.Marks∧r.Marks < 4294967296):EndsAt (B99 res r) (C00 par r) (fun c=>bad c||(Z8 r c&&!ended r.Text)):=by
 obtain ⟨m,hm,he,hb⟩:=H15 r hr
 obtain ⟨p,hp,hpe,hpb⟩:=h.par
 unfold B99 C00
 cases hen:ended r.Text
 ·have ho:=D03 p m hp hm
  refine ⟨?_,p ||| m,ho.2,?_,fun c hc=>?_⟩
  ·rw [if_neg (by simp),h.res,B34];simp
  ·rw [if_neg (by simp),he,hpe];exact ho.1
  ·rw [Nat.testBit_or,hpb c hc,hb c hc];simp
 ·refine ⟨?_,p,hp,?_,fun c hc=>?_⟩
  ·rw [if_pos rfl,h.res];simp
  ·rw [if_pos rfl];exact hpe
  ·rw [hpb c hc];simp
theorem C61 (r:Row) (rs:List Row) (c:Int):K7 (r::rs) c=if Z8 r c then r.Text::K7 rs c else K7 rs c:=by
 unfold K7
 cases hv:Z8 r c<;>simp [hv]
theorem E74:∀(rows:List Row) (res:Bool) (par:Int) (bad:Int→Bool),EndsAt res par bad→I8 rows→(T8 res par rows=true↔(∀r∈rows,J5 r.Text=true)∧∀c:Int,-1≤c→c < 32→m6 (bad c) (K7 rows c)=true)
 | [],res,par,bad,_,_=>by simp [T8,K7,m6]
 | r :: rs,res,par,bad,h,hr=>by
  have hr1:=hr r (by simp)
  have ih:=E74 rs _ _ _ (J09 h r hr1) (fun x hx=>hr x (by simp [hx]))
  rw [T8,K10,K10,J08 h r hr1,ih]
  constructor
  ·rintro ⟨⟨h1,h2⟩,h3,h4⟩
   refine ⟨fun x hx=>?_,fun c hc1 hc2=>?_⟩
   ·rcases List.mem_cons.1 hx with rfl | hx
    ·exact h1
    ·exact h3 x hx
   ·have h5:=h4 c hc1 hc2
    rw [C61]
    cases hv:Z8 r c
    ·rw [if_neg (by simp)];simpa [hv] using h5
    ·rw [if_pos rfl,m6,h2 c hc1 hc2 hv,h1]
     rw [h2 c hc1 hc2 hv,hv] at h5
     simpa using h5
  ·rintro ⟨h1,h2⟩
   refine ⟨⟨h1 r (by simp),fun c hc1 hc2 hv=>?_⟩,fun x hx=>h1 x (by simp [hx]),fun c hc1 hc2=>?_⟩
   ·have h3:=h2 c hc1 hc2
    rw [C61,hv,if_pos rfl,m6] at h3
    simp only [K10,Bool.not_eq_true'] at h3
    exact h3.1.1
   ·have h3:=h2 c hc1 hc2
    rw [C61] at h3
    cases hv:Z8 r c
    ·rw [hv,if_neg (by simp)] at h3;simpa using h3
    ·rw [hv,if_pos rfl,m6] at h3
     simp only [K10,Bool.not_eq_true'] at h3
     rw [h3.1.1];simpa using h3.2
theorem ends0:EndsAt false 0 (fun _=>false):=⟨rfl,0,by omega,rfl,fun c _=>by simp⟩
theorem G45 (m:Int) (n c:Nat) (h0:0≤m) (h:m / 2 ^ n=0) (hc:n≤c):W4 m c=false:=by
 obtain ⟨k,rfl⟩:∃k:Nat,m=k:=⟨m.toNat,by omega⟩
 rw [y8]
 have h1:(k:Int) / 2 ^ n=((k / 2 ^ n:Nat):Int):=by simp
 rw [h1] at h
 have h2:k / 2 ^ n=0:=by omega
 have h3:k < 2 ^ n:=by
  rcases Nat.div_eq_zero_iff.1 h2 with h3 | h3
  ·have:=Nat.two_pow_pos n;omega
  ·exact h3
 exact Nat.testBit_lt_two_pow (Nat.lt_of_lt_of_le h3 (Nat.pow_le_pow_right (by omega) hc))
theorem G46 (rows:List Row) (n:Nat) (hm:N8 rows n=true) (hr:I8 rows) (c:Int) (h1:(n:Int)≤c) (h2:c < 32):K7 rows c=K7 rows (-1):=by
 unfold K7
 have:rows.filter (Z8 · c)=rows.filter (Z8 · (-1)):=by
  refine List.filter_congr fun r hmem=>?_
  have h3:X1 n r=true:=List.all_eq_true.1 hm r hmem
  unfold X1 at h3
  simp only [K10,beq_iff_eq] at h3
  have h4:=G45 r.Marks n c.toNat (hr r hmem).1 h3.1 (by omega)
  rw [B34,Z8,if_neg (by omega),if_neg (by omega),h4]
  cases r.Lost<;>rfl
 rw [this]
theorem E75 (rows:List Row) (n:Nat) (hn:n≤32) (hm:N8 rows n=true) (hr:I8 rows):T8 false 0 rows=T3 rows n:=by
 rw [Bool.eq_iff_iff,E74 rows false 0 _ ends0 hr,T3,K10,List.all_eq_true,List.all_eq_true]
 refine and_congr Iff.rfl ?_
 constructor
 ·intro h k hk
  have hk:=List.mem_range.1 hk
  rw [H16]
  exact h _ (by omega) (by omega)
 ·intro h c hc1 hc2
  have key:∀c:Int,-1≤c→c < n→m6 false (K7 rows c)=true:=by
   intro c h1 h2
   have:=h (c+1).toNat (List.mem_range.2 (by omega))
   rw [show (((c+1).toNat:Nat):Int) - 1=c by omega,H16] at this
   exact this
  by_cases hcn:c < n
  ·exact key c hc1 hcn
  ·rw [G46 rows n hm hr c (by omega) hc2]
   exact key (-1) (by omega) (by omega)
end Go.AL
namespace Go.AL
open Go
def B35 (c:UInt8):Bool:=decide (33≤c.toNat∧c.toNat≤126∧c.toNat≠34∧c.toNat≠92)
def digs8:Str:=[48,49,50,51,52,53,54,55]
def digs10:Str:=[48,49,50,51,52,53,54,55,56,57]
def D76 (c:UInt8):Str:=(digs8.drop (c.toNat / 64)).take 1++(digs8.drop (c.toNat / 8 % 8)).take 1++(digs8.drop (c.toNat % 8)).take 1
def b8 (c:UInt8):Str:=if c.toNat=34∨c.toNat=92 then [92,c] else if c.toNat=10 then [92,110] else if c.toNat=9 then [92,116] else if c.toNat < 32∨126 < c.toNat then 92::D76 c else [c]
def d9 (s:Str):Str:=if s≠[]∧s.all B35=true then s else 34::((s.map b8).flatten++[34])
theorem F78 (c:UInt8):(D76 c).length≤3:=by unfold D76;simp only [K06,K19];omega
theorem F79 (c:UInt8):(b8 c).length≤4:=by
 have:=F78 c
 unfold b8;split
 ·simp
 ·split
  ·simp
  ·split
   ·simp
   ·split
    ·simp only [K08];omega
    ·simp
theorem D04 (s:Str):((s.map b8).flatten).length≤4*s.length:=by
 induction s with
 | nil=>simp
 | cons c r ih=>have:=F79 c;simp only [K14,K25,K06,K08];omega
theorem H17 (s:Str):(d9 s).length≤4*s.length+2:=by
 unfold d9;have:=D04 s
 split
 ·omega
 ·simp only [K08,K06,K11];omega
def l5 (n:Int):Str:=if n < 0∨2147483647 < n then [] else Lib.itoa n
def O5 (a n:Int):Str:=if a < 0∨n < 0∨2147483647 < a∨2147483647 - a < n then [] else if n=0 then l5 a++[44,48] else if n=1 then l5 (a+1) else l5 (a+1)++[44]++l5 n
theorem C44:∀(k u:Nat),u < 10 ^ (k+1)→(Lib.decDigits u).length≤k+1
 | 0,u,h=>by rw [Lib.decDigits,dif_pos (by omega)];simp
 | k+1,u,h=>by
  rw [Lib.decDigits]
  split
  ·simp
  ·have:=C44 k (u / 10) (by rw [Nat.div_lt_iff_lt_mul (by omega)];rw [Nat.pow_succ] at h;omega)
   simp only [K06,K08,K11];omega
theorem X4 (n:Int):(l5 n).length≤10:=by
 unfold l5;split
 ·simp
 ·unfold Lib.itoa
  rw [if_neg (by omega)]
  exact C44 9 n.toNat (by omega)
theorem A70 (a n:Int):(O5 a n).length≤21:=by
 have:=X4 a;have:=X4 (a+1);have:=X4 n
 unfold O5
 split
 ·simp
 ·split
  ·simp only [K06,K08,K11];omega
  ·split
   ·omega
   ·simp only [K06,K08,K11];omega
theorem dig10 (k:Nat) (h:k < 10):(digs10.drop k).take 1=[UInt8.ofNat (48+k)]:=by
 have:∀k:Fin 10,(digs10.drop k.1).take 1=[UInt8.ofNat (48+k.1)]:=by decide
 exact this ⟨k,h⟩
theorem J10 (n:Int) (h0:0≤n) (h:n < 10):l5 n=(digs10.drop n.toNat).take 1:=by
 unfold l5 Lib.itoa
 rw [if_neg (by omega),if_neg (by omega),dig10 _ (by omega),Lib.decDigits,dif_pos (by omega)]
theorem fmt_big (n:Int) (h0:10≤n) (h:n≤2147483647):l5 n=l5 (n / 10)++(digs10.drop (n % 10).toNat).take 1:=by
 unfold l5 Lib.itoa
 rw [if_neg (by omega),if_neg (by omega),if_neg (by omega),if_neg (by omega),dig10 _ (by omega),Lib.decDigits,dif_neg (by omega)]
 have e1:n.toNat / 10=(n / 10).toNat:=by omega
 have e2:n.toNat % 10=(n % 10).toNat:=by omega
 rw [e1,e2]
theorem dig8 (k:Nat) (h:k < 8):(digs8.drop k).take 1=[UInt8.ofNat (48+k)]:=by
 have:∀k:Fin 8,(digs8.drop k.1).take 1=[UInt8.ofNat (48+k.1)]:=by decide
 exact this ⟨k,h⟩
theorem H18 (c:UInt8):D76 c=[UInt8.ofNat (48+c.toNat / 64),UInt8.ofNat (48+c.toNat / 8 % 8),UInt8.ofNat (48+c.toNat % 8)]:=by
 have:=c.toNat_lt
 unfold D76
 rw [dig8 _ (by omega),dig8 _ (by omega),dig8 _ (by omega)];rfl
def escs (s:Str) (i:Nat):Str:=((s.take i).map b8).flatten
theorem J11 (s:Str):escs s 0=[]:=rfl
theorem F80 (s:Str) (i:Nat) (h:i < s.length):escs s (i+1)=escs s i++b8 s[i]:=by
 unfold escs;rw [K16 h,K20,K36];simp only [K14,K38,K25,K52,K29]
theorem H19 (s:Str) (i:Nat) (h:i≤s.length):(escs s i).length≤4*i:=by
 have:=D04 (s.take i);unfold escs;rw [K19] at this;omega
def plains (s:Str) (i:Nat):Bool:=decide (s≠[])&&(s.take i).all B35
theorem D77 (s:Str):plains s 0=decide (s≠[]):=by simp [plains]
theorem D78 (s:Str) (i:Nat) (h:i < s.length):plains s (i+1)=(plains s i&&B35 s[i]):=by
 unfold plains;rw [K16 h,K58];simp only [List.all_cons,List.all_nil,Bool.and_true,Bool.and_assoc]
theorem B36 (s:Str):d9 s=if plains s s.length=true then s else (34::escs s s.length)++[34]:=by
 unfold d9 plains escs
 rw [K28]
 simp only [K10,decide_eq_true_eq,K45]
end Go.AL
namespace Go.AL
open Go
def Q5 (cur:Str):Str→List Str
 | []=>[cur]
 | c::r=>if c=10 then (cur++[c])::Q5 [] r else Q5 (cur++[c]) r
def T9 (b:Str):List Str:=Q5 [] b
theorem F38 (a cur:Str) (h:(10:UInt8)∉a):Q5 cur a=[cur++a]:=by
 induction a generalizing cur with
 | nil=>simp [Q5]
 | cons c r ih =>
  simp only [K54,not_or] at h
  rw [Q5,if_neg (fun e=>h.1 e.symm),ih _ h.2];simp
theorem G47 (a b cur:Str) (h:(10:UInt8)∉a):Q5 cur (a++10::b)=(cur++a++[10])::Q5 [] b:=by
 induction a generalizing cur with
 | nil=>simp [Q5]
 | cons c r ih =>
  simp only [K54,not_or] at h
  rw [K45,Q5,if_neg (fun e=>h.1 e.symm),ih _ h.2];simp
theorem b9 (s cur:Str):(Q5 cur s).length=s.count 10+1:=by
 induction s generalizing cur with
 | nil=>rfl
 | cons c r ih =>
  by_cases hc:c=10
  ·subst hc;rw [Q5,if_pos rfl,K08,ih,List.count_cons_self]
  ·rw [Q5,if_neg hc,ih,List.count_cons_of_ne hc]
theorem H20 (s cur:Str):J3 cur s=if (Q5 cur s).getLastD []=[] then (Q5 cur s).dropLast else Q5 cur s:=by
 induction s generalizing cur with
 | nil=>by_cases h:cur=[]<;>simp [J3,Q5,h]
 | cons c r ih =>
  rw [J3,Q5]
  by_cases hc:c=10
  ·rw [if_pos hc,if_pos hc,ih]
   have hn:Q5 [] r≠[]:=fun e=>by have:=b9 r [];rw [e] at this;simp at this
   obtain ⟨x,y,hxy⟩:=List.exists_cons_of_ne_nil hn
   rw [hxy]
   have e1:((cur++[c])::x::y).getLastD []=(x::y).getLastD []:=by cases y<;>simp [List.getLastD]
   rw [e1]
   split
   ·rfl
   ·rfl
  ·rw [if_neg hc,if_neg hc,ih]
theorem E76 (s cur:Str):(J3 cur s).length=s.count 10+if s=[] then (if cur=[] then 0 else 1) else if ended s=true then 0 else 1:=by
 induction s generalizing cur with
 | nil=>by_cases h:cur=[]<;>simp [J3,h]
 | cons c r ih =>
  have he:ended (c::r)=if r=[] then c == 10 else ended r:=by
   cases r with
   | nil=>simp [ended]
   | cons d t=>simp [ended,List.getLast?_cons_cons]
  rw [J3,if_neg (List.cons_ne_nil _ _),he]
  by_cases hc:c=10
  ·subst hc
   rw [if_pos rfl,K08,ih,List.count_cons_self]
   by_cases hr:r=[]<;>simp [hr]
   omega
  ·rw [if_neg hc,ih,List.count_cons_of_ne hc]
   by_cases hr:r=[]<;>simp [hr,hc]
theorem F39 (s:Str):(C2 s).length=s.count 10+if s≠[]∧ended s=false then 1 else 0:=by
 unfold C2
 rw [E76]
 by_cases hs:s=[]<;>simp [hs]
 cases ended s<;>simp
theorem H96 {P:List Str} {i:Nat} {r a b:Str} (h:P.drop i=T9 r) (hr:r=a++10::b) (ha:(10:UInt8)∉a):P[i]?=some (a++[10])∧P.drop (i+1)=T9 b:=by
 have e:T9 r=(a++[10])::T9 b:=by rw [hr];unfold T9;rw [G47 _ _ _ ha];rfl
 rw [e] at h
 refine ⟨by rw [←List.head?_drop,h];rfl,?_⟩
 rw [←List.tail_drop,h];rfl
theorem F81 {α:Type} (P:List α) (z x:α) (i:Nat) (h:P[i]?=some x):(P.take i++List.replicate (P.length - i) z).set i x=P.take (i+1)++List.replicate (P.length - (i+1)) z:=by
 obtain ⟨hi,hx⟩:=List.getElem?_eq_some_iff.1 h
 have hl:(P.take i).length=i:=by rw [K19];omega
 rw [List.set_append_right _ _ (by omega),hl,Nat.sub_self,show P.length - i=(P.length - (i+1))+1 by omega,List.replicate_succ,List.set_cons_zero,K16 hi,hx,K18]
 rfl
def C24 (b:Str):List Str × Int:=if b.length > 1048576∨(C2 b).length > 4096 then ([],1) else (C2 b,0)
end Go.AL
namespace Go.AL
open Go
def O2 (n:Int):Prop:=0≤n∧n≤4096
instance (n:Int):Decidable (O2 n):=by unfold O2;exact inferInstance
def G48 (k:Nat) (i j:Int) (c:Change):Prop:=((((((¬O2 c.Old∨¬O2 c.OldLen)∨¬O2 c.New)∨¬O2 c.NewLen)∨c.OldLen+c.NewLen=0)∨c.Old - i≠c.New - j)∨c.Old < i)∨(0 < (k:Int)∧c.Old=i)
instance (k:Nat) (i j:Int) (c:Change):Decidable (G48 k i j c):=by unfold G48;exact inferInstance
def N0 (k:Nat) (i j:Int):List Change→Int→Int→Bool
 | [],m,n=>decide (¬(m - i≠n - j∨m < i))
 | c::r,m,n=>decide (¬G48 k i j c)&&N0 (k+1) (c.Old+c.OldLen) (c.New+c.NewLen) r m n
def check8 (l:List Change) (m n:Int):Int:=if ¬O2 m∨¬O2 n then 80 else if N0 0 0 0 l m n=true then 0 else 80
def ScOk (i j:Int):List Change→Int→Int→Prop
 | [],m,n=>i≤m∧j≤n
 | c::r,m,n=>O2 c.Old∧O2 c.OldLen∧O2 c.New∧O2 c.NewLen∧i≤c.Old∧j≤c.New∧ScOk (c.Old+c.OldLen) (c.New+c.NewLen) r m n
theorem A71:∀(l:List Change) (k:Nat) (i j m n:Int),N0 k i j l m n=true→ScOk i j l m n
 | [],k,i,j,m,n,h=>by simp only [N0,decide_eq_true_eq] at h;simp only [ScOk];omega
 | c::r,k,i,j,m,n,h=>by
  simp only [N0,K10,decide_eq_true_eq] at h
  obtain ⟨h1,h2⟩:=h
  unfold G48 at h1
  refine ⟨?_,?_,?_,?_,?_,?_,A71 r _ _ _ m n h2⟩
  all_goals (by_cases a1:O2 c.Old<;>by_cases a2:O2 c.OldLen<;>by_cases a3:O2 c.New<;>by_cases a4:O2 c.NewLen<;>simp [a1,a2,a3,a4] at h1 ⊢<;>omega)
def cAt (l:List Change) (k:Nat):Change:=l.getD k ⟨0,0,0,0⟩
theorem ScOk.end_le:∀{l:List Change} {i j m n:Int},ScOk i j l m n→i≤m∧j≤n
 | [],_,_,_,_,h=>h
 | c::r,i,j,m,n,⟨h1,h2,h3,h4,h5,h6,h7⟩=>by have:=h7.end_le;unfold O2 at *;omega
theorem ScOk.get:∀{l:List Change} {i j m n:Int} (k:Nat),ScOk i j l m n→k < l.length→O2 (cAt l k).Old∧O2 (cAt l k).OldLen∧O2 (cAt l k).New∧O2 (cAt l k).NewLen∧(cAt l k).Old+(cAt l k).OldLen≤m∧(cAt l k).New+(cAt l k).NewLen≤n
 | c::r,i,j,m,n,0,⟨h1,h2,h3,h4,h5,h6,h7⟩,_=>by have:=h7.end_le;exact ⟨h1,h2,h3,h4,this.1,this.2⟩
 | c::r,i,j,m,n,k+1,⟨h1,h2,h3,h4,h5,h6,h7⟩,hk=>by
  have:=h7.get k (by simpa using hk)
  simpa [cAt] using this
theorem ScOk.next:∀{l:List Change} {i j m n:Int} (k:Nat),ScOk i j l m n→k+1 < l.length→(cAt l k).Old+(cAt l k).OldLen≤(cAt l (k+1)).Old
 | [c],_,_,_,_,_,_,hk=>by simp at hk
 | c::c2::r,i,j,m,n,0,⟨_,_,_,_,_,_,h7⟩,_=>by simpa [cAt] using h7.2.2.2.2.1
 | c::c2::r,i,j,m,n,k+1,⟨_,_,_,_,_,_,h7⟩,hk=>by
  have:=h7.next k (by simpa using hk)
  simpa [cAt] using this
theorem ScOk.mono {l:List Change} {m n:Int} (h:ScOk 0 0 l m n):∀(a b:Nat),a≤b→b < l.length→(cAt l a).Old≤(cAt l b).Old∧(cAt l a).Old+(cAt l a).OldLen≤(cAt l b).Old+(cAt l b).OldLen
 | a,0,h1,h2=>by rw [show a=0 by omega];omega
 | a,b+1,h1,h2=>by
  by_cases hab:a=b+1
  ·subst hab;omega
  ·have h3:=h.mono a b (by omega) (by omega)
   have h4:=h.next b h2
   have h5:=h.get b (by omega)
   have h6:=h.get (b+1) h2
   unfold O2 at *;omega
def G49 (a b:Int):Int:=if b < a then b else a
def opens (l:List Change) (ctx:Int) (k:Nat):Prop:=k=0∨2*ctx < (cAt l k).Old - (cAt l (k - 1)).Old - (cAt l (k - 1)).OldLen
instance (l:List Change) (ctx:Int) (k:Nat):Decidable (opens l ctx k):=by unfold opens;exact inferInstance
def I44:Hunk:=⟨0,0,⟨0,0⟩,⟨0,0⟩⟩
def B00 (l:List Change) (ctx:Int) (k:Nat):Hunk:=⟨k,0,⟨(cAt l k).Old - G49 ctx (cAt l k).Old,0⟩,⟨(cAt l k).New - G49 ctx (cAt l k).Old,0⟩⟩
def D05 (l:List Change) (m ctx:Int) (k:Nat) (h:Hunk):Hunk :=
 let c:=cAt l k
 let a:=G49 ctx (m - (c.Old+c.OldLen))
 ⟨h.First,k+1,⟨h.Old.From,c.Old+c.OldLen+a⟩,⟨h.New.From,c.New+c.NewLen+a⟩⟩
def D41 (l:List Change) (ctx:Int) (k:Nat) (out:List Hunk):List Hunk:=if opens l ctx k then out++[B00 l ctx k] else out
def Z7 (l:List Change) (m ctx:Int):Nat→List Hunk
 | 0=>[]
 | k+1=>let out:=D41 l ctx k (Z7 l m ctx k);out.set (out.length - 1) (D05 l m ctx k (out.getD (out.length - 1) I44))
theorem D79 (l:List Change) (m ctx:Int):∀k,(Z7 l m ctx k).length≤k∧(0 < k→0 < (Z7 l m ctx k).length)
 | 0=>by simp [Z7]
 | k+1=>by
  have h:=D79 l m ctx k
  simp only [Z7,K47,D41]
  split
  ·simp only [K06,K08,K11];omega
  ·rename_i ho
   have:k≠0:=fun e=>ho (.inl e)
   omega
end Go.AL
namespace Go.AL
open Go
def Q0 (s:Str):Bool:=decide (1≤s.length∧s.length≤200)
def I6 (ls:List PatchLine) (k:UInt8):List Str:=(ls.filter (fun x=>decide (x.Kind≠k))).map (·.Text)
def badLn (x:PatchLine):Prop:=((x.Kind≠32∧x.Kind≠45)∧x.Kind≠43)∨J5 x.Text=false
instance (x:PatchLine):Decidable (badLn x):=by unfold badLn;exact inferInstance
def C62 (x:PatchLine):Bool:=decide (¬badLn x)
def A87 (ls:List PatchLine):Bool:=ls.any (fun x=>decide (x.Kind≠32))
def D06 (some:Bool) (i j:Int) (h:PatchHunk):Prop:=((((some=false∨h.Old < i)∨h.New < j)∨4096 < h.Old)∨4096 < h.New)∨h.Old - i≠h.New - j
instance (s:Bool) (i j:Int) (h:PatchHunk):Decidable (D06 s i j h):=by unfold D06;exact inferInstance
def C01 (h:PatchHunk):Int:=(I6 h.Lines 43).length
def C02 (h:PatchHunk):Int:=(I6 h.Lines 45).length
def D42 (i j:Int):List PatchHunk→Bool
 | []=>true
 | h::r=>h.Lines.all C62&&(decide (¬D06 (A87 h.Lines) i j h)&&(decide (¬(4096 < h.Old+C01 h∨4096 < h.New+C02 h))&&D42 (h.Old+C01 h) (h.New+C02 h) r))
def P4 (hs:List PatchHunk) (k:UInt8):List Str:=(hs.map (fun h=>I6 h.Lines k)).flatten
def U6:List Str→Bool
 | []=>true
 | x::r=>(r.isEmpty||ended x)&&U6 r
def H97 (hs:List PatchHunk) (k:UInt8):Bool:=U6 (P4 hs k)
def D43 (hs:List PatchHunk):Bool:=D42 0 0 hs&&(H97 hs 43&&H97 hs 45)
def markS:Str:=[10,92,32,78,111,32,110,101,119,108,105,110,101,32,97,116,32,101,110,100,32,111,102,32,102,105,108,101,10]
def linePs (x:PatchLine):List Str:=if ended x.Text then [[x.Kind]++x.Text] else [[x.Kind]++x.Text,markS]
def headW (h:PatchHunk):Str:=[64,64,32,45]++O5 h.Old (C01 h)++[32,43]++O5 h.New (C02 h)++[32,64,64,10]
def hunkPs (h:PatchHunk):List Str:=headW h::(h.Lines.map linePs).flatten
def namePs (p:Patch):List Str:=[[45,45,45,32]++d9 p.OldName++[10],[43,43,43,32]++d9 p.NewName++[10]]
def writePs (p:Patch):List Str:=namePs p++(p.Hunks.map hunkPs).flatten
def I45 (p:Patch):Str:=(writePs p).flatten
def D07 (p:Patch):Int:=if Q0 p.OldName=false∨Q0 p.NewName=false then 120 else if D43 p.Hunks=false then 121 else if 16777216 < (I45 p).length then 1 else 0
def szL (x:PatchLine):Nat:=x.Text.length+64
def szH (h:PatchHunk):Nat:=64+(h.Lines.map szL).sum
def szP (hs:List PatchHunk):Nat:=(hs.map szH).sum
structure PFit (p:Patch):Prop where
 old:p.OldName.length≤4194304
 new:p.NewName.length≤4194304
 hunks:szP p.Hunks≤268435456
theorem szL_len (ls:List PatchLine):64*ls.length≤(ls.map szL).sum:=by
 induction ls with
 | nil=>simp
 | cons x r ih=>simp only [K14,K35,K08,szL];omega
end Go.AL
namespace Go.AL
open Go
def A72 (k:UInt8) (ts:List Str):List PatchLine:=ts.map fun t=>⟨k,t⟩
def sub (x:List Str) (a b:Int):List Str:=(x.drop a.toNat).take (b.toNat - a.toNat)
def B68 (c:Change):Int:=c.Old+c.OldLen
def A73 (l:List Change) (i0:Int) (a t:Nat):Int:=if t=0 then i0 else B68 (cAt l (a+t - 1))
theorem H98 (l:List Change) (i0:Int) (a t:Nat):A73 l i0 a (t+1)=B68 (cAt l (a+t)):=by
 unfold A73;rw [if_neg (by omega)];congr 2
def A25 (l:List Change) (x y:List Str) (i0:Int) (a:Nat):Nat→List PatchLine
 | 0=>[]
 | t+1=>A25 l x y i0 a t++A72 32 (sub x (A73 l i0 a t) (cAt l (a+t)).Old)++A72 45 (sub x (cAt l (a+t)).Old (B68 (cAt l (a+t))))++A72 43 (sub y (cAt l (a+t)).New ((cAt l (a+t)).New+(cAt l (a+t)).NewLen))
def m7 (l:List Change) (x y:List Str) (h:Hunk):PatchHunk :=
 ⟨h.Old.From,h.New.From,A25 l x y h.Old.From h.First.toNat (h.Last.toNat - h.First.toNat)++A72 32 (sub x (A73 l h.Old.From h.First.toNat (h.Last.toNat - h.First.toNat)) h.Old.To)⟩
end Go.AL
namespace Go.AL
open Go
end Go.AL
namespace Go.AL
open Go
def H21 (i j:Int) (h:PatchHunk):Prop:=((((h.Old < 0∨h.New < 0)∨4096 < h.Old)∨4096 < h.New)∨h.Old < i)∨h.Old - i≠h.New - j
instance (i j:Int) (h:PatchHunk):Decidable (H21 i j h):=by unfold H21;exact inferInstance
end Go.AL
namespace Go.AL
open Go
theorem textsLen_le (rows:List Row) (B:Nat) (h:∀r∈rows,r.Text.length≤B):P3 rows≤rows.length*B:=by
 unfold P3
 induction rows with
 | nil=>simp
 | cons r rs ih =>
  have h1:=ih fun x hx=>h x (by simp [hx])
  have h2:=h r (by simp)
  simp only [K14,K25,K06,K08,K32,Nat.one_mul]
  omega
theorem H22 (b s:Str) (h:s∈C2 b):s.length≤b.length:=by
 have h1:(C2 b).flatten=b:=by
  have key:∀(s cur:Str),(J3 cur s).flatten=cur++s:=by
   intro s
   induction s with
   | nil=>intro cur;unfold J3;split<;>simp [*]
   | cons c r ih=>intro cur;unfold J3;split<;>simp [ih]
  exact key b []
 have h2:∀(l:List Str),s∈l→s.length≤l.flatten.length:=by
  intro l
  induction l with
  | nil=>intro h;cases h
  | cons x r ih =>
   intro h
   rcases List.mem_cons.1 h with rfl | h
   ·simp
   ·have:=ih h;simp only [K25,K06];omega
 have:=h2 _ h;rw [h1] at this;exact this
end Go.AL
namespace Go.AL
open Go
theorem E12 {x:List Str} {a b:Int} {s:Str} (h:s∈sub x a b):s∈x:=by
 unfold sub at h
 exact List.mem_of_mem_drop (List.mem_of_mem_take h)
end Go.AL
namespace Go.AL
open Go
end Go.AL
namespace Go.AL
open Go
def G50 (c:Change):Int:=c.New+c.NewLen
def eoI (i:Int) (l:List Change) (k:Nat):Int:=if k=0 then i else B68 (cAt l (k - 1))
def enI (j:Int) (l:List Change) (k:Nat):Int:=if k=0 then j else G50 (cAt l (k - 1))
theorem A18 (i:Int) (c:Change) (r:List Change) (k:Nat):eoI i (c::r) (k+1)=eoI (B68 c) r k:=by
 cases k<;>rfl
theorem A19 (j:Int) (c:Change) (r:List Change) (k:Nat):enI j (c::r) (k+1)=enI (G50 c) r k:=by
 cases k<;>rfl
theorem C03 (i:Int) (l:List Change) (k:Nat):eoI i l (k+1)=B68 (cAt l k):=rfl
theorem C04 (j:Int) (l:List Change) (k:Nat):enI j l (k+1)=G50 (cAt l k):=rfl
theorem D08 (c:Change) (r:List Change) (k:Nat):cAt (c::r) (k+1)=cAt r k:=rfl
def D44 (x y:List Str) (i j:Int):List Change→Prop
 | []=>sub x i x.length=sub y j y.length
 | c::r=>sub x i c.Old=sub y j c.New∧D44 x y (B68 c) (G50 c) r
theorem A51 (m n:Int):∀(l:List Change) (k0:Nat) (i j:Int),N0 k0 i j l m n=true→∀k,k < l.length →
  O2 (cAt l k).Old∧O2 (cAt l k).OldLen∧O2 (cAt l k).New∧O2 (cAt l k).NewLen∧(cAt l k).OldLen+(cAt l k).NewLen≠0∧(cAt l k).Old - eoI i l k=(cAt l k).New - enI j l k∧eoI i l k≤(cAt l k).Old∧(0 < k0+k→eoI i l k < (cAt l k).Old)
 | [],_,_,_,_,k,hk=>by simp at hk
 | c :: r,k0,i,j,h,k,hk=>by
  simp only [N0,K10,decide_eq_true_eq] at h
  obtain ⟨h1,h2⟩:=h
  cases k with
  | zero =>
   unfold G48 at h1
   show O2 c.Old∧O2 c.OldLen∧O2 c.New∧O2 c.NewLen∧c.OldLen+c.NewLen≠0∧c.Old - i=c.New - j∧i≤c.Old∧(0 < k0+0→i < c.Old)
   have d1:O2 c.Old:=by by_cases q:O2 c.Old;exact q;exact absurd (.inl (.inl (.inl (.inl (.inl (.inl (.inl q))))))) h1
   have d2:O2 c.OldLen:=by by_cases q:O2 c.OldLen;exact q;exact absurd (.inl (.inl (.inl (.inl (.inl (.inl (.inr q))))))) h1
   have d3:O2 c.New:=by by_cases q:O2 c.New;exact q;exact absurd (.inl (.inl (.inl (.inl (.inl (.inr q)))))) h1
   have d4:O2 c.NewLen:=by by_cases q:O2 c.NewLen;exact q;exact absurd (.inl (.inl (.inl (.inl (.inr q))))) h1
   refine ⟨d1,d2,d3,d4,fun q=>h1 (.inl (.inl (.inl (.inr q)))),?_,?_,fun h0=>?_⟩
   ·by_cases q:c.Old - i=c.New - j
    ·exact q
    ·exact absurd (.inl (.inl (.inr q))) h1
   ·by_cases q:c.Old < i
    ·exact absurd (.inl (.inr q)) h1
    ·omega
   ·by_cases q:c.Old < i
    ·exact absurd (.inl (.inr q)) h1
    ·by_cases q2:c.Old=i
     ·exact absurd (.inr ⟨by omega,q2⟩) h1
     ·omega
  | succ k =>
   have:=A51 m n r (k0+1) _ _ h2 k (by simpa using hk)
   rw [D08,A18,A19]
   obtain ⟨e1,e2,e3,e4,e5,e6,e7,e8⟩:=this
   exact ⟨e1,e2,e3,e4,e5,e6,e7,fun h0=>e8 (by omega)⟩
theorem H99 (m n:Int):∀(l:List Change) (k0:Nat) (i j:Int),N0 k0 i j l m n=true→m - eoI i l l.length=n - enI j l l.length∧eoI i l l.length≤m
 | [],_,i,j,h=>by
  simp only [N0,decide_eq_true_eq] at h
  show m - i=n - j∧i≤m
  omega
 | c::r,k0,i,j,h=>by
  simp only [N0,K10,decide_eq_true_eq] at h
  rw [K08,A18,A19]
  exact H99 m n r _ _ _ h.2
theorem G51 (x y:List Str):∀(l:List Change) (i j:Int),D44 x y i j l→∀k,k < l.length→sub x (eoI i l k) (cAt l k).Old=sub y (enI j l k) (cAt l k).New
 | [],_,_,_,k,hk=>by simp at hk
 | c::r,i,j,h,k,hk=>by
  cases k with
  | zero=>exact h.1
  | succ k=>rw [A18,A19,D08];exact G51 x y r _ _ h.2 k (by simpa using hk)
theorem I00 (x y:List Str):∀(l:List Change) (i j:Int),D44 x y i j l→sub x (eoI i l l.length) x.length=sub y (enI j l l.length) y.length
 | [],_,_,h=>h
 | c::r,i,j,h=>by rw [K08,A18,A19];exact I00 x y r _ _ h.2
def mkH (l:List Change) (m ctx:Int) (a b:Nat):Hunk:=D05 l m ctx (b - 1) (B00 l ctx a)
def GrOk (l:List Change) (m ctx:Int):Nat→List Hunk→Nat→Prop
 | a,[],k=>a=k
 | a,h::r,k=>∃b,a < b∧opens l ctx a∧h=mkH l m ctx a b∧GrOk l m ctx b r k
theorem GrOk.le {l:List Change} {m ctx:Int}:∀{hs:List Hunk} {a k:Nat},GrOk l m ctx a hs k→a≤k
 | [],a,k,h=>Nat.le_of_eq h
 | _::_,a,k,⟨b,h1,_,_,h2⟩=>by have:=GrOk.le h2;omega
theorem GrOk.snoc {l:List Change} {m ctx:Int} {k:Nat} (ho:opens l ctx k):∀{hs:List Hunk} {a:Nat},GrOk l m ctx a hs k→GrOk l m ctx a (hs++[mkH l m ctx k (k+1)]) (k+1)
 | [],a,h=>by
  obtain rfl:a=k:=h
  exact ⟨a+1,by omega,ho,rfl,rfl⟩
 | _::_,a,⟨b,h1,h2,h3,h4⟩=>⟨b,h1,h2,h3,GrOk.snoc ho h4⟩
theorem GrOk.last {l:List Change} {m ctx:Int} {k:Nat}:∀{hs:List Hunk} {a:Nat},GrOk l m ctx a hs k→hs≠[]→GrOk l m ctx a (hs.set (hs.length - 1) (D05 l m ctx k (hs.getD (hs.length - 1) I44))) (k+1)
 | [],_,_,h0=>absurd rfl h0
 | [h],a,⟨b,h1,h2,h3,h4⟩,_=>by
  obtain rfl:b=k:=h4
  subst h3
  exact ⟨b+1,by omega,h2,rfl,rfl⟩
 | h::h'::r,a,⟨b,h1,h2,h3,h4⟩,_=>by
  have ih:=GrOk.last h4 (by simp)
  refine ⟨b,h1,h2,h3,?_⟩
  simpa using ih
theorem B37 (l:List Change) (m ctx:Int):∀k,GrOk l m ctx 0 (Z7 l m ctx k) k
 | 0=>rfl
 | k+1=>by
  have ih:=B37 l m ctx k
  have hne:=(D79 l m ctx k).2
  simp only [Z7,D41]
  by_cases ho:opens l ctx k
  ·rw [if_pos ho]
   have e:(Z7 l m ctx k++[B00 l ctx k]).set ((Z7 l m ctx k++[B00 l ctx k]).length - 1) (D05 l m ctx k ((Z7 l m ctx k++[B00 l ctx k]).getD ((Z7 l m ctx k++[B00 l ctx k]).length - 1) I44))=Z7 l m ctx k++[mkH l m ctx k (k+1)]:=by
    simp [mkH]
   rw [e]
   exact ih.snoc ho
  ·rw [if_neg ho]
   refine ih.last ?_
   have:k≠0:=fun e=>ho (.inl e)
   have:=hne (by omega)
   intro e;rw [e] at this;simp at this
theorem B38 (x:List Str) {a b c:Int} (h0:0≤a) (h1:a≤b) (h2:b≤c):sub x a b++sub x b c=sub x a c:=by
 unfold sub
 obtain ⟨u,rfl⟩:∃u:Nat,(u:Int)=a:=⟨a.toNat,by omega⟩
 obtain ⟨v,rfl⟩:∃v:Nat,(v:Int)=b:=⟨b.toNat,by omega⟩
 obtain ⟨w,rfl⟩:∃w:Nat,(w:Int)=c:=⟨c.toNat,by omega⟩
 simp only [K12]
 have h3:x.drop v=(x.drop u).drop (v - u):=by rw [List.drop_drop];congr 1;omega
 rw [h3,show w - u=(v - u)+(w - v) by omega,List.take_add]
theorem I46 (x:List Str) (a:Int):sub x a a=[]:=by simp [sub]
theorem B39 (x:List Str) {a b:Int} (h0:0≤a) (h1:a≤b) (h2:b≤x.length):((sub x a b).length:Int)=b - a:=by
 unfold sub;rw [K19,K23];omega
theorem E77 {x y:List Str} {p q p' q' e:Int} (h:sub x p q=sub y p' q') (h0:0≤p) (h0':0≤p') (he:0≤e) (h1:e≤q - p) (h2:q - p=q' - p'):sub x (q - e) q=sub y (q' - e) q':=by
 have key:∀(z:List Str) (a b:Int),0≤a→e≤b - a→sub z (b - e) b=(sub z a b).drop (b - a - e).toNat:=by
  intro z a b ha hb
  unfold sub
  rw [List.drop_take,List.drop_drop]
  congr 1
  ·omega
  ·congr 1;omega
 rw [key x p q h0 h1,key y p' q' h0' (by omega),h,h2]
theorem H23 {x y:List Str} {p q p' q' e:Int} (h:sub x p q=sub y p' q') (h0:0≤p) (h0':0≤p') (he:0≤e) (h1:e≤q - p) (h2:q - p=q' - p'):sub x p (p+e)=sub y p' (p'+e):=by
 have key:∀(z:List Str) (a b:Int),0≤a→e≤b - a→sub z a (a+e)=(sub z a b).take e.toNat:=by
  intro z a b ha hb
  unfold sub
  rw [List.take_take]
  congr 1
  omega
 rw [key x p q h0 h1,key y p' q' h0' (by omega),h]
theorem B40 (p q:List PatchLine) (k:UInt8):I6 (p++q) k=I6 p k++I6 q k:=by simp [I6]
theorem B41 (k k':UInt8) (ts:List Str):I6 (A72 k ts) k'=if k=k' then [] else ts:=by
 unfold I6 A72
 by_cases h:k=k'
 ·rw [if_pos h];subst h
  simp [List.filter_eq_nil_iff]
 ·rw [if_neg h]
  rw [List.filter_eq_self.2 (by simp [h])]
  simp [Function.comp_def]
structure ScFit (x y:List Str) (l:List Change):Prop where
 lx:(x.length:Int)≤4096
 ly:(y.length:Int)≤4096
 sc:N0 0 0 0 l x.length y.length=true
 eq:D44 x y 0 0 l
section
variable {x y:List Str} {l:List Change}
theorem ScFit.ok (h:ScFit x y l):ScOk 0 0 l x.length y.length:=A71 _ _ _ _ _ _ h.sc
theorem ScFit.check (h:ScFit x y l):check8 l x.length y.length=0:=by
 have h1:=h.lx
 have h2:=h.ly
 unfold check8
 rw [if_neg (by unfold O2;omega),if_pos h.sc]
theorem ScFit.nn (h:ScFit x y l) (k:Nat) (hk:k≤l.length):0≤eoI 0 l k∧0≤enI 0 l k∧eoI 0 l k≤x.length∧enI 0 l k≤y.length:=by
 cases k with
 | zero=>exact ⟨Int.le_refl _,Int.le_refl _,Int.natCast_nonneg _,Int.natCast_nonneg _⟩
 | succ k =>
  obtain ⟨⟨a1,a2⟩,⟨b1,b2⟩,⟨c1,c2⟩,⟨d1,d2⟩,h5,h6⟩:=h.ok.get k (by omega)
  rw [C03,C04];unfold B68 G50
  omega
def eA (l:List Change) (ctx:Int) (a:Nat):Int:=G49 ctx (cAt l a).Old
def eB (l:List Change) (m ctx:Int) (b:Nat):Int:=G49 ctx (m - eoI 0 l b)
theorem I47 {a b:Int} (h:0≤a) (h':0≤b):0≤G49 a b∧G49 a b≤a∧G49 a b≤b:=by unfold G49;split<;>omega
theorem D45 {ctx:Int} {a:Nat} (ho:opens l ctx a) (ha:a≠0):2*ctx < (cAt l a).Old - eoI 0 l a:=by
 rcases ho with h | h
 ·exact absurd h ha
 ·unfold eoI;rw [if_neg ha];unfold B68;omega
theorem ScFit.before (h:ScFit x y l) {ctx:Int} (hc:0≤ctx) {a:Nat} (ha:a < l.length) (ho:opens l ctx a) :
  0≤eA l ctx a∧eA l ctx a≤ctx∧eA l ctx a≤(cAt l a).Old - eoI 0 l a:=by
 obtain ⟨⟨a1,a2⟩,_⟩:=h.ok.get a ha
 have h3:=I47 hc a1
 unfold eA
 by_cases h0:a=0
 ·subst h0
  show _∧_∧_≤(cAt l 0).Old - 0
  omega
 ·have:=D45 ho h0;omega
theorem ScFit.after (h:ScFit x y l) {ctx:Int} (hc:0≤ctx) {b:Nat} (hb:b≤l.length) (ho:b < l.length→opens l ctx b) (hb0:b≠0) :
  0≤eB l x.length ctx b∧eB l x.length ctx b≤ctx∧eoI 0 l b+eB l x.length ctx b≤x.length∧enI 0 l b+eB l x.length ctx b≤y.length ∧
   sub x (eoI 0 l b) (eoI 0 l b+eB l x.length ctx b)=sub y (enI 0 l b) (enI 0 l b+eB l x.length ctx b):=by
 obtain ⟨h1,h2,h3,h4⟩:=h.nn b hb
 have h5:=I47 hc (show 0≤(x.length:Int) - eoI 0 l b by omega)
 unfold eB
 rcases Nat.lt_or_ge b l.length with hlt | hge
 ·obtain ⟨g1,g2,g3,g4,g5,g6,g7,g8⟩:=A51 _ _ _ _ _ _ h.sc b hlt
  obtain ⟨⟨a1,a2⟩,⟨b1,b2⟩,⟨c1,c2⟩,⟨d1,d2⟩,k5,k6⟩:=h.ok.get b hlt
  have hg:=D45 (ho hlt) hb0
  refine ⟨h5.1,h5.2.1,by omega,by omega,H23 (G51 x y l 0 0 h.eq b hlt) h1 h2 h5.1 (by omega) (by omega)⟩
 ·have e:b=l.length:=by omega
  subst e
  obtain ⟨g1,g2⟩:=H99 _ _ _ _ _ _ h.sc
  refine ⟨h5.1,h5.2.1,by omega,by omega,H23 (I00 x y l 0 0 h.eq) h1 h2 h5.1 (by omega) (by omega)⟩
def G52 (l:List Change) (j0:Int) (a t:Nat):Int:=if t=0 then j0 else G50 (cAt l (a+t - 1))
theorem E78 (i0:Int) (a t:Nat) (ht:t≠0):A73 l i0 a t=eoI 0 l (a+t):=by
 unfold A73 eoI;rw [if_neg ht,if_neg (by omega)]
theorem I48 (j0:Int) (a t:Nat) (ht:t≠0):G52 l j0 a t=enI 0 l (a+t):=by
 unfold G52 enI;rw [if_neg ht,if_neg (by omega)]
theorem ScFit.made (h:ScFit x y l) {ctx:Int} (hc:0≤ctx) {a:Nat} (ho:opens l ctx a):∀t,a+t≤l.length→(t=0→a < l.length) →
  I6 (A25 l x y ((cAt l a).Old - eA l ctx a) a t) 43=sub x ((cAt l a).Old - eA l ctx a) (A73 l ((cAt l a).Old - eA l ctx a) a t) ∧
  I6 (A25 l x y ((cAt l a).Old - eA l ctx a) a t) 45=sub y ((cAt l a).New - eA l ctx a) (G52 l ((cAt l a).New - eA l ctx a) a t)
 | 0,_,_=>by
  unfold A73 G52
  rw [if_pos rfl,if_pos rfl,I46,I46]
  exact ⟨rfl,rfl⟩
 | t + 1,hl,_=>by
  have hlt:a+t < l.length:=by omega
  have hla:a < l.length:=by omega
  obtain ⟨ih1,ih2⟩:=ScFit.made h hc ho t (by omega) (fun _=>hla)
  obtain ⟨q1,q2,q3⟩:=h.before hc hla ho
  obtain ⟨p1,p2,p3,p4⟩:=h.nn (a+t) (by omega)
  obtain ⟨r1,r2,r3,r4⟩:=h.nn a (by omega)
  obtain ⟨g1,g2,g3,g4,g5,g6,g7,g8⟩:=A51 _ _ _ _ _ _ h.sc (a+t) hlt
  obtain ⟨k1,⟨k2,k2'⟩,k3,⟨k4,k4'⟩,k5,k6,k7,k8⟩:=A51 _ _ _ _ _ _ h.sc a hla
  obtain ⟨⟨a1,a2⟩,⟨b1,b2⟩,⟨c1,c2⟩,⟨d1,d2⟩,w5,w6⟩:=h.ok.get (a+t) hlt
  have hrun:sub x (A73 l ((cAt l a).Old - eA l ctx a) a t) (cAt l (a+t)).Old=sub y (G52 l ((cAt l a).New - eA l ctx a) a t) (cAt l (a+t)).New ∧
    (cAt l a).Old - eA l ctx a≤A73 l ((cAt l a).Old - eA l ctx a) a t∧A73 l ((cAt l a).Old - eA l ctx a) a t≤(cAt l (a+t)).Old ∧
    (cAt l a).New - eA l ctx a≤G52 l ((cAt l a).New - eA l ctx a) a t∧G52 l ((cAt l a).New - eA l ctx a) a t≤(cAt l (a+t)).New:=by
   have hrun:=G51 x y l 0 0 h.eq (a+t) hlt
   by_cases ht:t=0
   ·subst ht
    unfold A73 G52
    rw [if_pos rfl,if_pos rfl]
    rw [show a+0=a from rfl] at *
    exact ⟨E77 hrun r1 r2 q1 (by omega) (by omega),by omega,by omega,by omega,by omega⟩
   ·rw [E78 _ _ _ ht,I48 _ _ _ ht]
    have m1:=h.ok.mono a (a+t - 1) (by omega) (by omega)
    have m2:eoI 0 l (a+t)=(cAt l (a+t - 1)).Old+(cAt l (a+t - 1)).OldLen:=by unfold eoI;rw [if_neg (by omega)];rfl
    have m4:∀u,u≤t→(cAt l a).New≤enI 0 l (a+u)∨u=0:=by
     intro u
     induction u with
     | zero=>exact fun _=>.inr rfl
     | succ u ihu =>
      intro hu
      obtain ⟨e1,e2,⟨e3,e3'⟩,⟨e4,e4'⟩,e5,e6,e7,e8⟩:=A51 _ _ _ _ _ _ h.sc (a+u) (by omega)
      have e9:enI 0 l (a+(u+1))=(cAt l (a+u)).New+(cAt l (a+u)).NewLen:=rfl
      rcases ihu (by omega) with h' | h'
      ·left;omega
      ·left;subst h';rw [e9];show (cAt l a).New≤(cAt l a).New+(cAt l a).NewLen;exact Int.le_add_of_nonneg_right e4
    have m5:=(m4 t (Nat.le_refl _)).resolve_right ht
    refine ⟨hrun,by omega,by omega,by omega,by omega⟩
  obtain ⟨hr1,hr2,hr3,hr4,hr5⟩:=hrun
  simp (decide:=true) only [A25,B40,B41,ih1,ih2,if_true,if_false,K29]
  have e1:A73 l ((cAt l a).Old - eA l ctx a) a (t+1)=B68 (cAt l (a+t)):=H98 _ _ _ _
  have e2:G52 l ((cAt l a).New - eA l ctx a) a (t+1)=G50 (cAt l (a+t)):=rfl
  rw [e1,e2]
  have s0:0≤(cAt l a).Old - eA l ctx a:=by omega
  have s1:0≤(cAt l a).New - eA l ctx a:=by omega
  refine ⟨?_,?_⟩
  ·rw [B38 x s0 hr2 hr3,B38 x s0 (by omega) (by unfold B68;omega)]
  ·rw [hr1,B38 y s1 hr4 hr5]
   exact B38 y s1 (by omega) (by omega)
end
end Go.AL
namespace Go.AL
open Go
section
variable {x y:List Str} {l:List Change}
structure HunkIs (x y:List Str) (l:List Change) (ctx:Int) (a b:Nat) (h:PatchHunk):Prop where
 old:h.Old=(cAt l a).Old - eA l ctx a
 new:h.New=(cAt l a).New - eA l ctx a
 o0:0≤h.Old
 n0:0≤h.New
 oe:h.Old+C01 h=eoI 0 l b+eB l x.length ctx b
 ne:h.New+C02 h=enI 0 l b+eB l x.length ctx b
 ox:h.Old+C01 h≤x.length
 ny:h.New+C02 h≤y.length
 ol:I6 h.Lines 43=sub x h.Old (h.Old+C01 h)
 nl:I6 h.Lines 45=sub y h.New (h.New+C02 h)
 ch:A87 h.Lines=true
 gl:(∀s∈x,J5 s=true)→(∀s∈y,J5 s=true)→h.Lines.all C62=true
theorem E79 (p q:List PatchLine):A87 (p++q)=(A87 p||A87 q):=by simp [A87]
theorem E80 {k:UInt8} {ts:List Str} (hk:k≠32) (h:ts≠[]):A87 (A72 k ts)=true:=by
 cases ts with
 | nil=>exact absurd rfl h
 | cons t ts=>simp [A87,A72,hk]
theorem B42 {k:UInt8} {ts:List Str} (hk:k=32∨k=45∨k=43) (h:∀t∈ts,J5 t=true):(A72 k ts).all C62=true:=by
 rw [List.all_eq_true]
 intro q hq
 unfold A72 at hq
 obtain ⟨t,ht,rfl⟩:=List.mem_map.1 hq
 unfold C62
 refine decide_eq_true ?_
 rintro (⟨⟨h1,h2⟩,h3⟩ | h1)
 ·rcases hk with e | e | e
  ·exact h1 e
  ·exact h2 e
  ·exact h3 e
 ·rw [show (PatchLine.mk k t).Text=t from rfl,h t ht] at h1;cases h1
theorem D80 (hx:∀s∈x,J5 s=true) (hy:∀s∈y,J5 s=true) (i0:Int) (a:Nat):∀t,(A25 l x y i0 a t).all C62=true
 | 0=>rfl
 | t+1=>by
  simp only [A25,K58,D80 hx hy i0 a t,Bool.true_and,K10]
  exact ⟨⟨B42 (.inl rfl) (fun s hs=>hx s (E12 hs)),B42 (.inr (.inl rfl)) (fun s hs=>hx s (E12 hs))⟩,B42 (.inr (.inr rfl)) (fun s hs=>hy s (E12 hs))⟩
theorem ScFit.hunk (h:ScFit x y l) {ctx:Int} (hc:0≤ctx) {a b:Nat} (hab:a < b) (hb:b≤l.length) (ho:opens l ctx a) (hob:b < l.length→opens l ctx b) :
  HunkIs x y l ctx a b (m7 l x y (mkH l x.length ctx a b)):=by
 have hla:a < l.length:=by omega
 obtain ⟨q1,q2,q3⟩:=h.before hc hla ho
 obtain ⟨w1,w2,w3,w4,w5⟩:=h.after hc hb hob (by omega)
 obtain ⟨m1,m2⟩:=h.made hc ho (b - a) (by omega) (fun e=>by omega)
 rw [E78 _ _ _ (by omega)] at m1
 rw [I48 _ _ _ (by omega)] at m2
 rw [show a+(b - a)=b by omega] at m1 m2
 obtain ⟨r1,r2,r3,r4⟩:=h.nn a (by omega)
 obtain ⟨s1,s2,s3,s4⟩:=h.nn b hb
 obtain ⟨k1,⟨k2,k2'⟩,k3,⟨k4,k4'⟩,k5,k6,k7,k8⟩:=A51 _ _ _ _ _ _ h.sc a hla
 have hlb:b - 1 < l.length:=by omega
 obtain ⟨g1,⟨g2,g2'⟩,g3,⟨g4,g4'⟩,g5,g6,g7,g8⟩:=A51 _ _ _ _ _ _ h.sc (b - 1) hlb
 have eo:eoI 0 l b=(cAt l (b - 1)).Old+(cAt l (b - 1)).OldLen:=by unfold eoI;rw [if_neg (by omega)];rfl
 have en:enI 0 l b=(cAt l (b - 1)).New+(cAt l (b - 1)).NewLen:=by unfold enI;rw [if_neg (by omega)];rfl
 have mo:=h.ok.mono a (b - 1) (by omega) (by omega)
 have mn:(cAt l a).New≤enI 0 l b:=by
  have m4:∀u,a+u≤l.length→(cAt l a).New≤enI 0 l (a+u)∨u=0:=by
   intro u
   induction u with
   | zero=>exact fun _=>.inr rfl
   | succ u ihu =>
    intro hu
    obtain ⟨e1,e2,⟨e3,e3'⟩,⟨e4,e4'⟩,e5,e6,e7,e8⟩:=A51 _ _ _ _ _ _ h.sc (a+u) (by omega)
    have e9:enI 0 l (a+(u+1))=(cAt l (a+u)).New+(cAt l (a+u)).NewLen:=rfl
    rcases ihu (by omega) with h' | h'
    ·left;omega
    ·left;subst h';rw [e9];show (cAt l a).New≤(cAt l a).New+(cAt l a).NewLen;exact Int.le_add_of_nonneg_right e4
  have:=(m4 (b - a) (by omega)).resolve_right (by omega)
  rwa [show a+(b - a)=b by omega] at this
 have hF:(mkH l x.length ctx a b).First.toNat=a:=by show ((a:Int)).toNat=a;omega
 have hL:(mkH l x.length ctx a b).Last.toNat - (mkH l x.length ctx a b).First.toNat=b - a:=by
  show (((b - 1:Nat):Int)+1).toNat - ((a:Int)).toNat=b - a;omega
 have hOF:(mkH l x.length ctx a b).Old.From=(cAt l a).Old - eA l ctx a:=rfl
 have hNF:(mkH l x.length ctx a b).New.From=(cAt l a).New - eA l ctx a:=rfl
 have hOT:(mkH l x.length ctx a b).Old.To=eoI 0 l b+eB l x.length ctx b:=by
  unfold eB;rw [eo];rfl
 obtain ⟨P,hP⟩:∃P,P=m7 l x y (mkH l x.length ctx a b):=⟨_,rfl⟩
 have hPl:P.Lines=A25 l x y ((cAt l a).Old - eA l ctx a) a (b - a)++A72 32 (sub x (eoI 0 l b) (eoI 0 l b+eB l x.length ctx b)):=by
  rw [hP];unfold m7
  show A25 l x y _ (mkH l x.length ctx a b).First.toNat ((mkH l x.length ctx a b).Last.toNat - (mkH l x.length ctx a b).First.toNat)++A72 32 (sub x (A73 l _ (mkH l x.length ctx a b).First.toNat ((mkH l x.length ctx a b).Last.toNat - (mkH l x.length ctx a b).First.toNat)) _)=_
  rw [hL,hF,hOF,hOT,E78 _ _ _ (by omega),show a+(b - a)=b by omega]
 have hPO:P.Old=(cAt l a).Old - eA l ctx a:=by rw [hP];rfl
 have hPN:P.New=(cAt l a).New - eA l ctx a:=by rw [hP];rfl
 have h43:I6 P.Lines 43=sub x ((cAt l a).Old - eA l ctx a) (eoI 0 l b+eB l x.length ctx b):=by
  rw [hPl,B40,B41,if_neg (by decide),m1]
  exact B38 x (by omega) (by omega) (by omega)
 have h45:I6 P.Lines 45=sub y ((cAt l a).New - eA l ctx a) (enI 0 l b+eB l x.length ctx b):=by
  rw [hPl,B40,B41,if_neg (by decide),m2,w5]
  exact B38 y (by omega) (by omega) (by omega)
 have hon:C01 P=eoI 0 l b+eB l x.length ctx b - ((cAt l a).Old - eA l ctx a):=by
  unfold C01;rw [h43];exact B39 x (by omega) (by omega) (by omega)
 have hnn:C02 P=enI 0 l b+eB l x.length ctx b - ((cAt l a).New - eA l ctx a):=by
  unfold C02;rw [h45];exact B39 y (by omega) (by omega) (by omega)
 rw [←hP]
 refine ⟨hPO,hPN,by omega,by omega,by omega,by omega,by omega,by omega,?_,?_,?_,?_⟩
 ·rw [h43];congr 1
  ·exact hPO.symm
  ·omega
 ·rw [h45];congr 1
  ·exact hPN.symm
  ·omega
 ·rw [hPl,E79]
  have e:A25 l x y ((cAt l a).Old - eA l ctx a) a (b - a)=A25 l x y ((cAt l a).Old - eA l ctx a) a (b - 1 - a+1):=by congr 1;omega
  rw [e]
  simp only [A25,E79]
  rw [show a+(b - 1 - a)=b - 1 by omega]
  have key:A87 (A72 45 (sub x (cAt l (b - 1)).Old (B68 (cAt l (b - 1)))))=true∨A87 (A72 43 (sub y (cAt l (b - 1)).New ((cAt l (b - 1)).New+(cAt l (b - 1)).NewLen)))=true:=by
   obtain ⟨g3a,g3b⟩:=g3
   obtain ⟨g1a,g1b⟩:=g1
   by_cases h0:(cAt l (b - 1)).OldLen=0
   ·right
    refine E80 (by decide) fun e0=>?_
    have:=B39 y (a:=(cAt l (b - 1)).New) (b:=(cAt l (b - 1)).New+(cAt l (b - 1)).NewLen) g3a (by omega) (by omega)
    rw [e0] at this;simp at this;omega
   ·left
    refine E80 (by decide) fun e0=>?_
    have:=B39 x (a:=(cAt l (b - 1)).Old) (b:=B68 (cAt l (b - 1))) g1a (by unfold B68;omega) (by unfold B68;omega)
    rw [e0] at this;unfold B68 at this;simp at this;omega
  rcases key with e1 | e1<;>rw [e1]<;>simp
 ·intro hx hy
  rw [hPl,K58,D80 hx hy,Bool.true_and]
  exact B42 (.inl rfl) (fun s hs=>hx s (E12 hs))
theorem ScFit.hunks (h:ScFit x y l) {ctx:Int} (hc:0≤ctx) (hx:∀s∈x,J5 s=true) (hy:∀s∈y,J5 s=true):∀(hs:List Hunk) (a:Nat),GrOk l x.length ctx a hs l.length →
  ∀(i j e:Int),i=eoI 0 l a+e→j=enI 0 l a+e→0≤e→e≤ctx→(a=0→e=0) →
  D42 i j (hs.map (m7 l x y))=true∧(P4 (hs.map (m7 l x y)) 43).Sublist (x.drop i.toNat)∧(P4 (hs.map (m7 l x y)) 45).Sublist (y.drop j.toNat) ∧
   ∀p∈hs.map (m7 l x y),(p.Old+C01 p≤x.length∧p.New+C02 p≤y.length∧0≤p.Old∧0≤p.New)∧I6 p.Lines 43=sub x p.Old (p.Old+C01 p)∧I6 p.Lines 45=sub y p.New (p.New+C02 p)
 | [],a,_,i,j,e,_,_,_,_,_=>⟨rfl,by simp [P4],by simp [P4],by simp⟩
 | hk::hs,a,⟨b,hab,ho,hE,hr⟩,i,j,e,hi,hj,he,hec,he0=>by
  have hb:=hr.le
  have hob:b < l.length→opens l ctx b:=by
   intro hlt
   cases hs with
   | nil=>exact absurd hr (by show ¬b=l.length;omega)
   | cons h2 hs2=>obtain ⟨_,_,ho2,_⟩:=hr;exact ho2
  obtain ⟨w1,w2,w3,w4,w5⟩:=h.after hc hb hob (by omega)
  obtain ⟨q1,q2,q3⟩:=h.before hc (show a < l.length by omega) ho
  have H:=h.hunk hc hab hb ho hob
  rw [←hE] at H
  obtain ⟨P,hP⟩:∃P,P=m7 l x y hk:=⟨_,rfl⟩
  rw [←hP] at H
  obtain ⟨i1,i2,i3,i4⟩:=ScFit.hunks h hc hx hy hs b hr (P.Old+C01 P) (P.New+C02 P) (eB l x.length ctx b) H.oe H.ne w1 w2 (by omega)
  obtain ⟨k1,⟨k2,k2'⟩,k3,⟨k4,k4'⟩,k5,k6,k7,k8⟩:=A51 _ _ _ _ _ _ h.sc a (show a < l.length by omega)
  have h1:=H.old
  have h2:=H.new
  have h3:=H.o0
  have h4:=H.n0
  have h5:=H.ox
  have h6:=H.ny
  have h7:=h.lx
  have h8:=h.ly
  have n1:0≤C01 P:=by unfold C01;omega
  have n2:0≤C02 P:=by unfold C02;omega
  have hgap:e+eA l ctx a≤(cAt l a).Old - eoI 0 l a:=by
   by_cases h0:a=0
   ·have:=he0 h0;omega
   ·have:=D45 ho h0;omega
  obtain ⟨r1,r2,r3,r4⟩:=h.nn a (by omega)
  have hij:i≤P.Old∧j≤P.New∧P.Old - i=P.New - j∧0≤i∧0≤j:=by omega
  have hsub:∀(z:List Str) (i f t:Int),0≤i→i≤f→f≤t→∀r:List Str,r.Sublist (z.drop t.toNat)→(sub z f t++r).Sublist (z.drop i.toNat):=by
   intro z i f t h0 h1 h2 r hr
   have e1:z.drop f.toNat=sub z f t++z.drop t.toNat:=by
    unfold sub
    rw [show t.toNat=f.toNat+(t.toNat - f.toNat) by omega,←List.drop_drop,show f.toNat+(t.toNat - f.toNat) - f.toNat=t.toNat - f.toNat by omega,K46]
   have e2:z.drop f.toNat=(z.drop i.toNat).drop (f.toNat - i.toNat):=by rw [List.drop_drop];congr 1;omega
   refine List.Sublist.trans ?_ (List.drop_sublist (f.toNat - i.toNat) (z.drop i.toNat))
   rw [←e2,e1]
   exact List.Sublist.append_left hr _
  have key:∀(k:UInt8),P4 ((hk::hs).map (m7 l x y)) k=I6 P.Lines k++P4 (hs.map (m7 l x y)) k:=by
   intro k;rw [hP];simp [P4]
  refine ⟨?_,?_,?_,?_⟩
  ·rw [K14,←hP]
   simp only [D42,H.gl hx hy,i1,Bool.and_true,Bool.true_and,K10,decide_eq_true_eq]
   refine ⟨?_,by omega⟩
   unfold D06
   rw [H.ch]
   rintro (((((e0 | e0) | e0) | e0) | e0) | e0)
   ·cases e0
   all_goals omega
  ·rw [key,H.ol]
   exact hsub x i P.Old (P.Old+C01 P) hij.2.2.2.1 hij.1 (by omega) _ i2
  ·rw [key,H.nl]
   exact hsub y j P.New (P.New+C02 P) hij.2.2.2.2 hij.2.1 (by omega) _ i3
  ·rw [K14,←hP]
   intro p hp
   rcases List.mem_cons.1 hp with rfl | hp
   ·exact ⟨⟨h5,h6,h3,h4⟩,H.ol,H.nl⟩
   ·exact i4 p hp
theorem B43:∀{s z:List Str},s.Sublist z→U6 z=true→U6 s=true:=by
 intro s z hs
 induction hs with
 | slnil=>exact fun h=>h
 | cons a _ ih =>
  intro h
  simp only [U6,K10] at h
  exact ih h.2
 | cons_cons a hs2 ih =>
  intro h
  simp only [U6,K10,K49] at h ⊢
  refine ⟨?_,ih h.2⟩
  rcases h.1 with h1 | h1
  ·left
   rw [List.isEmpty_iff] at h1 ⊢
   rw [h1] at hs2
   exact List.sublist_nil.1 hs2
  ·exact .inr h1
def m8 (l:List Change) (x y:List Str) (ctx:Int):List PatchHunk:=(Z7 l x.length ctx l.length).map (m7 l x y)
theorem ScFit.good (h:ScFit x y l) {ctx:Int} (hc:0≤ctx) (hx:∀s∈x,J5 s=true) (hy:∀s∈y,J5 s=true) (ex:U6 x=true) (ey:U6 y=true):D43 (m8 l x y ctx)=true:=by
 obtain ⟨h1,h2,h3,_⟩:=h.hunks hc hx hy _ 0 (B37 l x.length ctx l.length) 0 0 0 rfl rfl (Int.le_refl _) hc (fun _=>rfl)
 unfold D43 H97 m8
 rw [h1,B43 h2 (by simpa using ex),B43 h3 (by simpa using ey)]
 rfl
theorem ScFit.texts (h:ScFit x y l) {ctx:Int} (hc:0≤ctx) (hx:∀s∈x,J5 s=true) (hy:∀s∈y,J5 s=true):∀p∈m8 l x y ctx,(p.Old+C01 p≤x.length∧p.New+C02 p≤y.length∧0≤p.Old∧0≤p.New)∧I6 p.Lines 43=sub x p.Old (p.Old+C01 p)∧I6 p.Lines 45=sub y p.New (p.New+C02 p) :=
 (h.hunks hc hx hy _ 0 (B37 l x.length ctx l.length) 0 0 0 rfl rfl (Int.le_refl _) hc (fun _=>rfl)).2.2.2
end
theorem D81 (cur:Str) (c:UInt8) (h:∀z∈cur,z≠10):J5 (cur++[c])=true:=by
 unfold J5
 simp only [List.dropLast_concat,K10]
 refine ⟨List.all_eq_true.2 fun z hz=>by simpa using h z hz,by simp⟩
theorem C05:∀(s cur:Str),(∀z∈cur,z≠10)→(∀t∈J3 cur s,J5 t=true)∧U6 (J3 cur s)=true
 | [],cur,hc=>by
  unfold J3
  split
  ·exact ⟨by simp,rfl⟩
  ·rename_i h
   refine ⟨fun t ht=>?_,rfl⟩
   obtain rfl:t=cur:=by simpa using ht
   obtain ⟨d,r,e⟩:∃d r,t=r++[d]:=⟨t.getLast h,t.dropLast,(List.dropLast_concat_getLast h).symm⟩
   rw [e]
   exact D81 r d fun z hz=>hc z (by rw [e];simp [hz])
 | c::r,cur,hc=>by
  rw [A01]
  by_cases h:c=10
  ·rw [if_pos h]
   obtain ⟨h1,h2⟩:=C05 r [] (by simp)
   refine ⟨fun t ht=>?_,?_⟩
   ·rcases List.mem_cons.1 ht with rfl | ht
    ·exact D81 cur c hc
    ·exact h1 t ht
   ·simp only [U6,h2,Bool.and_true,K49]
    right;unfold ended;subst h;simp
  ·rw [if_neg h]
   refine C05 r (cur++[c]) fun z hz=>?_
   rcases List.mem_append.1 hz with hz | hz
   ·exact hc z hz
   ·simp at hz;subst hz;exact h
theorem B44 (b:Str):(∀t∈C2 b,J5 t=true)∧U6 (C2 b)=true:=C05 b [] (by simp)
end Go.AL
namespace Go.AL
open Go
theorem C25 {m n:Int} (hm:O2 m) (hn:O2 n):∀(p:List Span) (i j i0 j0:Int) (k0:Nat),Asc m n i j p→0≤i0→0≤j0→i0≤i→i - i0=j - j0→(0 < k0→i0 < i)→N0 k0 i0 j0 (O0 i j p m n) m n=true
 | [],i,j,i0,j0,k0,ha,h1,h2,h3,h4,h5=>by
  obtain ⟨a1,a2⟩:i≤m∧j≤n:=ha
  obtain ⟨m1,m2⟩:=hm
  obtain ⟨n1,n2⟩:=hn
  unfold O0
  split
  ·rename_i hc
   simp only [N0,K10,decide_eq_true_eq]
   refine ⟨?_,by omega⟩
   unfold G48 O2
   show ¬(((((((¬(0≤i∧i≤4096)∨¬(0≤m - i∧m - i≤4096))∨¬(0≤j∧j≤4096))∨¬(0≤n - j∧n - j≤4096))∨m - i+(n - j)=0)∨i - i0≠j - j0)∨i < i0)∨(0 < (k0:Int)∧i=i0))
   omega
  ·simp only [N0,decide_eq_true_eq];omega
 | x::r,i,j,i0,j0,k0,ha,h1,h2,h3,h4,h5=>by
  obtain ⟨a1,a2,a3⟩:=ha
  have hle:=a3.le
  unfold O0
  split
  ·rename_i hc
   simp only [K45,K39,N0,K10,decide_eq_true_eq]
   refine ⟨?_,?_⟩
   ·obtain ⟨m1,m2⟩:=hm
    obtain ⟨n1,n2⟩:=hn
    unfold G48 O2
    show ¬(((((((¬(0≤i∧i≤4096)∨¬(0≤x.From - i∧x.From - i≤4096))∨¬(0≤j∧j≤4096))∨¬(0≤x.To - j∧x.To - j≤4096))∨x.From - i+(x.To - j)=0)∨i - i0≠j - j0)∨i < i0)∨(0 < (k0:Int)∧i=i0))
    omega
   ·exact C25 hm hn r _ _ _ _ _ a3 (by omega) (by omega) (by omega) (by omega) (fun _=>by omega)
  ·rw [K39]
   exact C25 hm hn r _ _ _ _ _ a3 h1 h2 (by omega) (by omega) (fun h=>by omega)
def EqAt (X Y:List Str) (s:Span):Prop:=0≤s.From∧0≤s.To∧∃v,X[s.From.toNat]?=some v∧Y[s.To.toNat]?=some v
theorem H24 {X:List Str} {a b:Int} {v:Str} (h0:0≤a) (h1:a≤b) (hv:X[b.toNat]?=some v):sub X a (b+1)=sub X a b++[v]:=by
 rw [←B38 X h0 h1 (by omega:b≤b+1)]
 congr 1
 unfold sub
 obtain ⟨hl,e⟩:=List.getElem?_eq_some_iff.1 hv
 rw [K13 hl,e,show (b+1).toNat - b.toNat=1 by omega]
 rfl
theorem F82:∀(a b:List Int) (p q:Int),∀s∈F9 p q a b,p≤s.From∧q≤s.To∧∃v,a[(s.From - p).toNat]?=some v∧b[(s.To - q).toNat]?=some v:=by
 intro a
 induction a with
 | nil=>intro b p q s hs;simp [F9] at hs
 | cons x a iha =>
  intro b
  induction b with
  | nil=>intro p q s hs;simp [F9] at hs
  | cons y b ihb =>
   intro p q s hs
   unfold F9 at hs
   split at hs
   ·rename_i e
    rcases List.mem_cons.1 hs with rfl | hs
    ·exact ⟨Int.le_refl _,Int.le_refl _,x,by simp,by simp [e]⟩
    ·obtain ⟨h1,h2,v,h3,h4⟩:=iha b (p+1) (q+1) s hs
     refine ⟨by omega,by omega,v,?_,?_⟩
     ·rw [show (s.From - p).toNat=(s.From - (p+1)).toNat+1 by omega];simpa using h3
     ·rw [show (s.To - q).toNat=(s.To - (q+1)).toNat+1 by omega];simpa using h4
   ·split at hs
    ·obtain ⟨h1,h2,v,h3,h4⟩:=iha (y::b) (p+1) q s hs
     refine ⟨by omega,by omega,v,?_,h4⟩
     rw [show (s.From - p).toNat=(s.From - (p+1)).toNat+1 by omega];simpa using h3
    ·obtain ⟨h1,h2,v,h3,h4⟩:=ihb p (q+1) s hs
     refine ⟨by omega,by omega,v,h3,?_⟩
     rw [show (s.To - q).toNat=(s.To - (q+1)).toNat+1 by omega];simpa using h4
theorem F83:∀(ls:List PatchLine),ls.all C62=true→(ls.map szL).sum≤64*((I6 ls 43).length+(I6 ls 45).length)+((I6 ls 43).flatten.length+(I6 ls 45).flatten.length)
 | [],_=>by simp
 | q::ls,h=>by
  rw [List.all_cons,K10] at h
  have ih:=F83 ls h.2
  have hk:q.Kind=32∨q.Kind=45∨q.Kind=43:=by
   have hg:=h.1
   unfold C62 at hg
   have hg:=A0 hg
   by_cases h1:q.Kind=32
   ·exact .inl h1
   by_cases h2:q.Kind=45
   ·exact .inr (.inl h2)
   by_cases h3:q.Kind=43
   ·exact .inr (.inr h3)
   exact absurd (.inl ⟨⟨h1,h2⟩,h3⟩) hg
  have hd:∀k:UInt8,I6 (q::ls) k=if q.Kind≠k then q.Text::I6 ls k else I6 ls k:=by
   intro k
   unfold I6
   by_cases e:q.Kind=k
   ·rw [if_neg (by simpa using e),List.filter_cons_of_neg (by simpa using e)]
   ·rw [if_pos e,List.filter_cons_of_pos (by simpa using e)];rfl
  rw [hd 43,hd 45,K14,K35]
  have hz:szL q=q.Text.length+64:=rfl
  rcases hk with e | e | e<;>rw [e]<;>simp (decide:=true) only [if_true,if_false,ne_eq,not_true_eq_false,not_false_eq_true,K08,K25,K06]<;>omega
theorem D09:∀(hs:List PatchHunk) (i j:Int),D42 i j hs=true→szP hs≤128*((P4 hs 43).length+(P4 hs 45).length)+((P4 hs 43).flatten.length+(P4 hs 45).flatten.length)
 | [],_,_,_=>by simp [szP]
 | h :: hs,i,j,hg=>by
  simp only [D42,K10,decide_eq_true_eq] at hg
  obtain ⟨h1,h2,h3,h4⟩:=hg
  have ih:=D09 hs _ _ h4
  have hl:=F83 h.Lines h1
  have hne:1≤h.Lines.length:=by
   cases hq:h.Lines with
   | nil=>exact absurd (.inl (.inl (.inl (.inl (.inl (by rw [hq];rfl)))))) h2
   | cons a b=>simp
  have hcnt:h.Lines.length≤(I6 h.Lines 43).length+(I6 h.Lines 45).length:=by
   have:64*h.Lines.length≤(h.Lines.map szL).sum:=szL_len h.Lines
   have key:∀ls:List PatchLine,ls.length≤(I6 ls 43).length+(I6 ls 45).length:=by
    intro ls
    induction ls with
    | nil=>simp
    | cons q ls ih =>
     have hd:∀k:UInt8,(I6 (q::ls) k).length=if q.Kind≠k then (I6 ls k).length+1 else (I6 ls k).length:=by
      intro k
      unfold I6
      by_cases e:q.Kind=k
      ·rw [if_neg (by simpa using e),List.filter_cons_of_neg (by simpa using e)]
      ·rw [if_pos e,List.filter_cons_of_pos (by simpa using e)];simp
     rw [hd 43,hd 45,K08]
     by_cases e:q.Kind=43
     ·have e2:q.Kind≠45:=by rw [e];decide
      rw [if_pos e2];split<;>omega
     ·rw [if_pos e];split<;>omega
   exact key h.Lines
  have hsz:szP (h::hs)=szH h+szP hs:=by simp [szP]
  have hszh:szH h=64+(h.Lines.map szL).sum:=rfl
  have hs1:∀k,P4 (h::hs) k=I6 h.Lines k++P4 hs k:=by intro k;simp [P4]
  rw [hsz,hszh,hs1 43,hs1 45]
  simp only [K06,K36]
  omega
theorem D82:∀{s z:List Str},s.Sublist z→s.flatten.length≤z.flatten.length:=by
 intro s z hs
 induction hs with
 | slnil=>exact Nat.le_refl _
 | cons a _ ih=>simp only [K25,K06];omega
 | cons_cons a _ ih=>simp only [K25,K06];omega
theorem ScFit.size {x y:List Str} {l:List Change} (h:ScFit x y l) {ctx:Int} (hc:0≤ctx) (hx:∀s∈x,J5 s=true) (hy:∀s∈y,J5 s=true):szP (m8 l x y ctx)≤128*(x.length+y.length)+(x.flatten.length+y.flatten.length):=by
 obtain ⟨h1,h2,h3,_⟩:=h.hunks hc hx hy _ 0 (B37 l x.length ctx l.length) 0 0 0 rfl rfl (Int.le_refl _) hc (fun _=>rfl)
 have h4:=D09 _ _ _ h1
 have e:m8 l x y ctx=(Z7 l x.length ctx l.length).map (m7 l x y):=rfl
 rw [←e] at h2 h3 h4
 have h2':(P4 (m8 l x y ctx) 43).Sublist x:=by simpa using h2
 have h3':(P4 (m8 l x y ctx) 45).Sublist y:=by simpa using h3
 have:=h2'.length_le
 have:=h3'.length_le
 have:=D82 h2'
 have:=D82 h3'
 omega
theorem F40 {a:Str} (h:a.length≤4096):C24 a=(C2 a,0):=by
 have:=U5 a
 unfold C24;rw [if_neg (by omega)]
end Go.AL
namespace Go.AL
open Go
end Go.AL
namespace Go.AL
open Go
abbrev C63:Int→Nat→Cell:=fun x _=>.v (.int .u16 x)
abbrev pU16s (l:List Int):PV:=.one (.list Int 1 C63 l)
theorem I01 (n:Int) (h:0≤n∧n < 65536):IntKind.u16.wrap n=n:=by
 simp [IntKind.wrap,IntKind.signed,IntKind.bits];omega
def flat (a b:List Int) (done:Nat→Nat→Bool):List Int :=
 (List.range ((a.length+1)*(b.length+1))).map fun p=>if done (p / (b.length+1)) (p % (b.length+1))=true then (dist (a.drop (p / (b.length+1))) (b.drop (p % (b.length+1))):Int) else 0
theorem D83 (a b:List Int) (done:Nat→Nat→Bool):(flat a b done).length=(a.length+1)*(b.length+1):=by simp [flat]
theorem E13 {a b:List Int} {i j:Nat} (hi:i≤a.length) (hj:j≤b.length):i*(b.length+1)+j < (a.length+1)*(b.length+1)∧(i*(b.length+1)+j) / (b.length+1)=i∧(i*(b.length+1)+j) % (b.length+1)=j:=by
 refine ⟨?_,?_,?_⟩
 ·have:(i+1)*(b.length+1)≤(a.length+1)*(b.length+1):=K21 _ (by omega)
  rw [K32,Nat.one_mul] at this;omega
 ·rw [Nat.mul_comm,Nat.mul_add_div (by omega),Nat.div_eq_of_lt (by omega),Nat.add_zero]
 ·rw [Nat.mul_comm,Nat.mul_add_mod,Nat.mod_eq_of_lt (by omega)]
theorem E81 {a b:List Int} {done:Nat→Nat→Bool} {i j:Nat} (hi:i≤a.length) (hj:j≤b.length):(flat a b done)[i*(b.length+1)+j]?=some (if done i j=true then (dist (a.drop i) (b.drop j):Int) else 0):=by
 obtain ⟨h1,h2,h3⟩:=E13 hi hj
 unfold flat
 rw [A38 _ _ _ h1,h2,h3]
theorem H25 {a b:List Int} {done done':Nat→Nat→Bool} {i j:Nat} {v:Int} (hi:i≤a.length) (hj:j≤b.length) (hv:v=(dist (a.drop i) (b.drop j):Int)) (hd:done' i j=true)
  (ho:∀r q,r≤a.length→q≤b.length→¬(r=i∧q=j)→done' r q=done r q):(flat a b done).set (i*(b.length+1)+j) v=flat a b done':=by
 obtain ⟨h1,h2,h3⟩:=E13 hi hj
 unfold flat
 refine A37 _ _ _ _ _ (fun _=>?_) (fun q hq hne=>?_)
 ·rw [h2,h3,if_pos hd,hv]
 ·have hW:0 < b.length+1:=by omega
  have e:=Nat.div_add_mod q (b.length+1)
  have hr:q / (b.length+1)≤a.length:=by
   have:=(Nat.div_lt_iff_lt_mul hW).2 hq
   omega
  have hm:=Nat.mod_lt q hW
  rw [ho _ _ hr (by omega) (fun ⟨e1,e2⟩=>hne (by rw [e1,e2,Nat.mul_comm] at e;exact e.symm))]
theorem J12 (a b:List Int):List.replicate ((a.length+1)*(b.length+1)) 0=flat a b (fun _ _=>false):=by
 unfold flat
 simp only [Bool.false_eq_true,if_false]
 rw [List.map_const',K60]
theorem B45 {a b:List Int} {done done':Nat→Nat→Bool} (h:∀r q,r≤a.length→q≤b.length→(done r q=done' r q∨dist (a.drop r) (b.drop q)=0)):flat a b done=flat a b done':=by
 unfold flat
 apply List.map_congr_left
 intro p hp
 have hp:=List.mem_range.1 hp
 have hW:0 < b.length+1:=by omega
 have hr:p / (b.length+1)≤a.length:=by have:=(Nat.div_lt_iff_lt_mul hW).2 hp;omega
 have hm:=Nat.mod_lt p hW
 rcases h (p / (b.length+1)) (p % (b.length+1)) hr (by omega) with e | e
 ·rw [e]
 ·rw [e];simp
def X8:List Int→List Int→Nat
 | x::a,y::b=>if x=y then X8 a b+1 else 0
 | _,_=>0
theorem H26:∀(a b:List Int),X8 a b≤a.length∧X8 a b≤b.length
 | [],_=>by simp [X8]
 | _::_,[]=>by simp [X8]
 | x::a,y::b=>by
  have:=H26 a b
  unfold X8
  simp only [K08]
  split<;>omega
theorem E82 (a b:List Int) (k:Nat) (hk:k < a.length) (hk':k < b.length):X8 (a.drop k) (b.drop k)=if a[k]=b[k] then X8 (a.drop (k+1)) (b.drop (k+1))+1 else 0:=by
 rw [K13 hk,K13 hk'];rfl
theorem J13 (a b:List Int) (k:Nat) (h:¬(k < a.length∧k < b.length)):X8 (a.drop k) (b.drop k)=0:=by
 by_cases h1:k < a.length
 ·rw [K15 (as:=b) (by omega)]
  cases a.drop k<;>rfl
 ·rw [K15 (as:=a) (by omega)];rfl
theorem E83:∀(a b:List Int) (p q:Int),F9 p q a b=P7 p q (X8 a b)++F9 (p+X8 a b) (q+X8 a b) (a.drop (X8 a b)) (b.drop (X8 a b))
 | [],b,p,q=>by simp [X8,u9]
 | x::a,[],p,q=>by simp [X8,u9]
 | x::a,y::b,p,q=>by
  unfold X8
  by_cases h:x=y
  ·rw [if_pos h]
   conv=>lhs;unfold F9
   rw [if_pos h,E83 a b (p+1) (q+1),B26]
   simp only [List.drop_succ_cons,K45]
   rw [show p+1+(X8 a b:Int)=p+((X8 a b+1:Nat):Int) by omega,show q+1+(X8 a b:Int)=q+((X8 a b+1:Nat):Int) by omega]
  ·rw [if_neg h]
   simp [u9]
end Go.AL
namespace Go.AL
open Go
def GrX (l:List Change) (m ctx:Int):Nat→List Hunk→Nat→Prop
 | a,[],k=>a=k
 | a,h::r,k=>∃b,a < b∧opens l ctx a∧(∀c,a < c→c < b→¬opens l ctx c)∧h=mkH l m ctx a b∧GrX l m ctx b r k
theorem GrX.le {l:List Change} {m ctx:Int}:∀{hs:List Hunk} {a k:Nat},GrX l m ctx a hs k→a≤k
 | [],a,k,h=>Nat.le_of_eq h
 | _::_,a,k,⟨b,h1,_,_,_,h2⟩=>by have:=GrX.le h2;omega
theorem GrX.snoc {l:List Change} {m ctx:Int} {k n:Nat} (ho:opens l ctx k) (hk:k < n) (hno:∀c,k < c→c < n→¬opens l ctx c):∀{hs:List Hunk} {a:Nat},GrX l m ctx a hs k→GrX l m ctx a (hs++[mkH l m ctx k n]) n
 | [],a,h=>by
  obtain rfl:a=k:=h
  exact ⟨n,hk,ho,hno,rfl,rfl⟩
 | _::_,a,⟨b,h1,h2,h3,h4,h5⟩=>⟨b,h1,h2,h3,h4,GrX.snoc ho hk hno h5⟩
theorem GrX.last {l:List Change} {m ctx:Int} {k:Nat} (hno:¬opens l ctx k):∀{hs:List Hunk} {a:Nat},GrX l m ctx a hs k→hs≠[]→GrX l m ctx a (hs.set (hs.length - 1) (D05 l m ctx k (hs.getD (hs.length - 1) I44))) (k+1)
 | [],_,_,h0=>absurd rfl h0
 | [h],a,⟨b,h1,h2,h3,h4,h5⟩,_=>by
  obtain rfl:b=k:=h5
  subst h4
  refine ⟨b+1,by omega,h2,fun c hc1 hc2=>?_,rfl,rfl⟩
  by_cases hcb:c=b
  ·rw [hcb];exact hno
  ·exact h3 c hc1 (by omega)
 | h::h'::r,a,⟨b,h1,h2,h3,h4,h5⟩,_=>by
  have ih:=GrX.last hno h5 (by simp)
  refine ⟨b,h1,h2,h3,h4,?_⟩
  simpa using ih
theorem GrX.len {l:List Change} {m ctx:Int}:∀{hs:List Hunk} {a k:Nat},GrX l m ctx a hs k→hs.length≤k - a
 | [],_,_,_=>Nat.zero_le _
 | _::_,a,k,⟨b,h1,_,_,_,h2⟩=>by have:=GrX.len h2;have:=h2.le;simp only [K08];omega
end Go.AL
namespace Go.AL
open Go
def A34:List Str→Int→List (Str × Cell)
 | [],_=>[]
 | s::r,i=>(s,.v (.int .i64 i))::A34 r (i+1)
theorem F84 (s:Str):∀(l:List Str) (i:Int),A34 (l++[s]) i=A34 l i++[(s,.v (.int .i64 (i+l.length)))]
 | [],i=>by simp [A34]
 | x::r,i=>by
  simp only [K45,A34,F84 s r,K08]
  rw [show i+1+(r.length:Int)=i+((r.length+1:Nat):Int) by omega]
theorem F85 (s:Str):∀(l:List Str) (i:Int),s∈l→A22 (A34 l i) s=some (.v (.int .i64 (I5 l s i)))
 | [],_,h=>by simp at h
 | x::r,i,h=>by
  simp only [A34,A22,I5]
  by_cases he:x=s
  ·rw [if_pos he,if_pos he]
  ·rw [if_neg he,if_neg he]
   exact F85 s r (i+1) ((List.mem_cons.1 h).resolve_left (fun q=>he q.symm))
theorem E84 (s:Str):∀(l:List Str) (i:Int),s∉l→A22 (A34 l i) s=none
 | [],_,_=>rfl
 | x::r,i,h=>by
  simp only [A34,A22]
  rw [if_neg (fun q=>h (by simp [q]))]
  exact E84 s r (i+1) (fun q=>h (by simp [q]))
theorem C06 (s:Str) (r:List Str):∀(l:List Str) (i:Int),s∈l→I5 (l++r) s i=I5 l s i
 | [],_,h=>by simp at h
 | x::l,i,h=>by
  simp only [K45,I5]
  by_cases he:x=s
  ·rw [if_pos he,if_pos he]
  ·rw [if_neg he,if_neg he]
   exact C06 s r l (i+1) ((List.mem_cons.1 h).resolve_left (fun q=>he q.symm))
theorem D84 (s:Str):∀(l:List Str) (i:Int),s∉l→I5 (l++[s]) s i=i+l.length
 | [],i,_=>by simp [I5]
 | x::l,i,h=>by
  simp only [K45,I5,K08]
  rw [if_neg (fun q=>h (by simp [q])),D84 s l (i+1) (fun q=>h (by simp [q]))]
  omega
theorem D10:∀(l out:List Str),∃r,l.foldl J1 out=out++r
 | [],out=>⟨[],by simp⟩
 | s::l,out=>by
  obtain ⟨r,hr⟩:=D10 l (J1 out s)
  rw [K37,hr]
  unfold J1
  split
  ·exact ⟨r,rfl⟩
  ·exact ⟨s::r,by simp⟩
def P8 (files:List (List Str)) (k j:Nat):List Str:=((files.take k).flatten++(files.getD k []).take j).foldl J1 []
theorem H27 (files:List (List Str)) (k:Nat):P8 files (k+1) 0=P8 files k (files.getD k []).length:=by
 unfold P8
 rw [List.take_zero,K29,K28]
 by_cases h:k < files.length
 ·rw [W3 files k h]
  congr 2
  simp [h]
 ·rw [K42 (by omega),K42 (by omega)]
  have:files.getD k []=[]:=by simp [show files.length≤k by omega]
  rw [this,K29]
theorem G53 (files:List (List Str)) (k j:Nat) (s:Str) (h:(files.getD k [])[j]?=some s):P8 files k (j+1)=J1 (P8 files k j) s:=by
 unfold P8
 have hj:j < (files.getD k []).length:=(List.getElem?_eq_some_iff.1 h).1
 have he:=(List.getElem?_eq_some_iff.1 h).2
 rw [K16 hj,he,←K18,K43]
 rfl
theorem H28 (files:List (List Str)):P8 files files.length 0=E5 files:=by
 unfold P8 E5
 rw [K28];simp
theorem D85 (files:List (List Str)) (k j:Nat):∃r,E5 files=P8 files k j++r:=by
 have h:∃m,files.flatten=((files.take k).flatten++(files.getD k []).take j)++m:=by
  refine ⟨(files.getD k []).drop j++(files.drop (k+1)).flatten,?_⟩
  by_cases hk:k < files.length
  ·have e:files=files.take k++files.getD k []::files.drop (k+1):=by
    have:files.getD k []=files[k]:=by simp [hk]
    rw [this,List.getElem_cons_drop,K46]
   conv=>lhs;rw [e]
   rw [K36,K25,K18]
   congr 1
   rw [←K18,K46]
  ·have:files.getD k []=[]:=by simp [show files.length≤k by omega]
   rw [this,K42 (by omega:files.length≤k),K15 (by omega:files.length≤k+1)]
   simp
 obtain ⟨m,hm⟩:=h
 unfold E5 P8
 rw [hm,K43]
 obtain ⟨r,hr⟩:=D10 m (((files.take k).flatten++(files.getD k []).take j).foldl J1 [])
 exact ⟨r,hr⟩
theorem E85 (files:List (List Str)) (k j:Nat):(P8 files k j).length≤files.flatten.length:=by
 obtain ⟨r,hr⟩:=D85 files k j
 have:=B94 files
 rw [hr,K06] at this;omega
def R6 (files:List (List Str)) (k:Nat):List TC:=(List.range files.length).map fun r=>if r < k then .p (.list Int 1 F7 (L2 (E5 files) (files.getD r []))) else .p (.v (.slice none 0 0))
theorem J14 {files:List (List Str)} {k:Nat} (h:k < files.length):(R6 files k)[k]?=some (.p (.v (.slice none 0 0))):=by
 simp [R6,h]
theorem G54 (files:List (List Str)) (k m:Nat) (_h:k < files.length):((R6 files k).set k (.buf m Int 1 F7 (L2 (E5 files) (files.getD k [])))).map (TC.forget m)=R6 files (k+1):=by
 have e1:(R6 files k).map (TC.forget m)=R6 files k:=by
  unfold R6
  rw [K40]
  apply List.map_congr_left
  intro r _
  simp only [Function.comp]
  split<;>rfl
 rw [List.map_set,e1]
 have e2:(TC.buf m Int 1 F7 (L2 (E5 files) (files.getD k []))).forget m=.p (.list Int 1 F7 (L2 (E5 files) (files.getD k []))):=by simp [TC.forget]
 rw [e2]
 unfold R6
 refine A37 _ _ _ _ _ (fun _=>by simp) (fun q hq hne=>?_)
 simp only [show (q < k+1)=(q < k) from propext ⟨fun h=>by omega,fun h=>by omega⟩]
theorem I02 (files:List (List Str)):List.replicate files.length (TC.p (.v (.slice none 0 0)))=R6 files 0:=by
 unfold R6
 simp only [Nat.not_lt_zero,if_false,List.map_const',K60]
theorem I03 (files:List (List Str)):R6 files files.length=(files.map (L2 (E5 files))).map fun x=>TC.p (intsC x 0):=by
 unfold R6
 apply List.ext_getElem
 ·simp
 ·intro i h1 h2
  have hi:i < files.length:=by simpa using h1
  simp [hi,intsC]
end Go.AL
namespace Go.AL
open Go
theorem I49 (m n:Int):∀(l:List Change) (k0:Nat) (i j:Int),(∀k,k < l.length→O2 (cAt l k).Old∧O2 (cAt l k).OldLen∧O2 (cAt l k).New∧O2 (cAt l k).NewLen∧(cAt l k).OldLen+(cAt l k).NewLen≠0∧(cAt l k).Old - eoI i l k=(cAt l k).New - enI j l k∧eoI i l k≤(cAt l k).Old∧(0 < k0+k→eoI i l k < (cAt l k).Old)) →
  (m - eoI i l l.length=n - enI j l l.length∧eoI i l l.length≤m)→N0 k0 i j l m n=true
 | [],k0,i,j,_,h=>by
  have h1:m - i=n - j∧i≤m:=h
  simp only [N0,decide_eq_true_eq];omega
 | c::r,k0,i,j,h,he=>by
  simp only [N0,K10,decide_eq_true_eq]
  refine ⟨?_,I49 m n r (k0+1) _ _ (fun k hk=>?_) ?_⟩
  ·obtain ⟨h1,h2,h3,h4,h5,h6,h7,h8⟩:=h 0 (by simp)
   have h1:O2 c.Old:=h1
   have h2:O2 c.OldLen:=h2
   have h3:O2 c.New:=h3
   have h4:O2 c.NewLen:=h4
   have h5:c.OldLen+c.NewLen≠0:=h5
   have h6:c.Old - i=c.New - j:=h6
   have h7:i≤c.Old:=h7
   have h8:0 < k0+0→i < c.Old:=h8
   unfold G48
   rintro (((((((q | q) | q) | q) | q) | q) | q) | ⟨q,q2⟩)
   ·exact q h1
   ·exact q h2
   ·exact q h3
   ·exact q h4
   ·exact h5 q
   ·exact q h6
   ·omega
   ·have:=h8 (by omega);omega
  ·have:=h (k+1) (by simpa using hk)
   rw [D08,A18,A19] at this
   obtain ⟨e1,e2,e3,e4,e5,e6,e7,e8⟩:=this
   exact ⟨e1,e2,e3,e4,e5,e6,e7,fun h0=>e8 (by omega)⟩
  ·rw [K08,A18,A19] at he;exact he
theorem I50 (x y:List Str):∀(l:List Change) (i j:Int),(∀k,k < l.length→sub x (eoI i l k) (cAt l k).Old=sub y (enI j l k) (cAt l k).New)→sub x (eoI i l l.length) x.length=sub y (enI j l l.length) y.length→D44 x y i j l
 | [],_,_,_,h=>h
 | c::r,i,j,h,he=>by
  refine ⟨h 0 (by simp),I50 x y r _ _ (fun k hk=>?_) ?_⟩
  ·have:=h (k+1) (by simpa using hk)
   rw [D08,A18,A19] at this;exact this
  ·rw [K08,A18,A19] at he;exact he
theorem I51 {x:List Str} {p q:Int} {t:Nat} (h0:0≤p) (h:p+t < q):(sub x p q)[t]?=x[(p+t).toNat]?:=by
 unfold sub
 rw [List.getElem?_take,if_pos (by omega),K33]
 congr 1;omega
theorem G55 {x y:List Str} {p q p' q':Int} (h:sub x p q=sub y p' q') (h0:0≤p) (h0':0≤p') (hq:q≤x.length) (he:q - p=q' - p') {t:Nat} (ht:p+t < q):∃v,x[(p+t).toNat]?=some v∧y[(p'+t).toNat]?=some v:=by
 have h1:x[(p+t).toNat]?=some x[(p+t).toNat]:=K07 (by omega)
 refine ⟨_,h1,?_⟩
 rw [←I51 (q:=q') h0' (by omega),←h,I51 h0 ht];exact h1
theorem D86 {i j:Int} {n:Nat} {p:Span} (h:p∈P7 i j n):∃t:Nat,t < n∧p=⟨i+t,j+t⟩:=by
 unfold P7 at h
 obtain ⟨t,h1,h2⟩:=List.mem_map.1 h
 exact ⟨t,List.mem_range.1 h1,h2.symm⟩
theorem E86 {x y:List Str}:∀(l:List Change) (k0:Nat) (i j:Int),N0 k0 i j l x.length y.length=true→D44 x y i j l→0≤i→0≤j→∀p∈L9 i j l x.length,EqAt x y p
 | [],k0,i,j,hs,he,hi,hj,p,hp=>by
  simp only [N0,decide_eq_true_eq] at hs
  unfold L9 at hp
  obtain ⟨t,ht,rfl⟩:=D86 hp
  have he:sub x i x.length=sub y j y.length:=he
  exact ⟨by dsimp only;omega,by dsimp only;omega,G55 he hi hj (by omega) (by omega) (by omega)⟩
 | c::r,k0,i,j,hs,he,hi,hj,p,hp=>by
  have hok:=A71 _ _ _ _ _ _ hs
  have g:=A51 x.length y.length (c::r) k0 i j hs 0 (by simp)
  obtain ⟨g1,g2,g3,g4,g5,g6,g7,_⟩:=g
  have g1:O2 c.Old:=g1
  have g2:O2 c.OldLen:=g2
  have g3:O2 c.New:=g3
  have g4:O2 c.NewLen:=g4
  have g6:c.Old - i=c.New - j:=g6
  have g7:i≤c.Old:=g7
  simp only [N0,K10,decide_eq_true_eq] at hs
  unfold L9 at hp
  unfold O2 at g1 g2 g3 g4
  have hm:=hok.2.2.2.2.2.2.end_le
  rcases List.mem_append.1 hp with hp | hp
  ·obtain ⟨t,ht,rfl⟩:=D86 hp
   exact ⟨by dsimp only;omega,by dsimp only;omega,G55 he.1 hi hj (by omega) (by omega) (by omega)⟩
  ·rw [show max i c.Old+c.OldLen=c.Old+c.OldLen by omega,show j+((c.Old - i).toNat:Int)+c.NewLen=c.New+c.NewLen by omega] at hp
   exact E86 r (k0+1) _ _ hs.2 he.2 (by omega) (by omega) p hp
theorem ScFit.pairs {x y:List Str} {l:List Change} (h:ScFit x y l):∀p∈S2 l x.length,EqAt x y p:=E86 l 0 0 0 h.sc h.eq (Int.le_refl _) (Int.le_refl _)
def D46 (c:Change):Change:=⟨c.Old+1,c.OldLen,c.New+1,c.NewLen⟩
def B46 (l:List Change) (k:Nat):List Change:=l.set k (D46 (cAt l k))
def atI (t:List Int) (i:Int):Int:=t.getD i.toNat 0
def I52 (l:List Change) (k:Nat) (t:List Int) (f n:Int):Prop:=(f+n < t.length∧atI t f=atI t (f+n))∧(k+1=l.length∨(cAt l k).Old+(cAt l k).OldLen+1 < (cAt l (k+1)).Old)
instance (l:List Change) (k:Nat) (t:List Int) (f n:Int):Decidable (I52 l k t f n):=by unfold I52;exact inferInstance
def E14 (l:List Change) (a b:List Int) (k:Nat):Bool :=
 if (cAt l k).NewLen=0 then decide (I52 l k a (cAt l k).Old (cAt l k).OldLen) else if (cAt l k).OldLen=0 then decide (I52 l k b (cAt l k).New (cAt l k).NewLen) else false
theorem v6 (l:List Change) (k:Nat):(B46 l k).length=l.length:=by simp [B46]
theorem C26 (l:List Change) {k:Nat} (hk:k < l.length) (q:Nat):cAt (B46 l k) q=if q=k then D46 (cAt l k) else cAt l q:=by
 unfold B46
 by_cases h:q=k
 ·subst h
  have:∀z,cAt (l.set q z) q=z:=fun z=>by unfold cAt;simp [hk]
  rw [if_pos rfl,this]
 ·rw [if_neg h];unfold cAt
  simp only [K09]
  rw [List.getElem?_set_ne (Ne.symm h)]
theorem D11 (l:List Change) {k:Nat} (hk:k < l.length) (q:Nat):eoI 0 (B46 l k) q=eoI 0 l q+(if q=k+1 then 1 else 0):=by
 cases q with
 | zero=>simp [eoI]
 | succ q =>
  rw [C03,C03,C26 l hk]
  by_cases h:q=k
  ·subst h;rw [if_pos rfl,if_pos rfl];simp only [B68,D46];omega
  ·rw [if_neg h,if_neg (by omega)];omega
theorem D12 (l:List Change) {k:Nat} (hk:k < l.length) (q:Nat):enI 0 (B46 l k) q=enI 0 l q+(if q=k+1 then 1 else 0):=by
 cases q with
 | zero=>simp [enI]
 | succ q =>
  rw [C04,C04,C26 l hk]
  by_cases h:q=k
  ·subst h;rw [if_pos rfl,if_pos rfl];simp only [G50,D46];omega
  ·rw [if_neg h,if_neg (by omega)];omega
structure IdsOf (x:List Str) (a:List Int):Prop where
 len:a.length=x.length
 inj:∀(i j:Nat) (u v:Str) (z:Int),x[i]?=some u→x[j]?=some v→a[i]?=some z→a[j]?=some z→u=v
theorem ScFit.down {x y:List Str} {l:List Change} {a b:List Int} (h:ScFit x y l) (ha:IdsOf x a) (hb:IdsOf y b) {k:Nat} (hk:k < l.length) (hd:E14 l a b k=true):ScFit x y (B46 l k):=by
 have hlx:=h.lx
 have hly:=h.ly
 have hg:=A51 _ _ _ 0 0 0 h.sc
 have hge:=H99 _ _ _ 0 0 0 h.sc
 have hq:=G51 _ _ _ _ _ h.eq
 have hqe:=I00 _ _ _ _ _ h.eq
 have hok:=h.ok
 obtain ⟨c,hc⟩:∃c,c=cAt l k:=⟨_,rfl⟩
 obtain ⟨g1,g2,g3,g4,g5,g6,g7,g8⟩:=hg k hk
 have hb4:=hok.get k hk
 rw [←hc] at g1 g2 g3 g4 g5 g6 g7 g8 hb4
 unfold O2 at g1 g2 g3 g4
 have eo1:eoI 0 l (k+1)=c.Old+c.OldLen:=by rw [C03,←hc];rfl
 have en1:enI 0 l (k+1)=c.New+c.NewLen:=by rw [C04,←hc];rfl
 obtain ⟨E,E',hE1,hE2,hE3,hE4,hE5,hEn⟩:∃E E':Int,sub x (c.Old+c.OldLen) E=sub y (c.New+c.NewLen) E'∧E - (c.Old+c.OldLen)=E' - (c.New+c.NewLen)∧E≤x.length∧E'≤y.length∧(c.Old+c.OldLen < E)∧(k+1 < l.length→E=(cAt l (k+1)).Old∧E'=(cAt l (k+1)).New∧c.Old+c.OldLen+1 < E):=by
  by_cases hl:k+1=l.length
  ·rw [←hl,eo1,en1] at hge hqe
   refine ⟨x.length,y.length,hqe,by omega,by omega,by omega,?_,fun q=>absurd hl (by omega)⟩
   unfold E14 at hd
   rw [←hc] at hd
   split at hd
   ·have:=(A0 hd).1.1;rw [ha.len] at this;omega
   ·split at hd
    ·have:=(A0 hd).1.1;rw [hb.len] at this;omega
    ·cases hd
  ·have hl:k+1 < l.length:=by omega
   obtain ⟨f1,f2,f3,f4,f5,f6,f7,f8⟩:=hg (k+1) hl
   have f9:=hq (k+1) hl
   have f10:=hok.get (k+1) hl
   rw [eo1,en1] at f6 f9
   rw [eo1] at f7
   unfold O2 at f2 f4
   have hroom:c.Old+c.OldLen+1 < (cAt l (k+1)).Old:=by
    unfold E14 at hd
    rw [←hc] at hd
    split at hd
    ·have:=(A0 hd).2;rw [←hc] at this;omega
    ·split at hd
     ·have:=(A0 hd).2;rw [←hc] at this;omega
     ·cases hd
   exact ⟨_,_,f9,by omega,by omega,by omega,by omega,fun _=>⟨rfl,rfl,hroom⟩⟩
 have hv:∃v,x[c.Old.toNat]?=some v∧y[c.New.toNat]?=some v:=by
  obtain ⟨v,v1,v2⟩:=G55 (t:=0) hE1 (by omega) (by omega) (by omega) hE2 (by omega)
  simp only [Int.natCast_zero,Int.add_zero] at v1 v2
  unfold E14 at hd
  rw [←hc] at hd
  split at hd
  ·rename_i hn
   have:=(A0 hd).1.2
   rw [hn,Int.add_zero] at v2
   refine ⟨v,?_,v2⟩
   have l1:c.Old.toNat < a.length:=by rw [ha.len];omega
   have l2:(c.Old+c.OldLen).toNat < a.length:=by rw [ha.len];omega
   have hx:x[c.Old.toNat]?=some x[c.Old.toNat]:=K07 (by omega)
   have ea:a[c.Old.toNat]?=some (atI a c.Old):=by unfold atI;rw [K09,K07 l1];rfl
   have eb:a[(c.Old+c.OldLen).toNat]?=some (atI a (c.Old+c.OldLen)):=by unfold atI;rw [K09,K07 l2];rfl
   rw [←this] at eb
   have:=ha.inj _ _ _ _ _ hx v1 ea eb
   rw [hx,this]
  ·split at hd
   ·rename_i _ hn
    have:=(A0 hd).1.2
    rw [hn,Int.add_zero] at v1
    refine ⟨v,v1,?_⟩
    have l1:c.New.toNat < b.length:=by rw [hb.len];omega
    have l2:(c.New+c.NewLen).toNat < b.length:=by rw [hb.len];omega
    have hx:y[c.New.toNat]?=some y[c.New.toNat]:=K07 (by omega)
    have ea:b[c.New.toNat]?=some (atI b c.New):=by unfold atI;rw [K09,K07 l1];rfl
    have eb:b[(c.New+c.NewLen).toNat]?=some (atI b (c.New+c.NewLen)):=by unfold atI;rw [K09,K07 l2];rfl
    rw [←this] at eb
    have:=hb.inj _ _ _ _ _ hx v2 ea eb
    rw [hx,this]
   ·cases hd
 obtain ⟨v,v1,v2⟩:=hv
 have hen0:0≤eoI 0 l k∧0≤enI 0 l k:=by
  cases k with
  | zero=>simp [eoI,enI]
  | succ k =>
   obtain ⟨f1,f2,f3,f4,_⟩:=hg k (by omega)
   unfold O2 at f1 f2 f3 f4
   rw [C03,C04];unfold B68 G50;omega
 have htail:sub x (c.Old+c.OldLen+1) E=sub y (c.New+c.NewLen+1) E':=by
  have:=E77 (e:=E - (c.Old+c.OldLen) - 1) hE1 (by omega) (by omega) (by omega) (by omega) hE2
  rw [show E - (E - (c.Old+c.OldLen) - 1)=c.Old+c.OldLen+1 by omega,show E' - (E - (c.Old+c.OldLen) - 1)=c.New+c.NewLen+1 by omega] at this
  exact this
 refine ⟨hlx,hly,I49 _ _ _ 0 0 0 (fun q hql=>?_) ?_,I50 _ _ _ 0 0 (fun q hql=>?_) ?_⟩
 ·rw [v6] at hql
  rw [C26 l hk,D11 l hk,D12 l hk]
  by_cases e:q=k
  ·rw [if_pos e,if_neg (show ¬q=k+1 by omega),e,←hc]
   unfold O2
   simp only [D46]
   refine ⟨by omega,g2,by omega,g4,g5,by omega,by omega,fun _=>by omega⟩
  ·rw [if_neg e]
   obtain ⟨f1,f2,f3,f4,f5,f6,f7,f8⟩:=hg q hql
   refine ⟨f1,f2,f3,f4,f5,?_,?_,?_⟩
   ·by_cases e2:q=k+1
    ·rw [if_pos e2];omega
    ·rw [if_neg e2];omega
   ·by_cases e2:q=k+1
    ·rw [if_pos e2];have:=f8 (by omega);omega
    ·rw [if_neg e2];omega
   ·intro h0
    by_cases e2:q=k+1
    ·rw [if_pos e2,e2,eo1]
     have:=(hEn (by omega))
     omega
    ·rw [if_neg e2];have:=f8 h0;omega
 ·rw [v6,D11 l hk,D12 l hk]
  by_cases e2:l.length=k+1
  ·rw [if_pos e2,e2,eo1,en1]
   rw [e2,eo1,en1] at hge
   have h1:E≤x.length:=hE3
   omega
  ·rw [if_neg e2];omega
 ·rw [v6] at hql
  rw [C26 l hk,D11 l hk,D12 l hk]
  by_cases e:q=k
  ·rw [if_pos e,if_neg (show ¬q=k+1 by omega),e,←hc]
   simp only [D46,Int.add_zero]
   have:=hq k hk
   rw [←hc] at this
   rw [H24 hen0.1 g7 v1,H24 hen0.2 (by omega) v2,this]
  ·rw [if_neg e]
   by_cases e2:q=k+1
   ·rw [if_pos e2]
    subst e2
    obtain ⟨q1,q2,_⟩:=hEn hql
    rw [eo1,en1,←q1,←q2];exact htail
   ·rw [if_neg e2,Int.add_zero,Int.add_zero]
    exact hq q hql
 ·rw [v6,D11 l hk,D12 l hk]
  by_cases e2:l.length=k+1
  ·rw [if_pos e2]
   rw [e2,eo1,en1] at hqe hge ⊢
   have:=E77 (e:=x.length - (c.Old+c.OldLen) - 1) hqe (by omega) (by omega) (by omega) (by omega) (by omega)
   rw [show (x.length:Int) - (x.length - (c.Old+c.OldLen) - 1)=c.Old+c.OldLen+1 by omega,show (y.length:Int) - (x.length - (c.Old+c.OldLen) - 1)=c.New+c.NewLen+1 by omega] at this
   exact this
  ·rw [if_neg e2,Int.add_zero,Int.add_zero];exact hqe
section
variable {x y:List Str} {a b:List Int} (ha:IdsOf x a) (hb:IdsOf y b)
include ha hb
omit ha hb in
omit ha hb in
end
end Go.AL
namespace Go.AL
open Go
structure Made12 (on nn a b:Str) (l:List Change) (ctx:Int):Prop where
 chk:D07 ⟨on,nn,m8 l (C2 a) (C2 b) ctx⟩=0
 wr:(I45 ⟨on,nn,m8 l (C2 a) (C2 b) ctx⟩).length≤16777216
 fit:PFit ⟨on,nn,m8 l (C2 a) (C2 b) ctx⟩
 rg:∀h∈m8 l (C2 a) (C2 b) ctx,(-4611686018427387904≤h.Old∧h.Old≤4611686018427387904)∧(-4611686018427387904≤h.New∧h.New≤4611686018427387904)
 sz:szP (m8 l (C2 a) (C2 b) ctx)≤268435456
end Go.AL
namespace Go.AL
open Go
section
variable {x y:List Str} {l:List Change}
end
end Go.AL
namespace Go.AL
open Go
theorem B47:∀(y:List Str),(∀s∈y,J5 s=true)→U6 y=true→Y4 y=true
 | [],_,_=>rfl
 | s::r,h,he=>by
  simp only [U6,K10] at he
  simp only [Y4,K10]
  exact ⟨⟨h s (List.mem_cons_self ..),he.1⟩,B47 r (fun t ht=>h t (List.mem_cons_of_mem _ ht)) he.2⟩
end Go.AL
namespace Go.AL
open Go
end Go.AL
namespace Go.AL
open Go
def noNl:Str:=[92,32,78,111,32,110,101,119,108,105,110,101,32,97,116,32,101,110,100,32,111,102,32,102,105,108,101]
def lineLs (x:PatchLine):List Str:=if ended x.Text=true then [x.Kind::x.Text.dropLast] else [x.Kind::x.Text,noNl]
def headLn (h:PatchHunk):Str:=[64,64,32,45]++O5 h.Old (C01 h)++[32,43]++O5 h.New (C02 h)++[32,64,64]
def hunkLs (h:PatchHunk):List Str:=headLn h::(h.Lines.map lineLs).flatten
theorem check12_good {p:Patch} (h:D07 p=0):D43 p.Hunks=true:=by
 unfold D07 at h
 split at h
 ·cases h
 ·split at h
  ·cases h
  ·rename_i h1;simpa using h1
end Go.AL
namespace Go.AL
open Go
structure CHunk where
 At:List Int
 Rows:List Row
 deriving DecidableEq
structure Comb where
 Path:Str
 Dense:Bool
 Parents:Int
 Hunks:List CHunk
 deriving DecidableEq
def H5:CHunk→Nat→Cell:=fun h j=>match j with
 | 0=>.list Int 1 F7 h.At
 | _=>.list Row 3 rowC h.Rows
abbrev B48 (h:CHunk):PV:=.agg [.list Int 1 F7 h.At,.list Row 3 rowC h.Rows]
abbrev O3 (c:Comb):PV:=.agg [.v (.string ⟨c.Path.toArray⟩),.v (.bool c.Dense),.v (.int .i64 c.Parents),.list CHunk 2 H5 c.Hunks]
def comb0:Comb:=⟨[],false,0,[]⟩
def T5 (n k:Nat):Int:=if k=n then -1 else k
def M2 (rows:List Row) (n k:Nat):Int:=(K7 rows (T5 n k)).length
def G9 (rows:List Row) (n:Nat):List Int:=(List.range (n+1)).map (M2 rows n)
def atS (n:Nat):Str:=List.replicate n 64
def G56 (n k:Nat):UInt8:=if k=n then 43 else 45
def D87 (n:Nat) (h:CHunk) (k:Nat):Str:=[32,G56 n k]++O5 (h.At.getD k 0) (M2 h.Rows n k)
def X5 (n:Nat) (h:CHunk) (k:Nat):Str:=((List.range k).map (D87 n h)).flatten
def A74 (n:Nat) (h:CHunk):Str:=atS (n+1)++X5 n h (n+1)++[32]++atS (n+1)
def B63 (r:Row) (p:Nat):UInt8:=if W4 r.Marks p=false then 32 else if r.Lost then 45 else 43
def n7 (n:Nat) (r:Row):Str:=(List.range n).map (B63 r)
def W5 (n:Nat) (r:Row):List Str:=if ended r.Text=true then [n7 n r++r.Text] else [n7 n r++r.Text,markS]
def Q6 (n:Nat) (h:CHunk):List Str:=(A74 n h++[10])::(h.Rows.map (W5 n)).flatten
def ccS:Str:=[100,105,102,102,32,45,45,99,99,32]
def combS:Str:=[100,105,102,102,32,45,45,99,111,109,98,105,110,101,100,32]
def parS:Str:=[112,97,114,101,110,116,115,32]
def B64 (d:Bool):Str:=if d=true then ccS else combS
def I04 (c:Comb):List Str:=(B64 c.Dense++d9 c.Path++[10])::(parS++l5 c.Parents++[10])::(c.Hunks.map (Q6 c.Parents.toNat)).flatten
def i8 (c:Comb):Str:=(I04 c).flatten
def A26 (n:Nat) (ends:List Int) (h:CHunk):Bool:=decide (h.At.length=n+1∧h.Rows≠[])&&(List.range (n+1)).all fun k=>decide ((ends.getD k 0≤h.At.getD k 0∧h.At.getD k 0≤4096)∧h.At.getD k 0+M2 h.Rows n k≤4096)
def U7 (n:Nat) (h:CHunk):List Int:=(List.range (n+1)).map fun k=>h.At.getD k 0+M2 h.Rows n k
def R9 (n:Nat) (ends:List Int):List CHunk→Bool
 | []=>true
 | h::r=>A26 n ends h&&R9 n (U7 n h) r
def L5 (hs:List CHunk):List Row:=(hs.map (·.Rows)).flatten
def P5 (n:Nat) (hs:List CHunk):Bool:=R9 n (List.replicate (n+1) 0) hs&&T3 (L5 hs) n
def X2 (n:Nat) (hs:List CHunk):Bool:=hs.all fun h=>N8 h.Rows n
def G8 (c:Comb):Int:=if Q0 c.Path=false then 120 else if c.Parents < 1∨32 < c.Parents then 2 else if X2 c.Parents.toNat c.Hunks=false then 180 else if P5 c.Parents.toNat c.Hunks=false then 121 else if 16777216 < (i8 c).length then 1 else 0
theorem D13 {n:Nat} {r:Row} (h:X1 n r=true):0≤r.Marks∧r.Marks < 2 ^ n∧(r.Lost=true→r.Marks≠0):=by
 unfold X1 at h
 simp only [K10,beq_iff_eq,Bool.not_eq_true',Bool.and_eq_false_iff,beq_eq_false_iff_ne] at h
 obtain ⟨h1,h2⟩:=h
 have hp:(0:Int) < 2 ^ n:=Int.pow_pos (by decide)
 have h3:=Int.emod_add_mul_ediv r.Marks (2 ^ n)
 have h4:=Int.emod_nonneg r.Marks (Int.ne_of_gt hp)
 have h5:=Int.emod_lt_of_pos r.Marks hp
 rw [h1,Int.mul_zero,Int.add_zero] at h3
 rw [h3] at h4 h5
 refine ⟨h4,h5,fun hl=>?_⟩
 rcases h2 with h2 | h2
 ·rw [hl] at h2;cases h2
 ·exact h2
theorem pow32 {n:Nat} (h:n≤32):(2:Int) ^ n≤4294967296:=by
 have h1:(2:Nat) ^ n≤2 ^ 32:=Nat.pow_le_pow_right (by omega) h
 have h2:((2 ^ n:Nat):Int)=2 ^ n:=by simp
 have h3:(2:Nat) ^ 32=4294967296:=rfl
 omega
theorem J57 {n:Nat} (hn:n≤32) {rows:List Row} (h:N8 rows n=true):I8 rows:=by
 intro r hr
 have h1:=D13 (List.all_eq_true.1 h r hr)
 have:=pow32 hn
 omega
def c5 (n:Nat) (ends:List Int) (h:CHunk):Bool:=decide (h.At.length=n+1∧h.Rows≠[])&&(List.range (n+1)).all fun k=>decide (ends.getD k 0≤h.At.getD k 0∧h.At.getD k 0≤4096)
def v7 (res:Bool) (rows:List Row):Bool:=rows.foldl B99 res
def v8 (par:Int) (rows:List Row):Int:=rows.foldl C00 par
def w9 (n:Nat) (ends:List Int) (res:Bool) (par:Int):List CHunk→Bool
 | []=>decide (∀e∈ends,e≤4096)
 | h::r=>c5 n ends h&&(T8 res par h.Rows&&w9 n (U7 n h) (v7 res h.Rows) (v8 par h.Rows) r)
theorem E87:∀(a b:List Row) (res:Bool) (par:Int),T8 res par (a++b)=(T8 res par a&&T8 (v7 res a) (v8 par a) b)
 | [],b,res,par=>by simp [T8,v7,v8]
 | x::a,b,res,par=>by
  rw [K45,T8,T8,E87 a b]
  simp only [v7,v8,K37,Bool.and_assoc]
theorem A52 (f:Nat→Int) (n k:Nat) (h:k < n):((List.range n).map f).getD k 0=f k:=by
 rw [K09,K34,K41 h];rfl
theorem E88 {n:Nat} {ends:List Int} (hl:ends.length=n+1):(∀e∈ends,e≤4096)↔∀k,k < n+1→ends.getD k 0≤4096:=by
 constructor
 ·intro h k hk
  rw [K09,K07 (by omega)]
  exact h _ (K17 _)
 ·intro h e he
  obtain ⟨k,hk,rfl⟩:=List.getElem_of_mem he
  have:=h k (by omega)
  rwa [K09,K07 hk] at this
theorem B49 (n:Nat) (h:CHunk):(U7 n h).length=n+1:=by unfold U7;simp
theorem D88 (n:Nat):∀(hs:List CHunk) (ends:List Int) (res:Bool) (par:Int),ends.length=n+1 →
  w9 n ends res par hs=(decide (∀e∈ends,e≤4096)&&R9 n ends hs&&T8 res par (L5 hs))
 | [],ends,res,par,_=>by simp [w9,R9,L5,T8]
 | h::r,ends,res,par,hl=>by
  have ih:=D88 n r (U7 n h) (v7 res h.Rows) (v8 par h.Rows) (B49 n h)
  have e1:L5 (h::r)=h.Rows++L5 r:=by simp [L5]
  rw [w9,ih,R9,e1,E87]
  have e2:(c5 n ends h&&decide (∀e∈U7 n h,e≤4096))=(decide (∀e∈ends,e≤4096)&&A26 n ends h):=by
   rw [Bool.eq_iff_iff]
   unfold c5 A26
   simp only [K10,decide_eq_true_eq,List.all_eq_true,List.mem_range]
   rw [E88 hl,E88 (B49 n h)]
   have e3:∀k,k < n+1→(U7 n h).getD k 0=h.At.getD k 0+M2 h.Rows n k:=fun k hk=>A52 _ _ _ hk
   constructor
   ·rintro ⟨⟨h1,h2⟩,h3⟩
    exact ⟨fun k hk=>by have:=h2 k hk;omega,h1,fun k hk=>⟨h2 k hk,by have:=h3 k hk;rwa [e3 k hk] at this⟩⟩
   ·rintro ⟨_,h2,h3⟩
    exact ⟨⟨h2,fun k hk=>(h3 k hk).1⟩,fun k hk=>by rw [e3 k hk];exact (h3 k hk).2⟩
  generalize c5 n ends h=A at e2 ⊢
  generalize decide (∀e∈U7 n h,e≤4096)=B at e2 ⊢
  generalize decide (∀e∈ends,e≤4096)=C at e2 ⊢
  generalize A26 n ends h=D at e2 ⊢
  generalize T8 res par h.Rows=E
  generalize R9 n (U7 n h) r=F
  generalize T8 (v7 res h.Rows) (v8 par h.Rows) (L5 r)=G
  cases A<;>cases B<;>cases C<;>cases D<;>first | (cases e2;done) | (cases E<;>cases F<;>cases G<;>rfl)
theorem F86 {n:Nat} {hs:List CHunk} (h:X2 n hs=true):N8 (L5 hs) n=true:=by
 unfold N8 L5
 rw [List.all_eq_true]
 intro r hr
 obtain ⟨l,h1,h2⟩:=List.mem_flatten.1 hr
 obtain ⟨x,hx,rfl⟩:=List.mem_map.1 h1
 exact List.all_eq_true.1 (List.all_eq_true.1 h x hx) r h2
theorem H29 {n:Nat} (hn:n≤32) {hs:List CHunk} (h:X2 n hs=true):w9 n (List.replicate (n+1) 0) false 0 hs=P5 n hs:=by
 rw [D88 n hs _ _ _ (List.length_replicate ..),E75 _ n hn (F86 h) (J57 hn (F86 h))]
 have:∀L:List Int,(∀e∈L,e≤4096)→decide (∀e∈L,e≤4096)=true:=fun L h=>decide_eq_true h
 rw [this _ (fun e he=>by have:=(List.mem_replicate.1 he).2;omega)];rfl
theorem B01 {n:Nat}:∀(hs:List CHunk) (ends:List Int),(∀k,k < n+1→0≤ends.getD k 0)→R9 n ends hs=true→∀h∈hs,h.At.length=n+1∧h.Rows≠[]∧∀k,k < n+1→0≤h.At.getD k 0∧h.At.getD k 0+M2 h.Rows n k≤4096
 | [],_,_,_,h,hm=>by cases hm
 | x::r,ends,he,hg,h,hm=>by
  rw [R9,K10] at hg
  obtain ⟨h1,h2⟩:=hg
  unfold A26 at h1
  simp only [K10,decide_eq_true_eq,List.all_eq_true,List.mem_range] at h1
  obtain ⟨⟨h3,h4⟩,h5⟩:=h1
  have hx:∀k,k < n+1→0≤x.At.getD k 0∧x.At.getD k 0+M2 x.Rows n k≤4096:=fun k hk=>by have:=h5 k hk;have:=he k hk;omega
  rcases List.mem_cons.1 hm with rfl | hm
  ·exact ⟨h3,h4,hx⟩
  ·refine B01 r _ (fun k hk=>?_) h2 h hm
   rw [show (U7 n x).getD k 0=x.At.getD k 0+M2 x.Rows n k from A52 _ _ _ hk]
   have:=hx k hk
   have:0≤M2 x.Rows n k:=by unfold M2;omega
   omega
structure CRead (n:Nat) (h:CHunk):Prop where
 len:h.At.length=n+1
 ne:h.Rows≠[]
 at0:∀k,k < n+1→0≤h.At.getD k 0∧h.At.getD k 0+M2 h.Rows n k≤4096
 rows:∀r∈h.Rows,X1 n r=true∧J5 r.Text=true
theorem I05 {c:Comb} (h:G8 c=0):(1≤c.Parents.toNat∧c.Parents.toNat≤32)∧c.Parents=(c.Parents.toNat:Int)∧(∀x∈c.Hunks,CRead c.Parents.toNat x)∧(i8 c).length≤16777216∧Q0 c.Path=true:=by
 unfold G8 at h
 split at h
 ·cases h
 ·rename_i h0
  split at h
  ·cases h
  ·rename_i h1
   split at h
   ·cases h
   ·rename_i h2
    split at h
    ·cases h
    ·rename_i h3
     split at h
     ·cases h
     ·rename_i h4
      refine ⟨by omega,by omega,?_,by omega,by simpa using h0⟩
      intro x hx
      have h2:X2 c.Parents.toNat c.Hunks=true:=by simpa using h2
      have h3:P5 c.Parents.toNat c.Hunks=true:=by simpa using h3
      unfold P5 at h3
      rw [K10] at h3
      obtain ⟨a1,a2,a3⟩:=B01 c.Hunks _ (fun k hk=>by rw [K09,List.getElem?_replicate_of_lt hk];exact Int.le_refl _) h3.1 x hx
      refine ⟨a1,a2,a3,fun r hr=>⟨List.all_eq_true.1 (List.all_eq_true.1 h2 x hx) r hr,?_⟩⟩
      have h5:=h3.2
      unfold T3 at h5
      rw [K10] at h5
      exact List.all_eq_true.1 h5.1 r (List.mem_flatten.2 ⟨x.Rows,List.mem_map.2 ⟨x,hx,rfl⟩,hr⟩)
theorem A40 (n:Nat) (r:Row):(n7 n r).length=n:=by simp [n7]
theorem D14 (n:Nat):(atS n).length=n:=by simp [atS]
end Go.AL
namespace Go.AL
open Go
end Go.AL
namespace Go.AL
open Go
def N1 (r:Row):Nat:=r.Text.length+96
def g9 (h:CHunk):Nat:=2048+h.At.length+(h.Rows.map N1).sum
def szC (hs:List CHunk):Nat:=(hs.map g9).sum
theorem U2 (rows:List Row):rows.length*96≤(rows.map N1).sum:=by
 induction rows with
 | nil=>simp
 | cons x r ih=>simp only [K14,K35,K08,N1] at ih ⊢;omega
theorem B50 (rows:List Row):P3 rows≤(rows.map N1).sum:=by
 unfold P3
 induction rows with
 | nil=>simp
 | cons x r ih=>simp only [K14,K25,K06,K35,N1] at ih ⊢;omega
theorem szRow_mem {rows:List Row} {r:Row} (h:r∈rows):N1 r≤(rows.map N1).sum:=by
 induction rows with
 | nil=>cases h
 | cons x l ih =>
  simp only [K14,K35]
  rcases List.mem_cons.1 h with rfl | h
  ·omega
  ·have:=ih h;omega
theorem B51 {hs:List CHunk} {h:CHunk} (hm:h∈hs):g9 h≤szC hs:=by
 unfold szC
 induction hs with
 | nil=>cases hm
 | cons x l ih =>
  simp only [K14,K35]
  rcases List.mem_cons.1 hm with rfl | hm
  ·omega
  ·have:=ih hm;omega
theorem A75 (hs:List CHunk):hs.length*2048≤szC hs:=by
 unfold szC
 induction hs with
 | nil=>simp
 | cons x l ih =>
  have h2:2048≤g9 x:=by unfold g9;exact Nat.le_trans (Nat.le_add_right _ _) (Nat.le_add_right _ _)
  rw [K14,K35,K08,K32,Nat.one_mul,Nat.add_comm]
  exact Nat.add_le_add h2 ih
theorem E89 (rows:List Row) (k:Nat):((rows.take k).map N1).sum≤(rows.map N1).sum:=by
 conv=>rhs;rw [←K46 k rows,K20,K59]
 omega
theorem E90 (hs:List CHunk) (k:Nat):szC (hs.take k)≤szC hs:=by
 unfold szC
 conv=>rhs;rw [←K46 k hs,K20,K59]
 omega
theorem F41 {l:List Int} {i:Nat} (h:i < l.length):l[i]?=some (l.getD i 0):=by simp [h]
theorem C64 (rows:List Row) (n k:Nat):0≤M2 rows n k∧M2 rows n k≤rows.length:=by
 have:=A99 rows (T5 n k)
 unfold M2;omega
theorem J58 (rows:List Row) (n k i:Nat) (h:i < rows.length):M2 (rows.take (i+1)) n k=M2 (rows.take i) n k+if Z8 rows[i] (T5 n k)=true then 1 else 0:=by
 unfold M2 K7
 rw [K16 h,K56,K20,K06]
 by_cases hv:Z8 rows[i] (T5 n k)=true<;>simp [hv]
def x5 (rows:List Row) (n i p:Nat):List Int:=(List.range (n+1)).map fun k=>M2 (rows.take (if k < p then i+1 else i)) n k
theorem J15 (rows:List Row) (n i p:Nat):(x5 rows n i p).length=n+1:=by unfold x5;simp
theorem I06 (rows:List Row) (n:Nat):x5 rows n 0 0=List.replicate (n+1) 0:=by
 unfold x5
 refine List.ext_getElem (by simp) fun k h1 h2=>?_
 simp [M2,K7]
theorem J16 (rows:List Row) (n i p:Nat) (hp:p≤n):(x5 rows n i p)[p]?=some (M2 (rows.take i) n p):=by
 unfold x5
 rw [K34,K41 (by omega)];simp
theorem C65 (f:Nat→Int) (n p:Nat) (v:Int):((List.range n).map f).set p v=(List.range n).map (fun k=>if k=p then v else f k):=by
 refine List.ext_getElem (by simp) fun k h1 h2=>?_
 rw [List.getElem_set,List.getElem_map,List.getElem_map,List.getElem_range]
 by_cases e:p=k
 ·rw [if_pos e,if_pos e.symm]
 ·rw [if_neg e,if_neg (fun h=>e h.symm)]
theorem I07 (rows:List Row) (n i p:Nat) (hi:i < rows.length) (hp:p≤n):x5 rows n i (p+1)=if Z8 rows[i] (T5 n p)=true then (x5 rows n i p).set p (M2 (rows.take i) n p+1) else x5 rows n i p:=by
 have hs:=J58 rows n p i hi
 by_cases hv:Z8 rows[i] (T5 n p)=true
 ·rw [if_pos hv] at hs ⊢
  unfold x5
  rw [C65]
  refine List.map_congr_left fun k hk=>?_
  by_cases e:k=p
  ·subst e;rw [if_pos rfl,if_pos (by omega),hs]
  ·rw [if_neg e]
   by_cases h3:k < p
   ·rw [if_pos (by omega),if_pos h3]
   ·rw [if_neg (by omega),if_neg h3]
 ·rw [if_neg hv] at hs ⊢
  unfold x5
  refine List.map_congr_left fun k hk=>?_
  by_cases e:k=p
  ·subst e;rw [if_pos (by omega),if_neg (by omega),hs];omega
  ·by_cases h3:k < p
   ·rw [if_pos (by omega),if_pos h3]
   ·rw [if_neg (by omega),if_neg h3]
theorem I08 (rows:List Row) (n i:Nat):x5 rows n i (n+1)=x5 rows n (i+1) 0:=by
 unfold x5
 refine List.map_congr_left fun k hk=>?_
 rw [if_pos (List.mem_range.1 hk),if_neg (by omega)]
theorem I09 (rows:List Row) (n:Nat):x5 rows n rows.length 0=G9 rows n:=by
 unfold x5 G9
 refine List.map_congr_left fun k hk=>?_
 rw [if_neg (by omega),K28]
theorem E91 (rows:List Row) (n:Nat):(G9 rows n).length=n+1:=by unfold G9;simp
theorem I10 (rows:List Row) (n k:Nat) (h:k < n+1):(G9 rows n)[k]?=some (M2 rows n k):=by
 unfold G9
 rw [K34,K41 h];rfl
def A27 (n:Nat) (h:CHunk) (k:Nat):List Int:=(List.range (n+1)).map fun j=>if j < k then h.At.getD j 0+M2 h.Rows n j else M2 h.Rows n j
theorem I11 (n:Nat) (h:CHunk) (k:Nat):(A27 n h k).length=n+1:=by unfold A27;simp
theorem H30 (n:Nat) (h:CHunk):A27 n h 0=G9 h.Rows n:=by
 unfold A27 G9
 refine List.map_congr_left fun k hk=>?_
 rw [if_neg (by omega)]
theorem I12 (n:Nat) (h:CHunk) (k:Nat) (hk:k < n+1):(A27 n h k)[k]?=some (M2 h.Rows n k):=by
 unfold A27
 rw [K34,K41 hk];simp
theorem I13 (n:Nat) (h:CHunk) (k:Nat):(A27 n h k).set k (M2 h.Rows n k+h.At.getD k 0)=A27 n h (k+1):=by
 unfold A27
 rw [C65]
 refine List.map_congr_left fun j hj=>?_
 by_cases e:j=k
 ·subst e;rw [if_pos rfl,if_pos (by omega)];omega
 ·rw [if_neg e]
  by_cases h3:j < k
  ·rw [if_pos h3,if_pos (by omega)]
  ·rw [if_neg h3,if_neg (by omega)]
theorem H31 (n:Nat) (h:CHunk):A27 n h (n+1)=U7 n h:=by
 unfold A27 U7
 refine List.map_congr_left fun k hk=>?_
 rw [if_pos (List.mem_range.1 hk)]
theorem D89 (n:Nat) (ends:List Int) (h:CHunk):c5 n ends h=true↔(h.At.length=n+1∧h.Rows≠[])∧∀k,k < n+1→ends.getD k 0≤h.At.getD k 0∧h.At.getD k 0≤4096:=by
 unfold c5
 simp only [K10,decide_eq_true_eq,List.all_eq_true,List.mem_range]
theorem J17 (n:Nat) (h:CHunk) (k:Nat):(D87 n h k).length≤26:=by
 have:=A70 (h.At.getD k 0) (M2 h.Rows n k)
 unfold D87;simp only [K06,K08,K11];omega
theorem A76 (n:Nat) (h:CHunk) (k:Nat):X5 n h (k+1)=X5 n h k++D87 n h k:=by
 unfold X5
 rw [K44,K20,K36];simp
theorem A53 (n:Nat) (h:CHunk):∀k,(X5 n h k).length≤26*k
 | 0=>by simp [X5]
 | k+1=>by
  have:=A53 n h k
  have:=J17 n h k
  rw [A76,K06];omega
theorem C27 {n:Nat} (hn:n≤32) (h:CHunk):(A74 n h).length≤925:=by
 have:=A53 n h (n+1)
 unfold A74
 simp only [K06,D14,K08,K11];omega
theorem F87 {n:Nat} (hn:n≤32) (r:Row):(W5 n r).flatten.length≤N1 r:=by
 have hm:markS.length=29:=rfl
 unfold W5 N1
 split<;>simp only [K25,K52,K06,A40,K11]<;>omega
theorem E92 {n:Nat} (hn:n≤32) (rs:List Row):((rs.map (W5 n)).flatten).flatten.length≤(rs.map N1).sum:=by
 induction rs with
 | nil=>simp
 | cons x r ih =>
  have:=F87 hn x
  simp only [K14,K25,K36,K06,K35];omega
theorem H32 {n:Nat} (hn:n≤32) (h:CHunk):(Q6 n h).flatten.length≤g9 h:=by
 have h1:=C27 hn h
 have h2:=E92 hn h.Rows
 unfold Q6 g9
 simp only [K25,K06,K08,K11];omega
theorem G57 {n:Nat} (hn:n≤32) (hs:List CHunk):((hs.map (Q6 n)).flatten).flatten.length≤szC hs:=by
 unfold szC
 induction hs with
 | nil=>simp
 | cons x r ih =>
  have:=H32 hn x
  simp only [K14,K25,K36,K06,K35];omega
def B52 (c:Comb):Str:=B64 c.Dense++d9 c.Path++[10]++(parS++l5 c.Parents++[10])
def cTo (c:Comb) (k:Nat):Str:=B52 c++(((c.Hunks.take k).map (Q6 c.Parents.toNat)).flatten).flatten
theorem E93 (c:Comb):cTo c 0=B52 c:=by simp [cTo]
theorem H33 (c:Comb) (k:Nat) (h:k < c.Hunks.length):cTo c (k+1)=cTo c k++(Q6 c.Parents.toNat c.Hunks[k]).flatten:=by
 unfold cTo
 rw [K16 h];simp only [K20,K14,K38,K36,K25,K52,K29,K18]
theorem D15 (c:Comb):cTo c c.Hunks.length=i8 c:=by
 unfold cTo B52 i8 I04
 rw [K28];simp
def rTo (n:Nat) (rs:List Row) (k:Nat):Str:=(((rs.take k).map (W5 n)).flatten).flatten
theorem H34 (n:Nat) (rs:List Row):rTo n rs 0=[]:=by simp [rTo]
theorem H35 (n:Nat) (rs:List Row) (k:Nat) (h:k < rs.length):rTo n rs (k+1)=rTo n rs k++(W5 n rs[k]).flatten:=by
 unfold rTo
 rw [K16 h];simp only [K20,K14,K38,K36,K25,K52,K29,K18]
theorem I53 {n:Nat} (hn:n≤32) (rs:List Row) (k:Nat):(rTo n rs k).length≤(rs.map N1).sum:=by
 have:=E92 hn (rs.take k)
 have:=E89 rs k
 unfold rTo;omega
theorem F88 (n:Nat) (h:CHunk):(Q6 n h).flatten=A74 n h++[10]++rTo n h.Rows h.Rows.length:=by
 unfold Q6 rTo
 rw [K28];simp
theorem C66 (p:Str):(d9 p).length≤4*p.length+2:=H17 p
theorem G58 (n:Int):(l5 n).length≤10:=X4 n
theorem E94 (c:Comb):(B52 c).length≤4*c.Path.length+48:=by
 have h1:=C66 c.Path
 have h2:=G58 c.Parents
 have h3:(B64 c.Dense).length≤16:=by cases c.Dense<;>decide
 have h4:parS.length=8:=rfl
 unfold B52
 simp only [K06,K08,K11];omega
theorem G59 (c:Comb) (hn:c.Parents.toNat≤32) (k:Nat):(cTo c k).length≤4*c.Path.length+48+szC c.Hunks:=by
 have h1:=E94 c
 have h2:=G57 hn (c.Hunks.take k)
 have h3:=E90 c.Hunks k
 unfold cTo
 rw [K06];omega
theorem D90 (n:Nat) (r:Row):n7 (n+1) r=n7 n r++[B63 r n]:=by
 unfold n7
 rw [K44,K20];rfl
theorem E95 (n:Nat) (r:Row):(W5 n r).flatten=n7 n r++r.Text++(if ended r.Text=true then [] else markS):=by
 unfold W5
 split<;>simp
end Go.AL
namespace Go.AL
open Go
end Go.AL
namespace Go.AL
open Go
abbrev D91:Bool→Nat→Cell:=fun b _=>.v (.bool b)
abbrev pBools (l:List Bool):PV:=.one (.list Bool 1 D91 l)
def V5 (n:Nat) (rows:List Row):Int→List CHunk→List Span→Option (List CHunk)
 | _,hs,[]=>some hs
 | e,hs,s::r=>if s.From < e∨s.To≤s.From∨(rows.length:Int) < s.To then none else V5 n rows s.To (hs++[⟨G9 (rows.take s.From.toNat) n,(rows.drop s.From.toNat).take (s.To.toNat - s.From.toNat)⟩]) r
def U8 (path:Str) (t:Table) (sp:List Span) (d:Bool):Comb × Int :=
 if Q0 path=false then (comb0,120) else if L4 t≠0 then (comb0,L4 t) else match V5 t.Parents.toNat t.Rows 0 [] sp with
  | none=>(comb0,3)
  | some hs=>if G8 ⟨path,d,t.Parents,hs⟩≠0 then (comb0,G8 ⟨path,d,t.Parents,hs⟩) else (⟨path,d,t.Parents,hs⟩,0)
theorem E15 (f:Row→Nat) (c n:Nat) (rows:List Row):∀(sp:List Span) (e:Int) (hs hs':List CHunk),0≤e→V5 n rows e hs sp=some hs'→(hs.map fun h=>c+(h.Rows.map f).sum).sum≤c*hs.length+((rows.take e.toNat).map f).sum→hs.length≤e.toNat →
  (hs'.map fun h=>c+(h.Rows.map f).sum).sum≤c*hs'.length+(rows.map f).sum∧hs'.length≤max rows.length hs.length
 | [],e,hs,hs',he,h,hw,hl=>by
  cases h
  refine ⟨?_,by omega⟩
  have:((rows.take e.toNat).map f).sum≤(rows.map f).sum:=by
   conv=>rhs;rw [←K46 e.toNat rows,K20,K59]
   omega
  omega
 | s :: r,e,hs,hs',he,h,hw,hl=>by
  rw [V5] at h
  split at h
  ·cases h
  ·rename_i hc
   simp only [not_or,Int.not_lt,Int.not_le] at hc
   obtain ⟨c1,c2,c3⟩:=hc
   have ih:=E15 f c n rows r s.To _ hs' (by omega) h
   have hsum:((rows.take e.toNat).map f).sum+(((rows.drop s.From.toNat).take (s.To.toNat - s.From.toNat)).map f).sum≤((rows.take s.To.toNat).map f).sum:=by
    have e1:rows.take s.To.toNat=rows.take s.From.toNat++(rows.drop s.From.toNat).take (s.To.toNat - s.From.toNat):=by
     have:=List.take_add (l:=rows) (i:=s.From.toNat) (j:=s.To.toNat - s.From.toNat)
     rw [show s.From.toNat+(s.To.toNat - s.From.toNat)=s.To.toNat by omega] at this
     exact this
    have e2:rows.take s.From.toNat=rows.take e.toNat++(rows.drop e.toNat).take (s.From.toNat - e.toNat):=by
     have:=List.take_add (l:=rows) (i:=e.toNat) (j:=s.From.toNat - e.toNat)
     rw [show e.toNat+(s.From.toNat - e.toNat)=s.From.toNat by omega] at this
     exact this
    rw [e1,K20,K59]
    conv=>rhs;rw [e2,K20,K59]
    omega
   have hih:=ih (by
    rw [K20,K59,K06]
    simp only [K14,K38,K35,List.sum_nil,K08,K11,Nat.mul_add,Nat.mul_one,Nat.mul_zero]
    omega) (by rw [K06];simp;omega)
   refine ⟨hih.1,?_⟩
   have:=hih.2
   rw [K06] at this
   simp only [K08,K11] at this
   have h3:hs.length+1≤rows.length:=by omega
   omega
def CInvA (n:Nat) (hs:List CHunk):Prop:=∀h∈hs,h.At.length=n+1∧I8 h.Rows
theorem E96 {n:Nat} {rows:List Row} (hr:I8 rows):∀(sp:List Span) (e:Int) (hs hs':List CHunk),V5 n rows e hs sp=some hs'→CInvA n hs→CInvA n hs'
 | [],e,hs,hs',h,hi=>by cases h;exact hi
 | s::r,e,hs,hs',h,hi=>by
  rw [V5] at h
  split at h
  ·cases h
  ·refine E96 hr r _ _ hs' h ?_
   intro x hx
   rcases List.mem_append.1 hx with hx | hx
   ·exact hi x hx
   ·simp only [K54,K55,or_false] at hx
    rw [hx]
    exact ⟨E91 _ _,fun y hy=>hr y (List.mem_of_mem_drop (List.mem_of_mem_take hy))⟩
def D47 (n:Nat) (r:Row):Nat:=r.Text.length+n+29
theorem headC_w (n:Nat) (h:CHunk):(A74 n h).length≤28*(n+1)+1:=by
 have:=A53 n h (n+1)
 unfold A74
 simp only [K06,D14,K08,K11];omega
theorem J59 (n:Nat) (rs:List Row):((rs.map (W5 n)).flatten).flatten.length≤(rs.map (D47 n)).sum:=by
 have hm:markS.length=29:=rfl
 induction rs with
 | nil=>simp
 | cons x r ih =>
  have:(W5 n x).flatten.length≤D47 n x:=by
   unfold W5 D47
   split<;>simp only [K25,K52,K06,A40,K11]<;>omega
  simp only [K14,K25,K36,K06,K35];omega
theorem I14 (n:Nat) (hs:List CHunk):((hs.map (Q6 n)).flatten).flatten.length≤(hs.map fun h=>(28*(n+1)+2)+(h.Rows.map (D47 n)).sum).sum:=by
 induction hs with
 | nil=>simp
 | cons x r ih =>
  have h1:=headC_w n x
  have h2:=J59 n x.Rows
  have h3:(Q6 n x).flatten.length≤(28*(n+1)+2)+(x.Rows.map (D47 n)).sum:=by
   unfold Q6
   simp only [K25,K06,K08,K11];omega
  rw [K14,K25,K36,K06,K14,K35]
  exact Nat.add_le_add h3 ih
theorem J60 (c:Comb):(i8 c).length≤4*c.Path.length+48+(c.Hunks.map fun h=>(28*(c.Parents.toNat+1)+2)+(h.Rows.map (D47 c.Parents.toNat)).sum).sum:=by
 have h1:=E94 c
 have h2:=I14 c.Parents.toNat c.Hunks
 rw [←D15]
 unfold cTo
 rw [K28,K06];omega
theorem B53:∀(s cur:Str),(J3 cur s).length≤s.count 10+1
 | [],cur=>by unfold J3;split<;>simp
 | c::r,cur=>by
  rw [A01]
  split
  ·rename_i h
   have:=B53 r []
   rw [K08,List.count_cons,h];simp;omega
  ·have:=B53 r (cur++[c])
   rw [List.count_cons];omega
theorem D92 (s:Str):(C2 s).length≤s.count 10+1:=B53 s []
theorem D16 (result:Str) (parents:List Str) (L B:Nat) (h0:(C2 result).length≤L∧result.length≤B) (h1:∀b∈parents,(C2 b).length≤L∧b.length≤B) :
  I8 (F2 result parents).1.Rows∧(F2 result parents).1.Rows.length≤(L+1)*(parents.length*L+1)∧∀r∈(F2 result parents).1.Rows,r.Text.length≤B:=by
 have hnil:I8 []∧([]:List Row).length≤(L+1)*(parents.length*L+1)∧∀r∈([]:List Row),r.Text.length≤B:=⟨fun r hr=>(by cases hr),(by simp),fun r hr=>(by cases hr)⟩
 by_cases hn:parents.length < 1∨32 < parents.length
 ·rw [F2,if_pos hn];exact hnil
 obtain ⟨fs,hfs⟩:∃fs,fs=C2 result::parents.map C2:=⟨_,rfl⟩
 obtain ⟨names,hnames⟩:∃names,names=E5 fs:=⟨_,rfl⟩
 obtain ⟨s,hs⟩:∃s,s=O8 (fs.map (L2 names)) (C2 result).length parents.length parents.length:=⟨_,rfl⟩
 have hm:F2 result parents=if ∃k,k < (C2 result).length+1∧(E6 (s.2 k)).2≠0 then (⟨0,[]⟩,1) else (⟨parents.length,V7 names (C2 result) s ((C2 result).length+1)⟩,0):=by
  rw [F2,if_neg hn,hs,hnames,hfs]
 rw [hm]
 split
 ·exact hnil
 have hfB:∀f∈fs,f.length≤L∧∀t∈f,t.length≤B:=by
  intro f hf
  rw [hfs] at hf
  rcases List.mem_cons.1 hf with rfl | hf
  ·exact ⟨h0.1,fun t ht=>by have:=H22 _ _ ht;omega⟩
  ·obtain ⟨b,hb,rfl⟩:=List.mem_map.1 hf
   have:=h1 b hb
   exact ⟨this.1,fun t ht=>by have:=H22 _ _ ht;omega⟩
 have hnB:∀t∈names,t.length≤B:=by
  intro t ht
  rw [hnames] at ht
  obtain ⟨f,hf,h2⟩:=List.mem_flatten.1 (D74 fs t ht)
  exact (hfB f hf).2 t h2
 have hid:∀x∈fs.map (L2 names),x.length≤L∧∀v∈x,(fun _:Int=>True) v:=by
  intro x hx
  obtain ⟨f,hf,rfl⟩:=List.mem_map.1 hx
  exact ⟨by rw [L2,K30];exact (hfB f hf).1,fun _ _=>trivial⟩
 have hok:LoomOk (fun _=>True) L (C2 result).length parents.length s:=by rw [hs];exact A39 hid _
 have hL:(C2 result).length≤L:=h0.1
 have hcs:∀k,(E6 (s.2 k)).1.length≤parents.length*L∧∀m∈(E6 (s.2 k)).1,0≤m.Parents∧m.Parents < 4294967296:=fun k=>by
  have h2:=hok.gaps k
  have h3:=A03 (fun _=>True) L (s.2 k) h2.2
  rw [h2.1] at h3
  exact ⟨h3.1,fun m hmem=>(h3.2 m hmem).1⟩
 have hgetD:∀(l:List Str) (k:Nat),(∀t∈l,t.length≤B)→(l.getD k []).length≤B:=by
  intro l k hl
  rw [K09]
  cases h:l[k]? with
  | none=>simp
  | some t=>exact hl t (K27 h)
 have key:∀k,k≤(C2 result).length+1→I8 (V7 names (C2 result) s k)∧(V7 names (C2 result) s k).length≤k*(parents.length*L+1)∧∀r∈V7 names (C2 result) s k,r.Text.length≤B:=by
  intro k
  induction k with
  | zero=>intro _;simp only [V7,List.range_zero,K38,K52];exact ⟨fun r hr=>(by cases hr),by simp,fun r hr=>(by cases hr)⟩
  | succ k ih =>
   intro hk
   obtain ⟨i1,i2,i3⟩:=ih (by omega)
   have hc:=hcs k
   have hgap:∀r∈S3 names (C2 result) s k,(0≤r.Marks∧r.Marks < 4294967296)∧r.Text.length≤B:=by
    intro r hr
    unfold S3 at hr
    rcases List.mem_append.1 hr with h | h
    ·obtain ⟨m,hmem,rfl⟩:=List.mem_map.1 h
     exact ⟨hc.2 m hmem,hgetD _ _ hnB⟩
    ·split at h
     ·rename_i hkl
      simp only [List.mem_singleton] at h
      subst h
      refine ⟨?_,hgetD _ _ (hfB _ (by rw [hfs];simp)).2⟩
      have:k < s.1.length:=by rw [hok.len];exact hkl
      show 0≤s.1.getD k 0∧s.1.getD k 0 < 4294967296
      rw [K09,K07 this]
      exact hok.marks _ (K17 this)
     ·cases h
   have hgl:(S3 names (C2 result) s k).length≤parents.length*L+1:=by
    unfold S3
    rw [K06,K30]
    have:=hc.1
    split<;>simp<;>omega
   rw [q9]
   refine ⟨fun r hr=>?_,by rw [K06,K32,Nat.one_mul];omega,fun r hr=>?_⟩
   ·rcases List.mem_append.1 hr with h | h
    ·exact i1 r h
    ·exact (hgap r h).1
   ·rcases List.mem_append.1 hr with h | h
    ·exact i3 r h
    ·exact (hgap r h).2
 obtain ⟨k1,k2,k3⟩:=key _ (Nat.le_refl _)
 have:((C2 result).length+1)*(parents.length*L+1)≤(L+1)*(parents.length*L+1):=K21 _ (by omega)
 exact ⟨k1,by simp only;omega,k3⟩
end Go.AL
namespace Go.AL
open Go
def y9 (r:Row):Bool:=!r.Lost&&decide (r.Marks=0)
def A29 (out:List Span) (v:Int):List Span:=match out.getLast? with
 | some s=>out.dropLast++[⟨s.From,v⟩]
 | none=>out
def F42:List Bool→Nat→Bool→List Span→List Span
 | [],_,_,out=>out
 | b::r,i,p,out=>F42 r (i+1) b (if b=true then A29 (if p=true then out else out++[⟨i,i⟩]) ((i:Int)+1) else out)
def B54 (l:List Bool):List Span:=F42 l 0 false []
def C67 (n:Nat) (out:List Span):Prop:=out.length≤n∧∀s∈out,(0≤s.From∧s.From≤n)∧(0≤s.To∧s.To≤n)
theorem F89 {n:Nat} {out:List Span} (h:C67 n out):C67 (n+1) out:=⟨by have:=h.1;omega,fun s hs=>by have:=h.2 s hs;omega⟩
theorem J61 {n:Nat} {out:List Span} (h:C67 n out):C67 (n+1) (out++[⟨n,n⟩]):=by
 refine ⟨by rw [K06];have:=h.1;simp;omega,fun x hx=>?_⟩
 rcases List.mem_append.1 hx with hx | hx
 ·have:=h.2 x hx;omega
 ·simp only [K54,K55,or_false] at hx
  rw [hx];dsimp only;omega
theorem E97 {n:Nat} {out:List Span} {v:Int} (h:C67 n out) (hv:0≤v∧v≤(n:Int)):C67 n (A29 out v):=by
 unfold A29
 cases hl:out.getLast? with
 | none=>dsimp only;exact h
 | some s =>
  dsimp only
  have hm:=h.2 s (List.mem_of_getLast? hl)
  have hne:out≠[]:=fun e=>by rw [e] at hl;cases hl
  have hp:=List.length_pos_iff.2 hne
  refine ⟨by rw [K06,List.length_dropLast];have:=h.1;simp;omega,fun x hx=>?_⟩
  rcases List.mem_append.1 hx with hx | hx
  ·exact h.2 x ((List.dropLast_sublist _).subset hx)
  ·simp only [K54,K55,or_false] at hx
   rw [hx];dsimp only;omega
theorem I54 {i:Nat} {out:List Span} (b p:Bool) (h:C67 i out):C67 (i+1) (if b=true then A29 (if p=true then out else out++[⟨i,i⟩]) ((i:Int)+1) else out):=by
 split
 ·split
  ·exact E97 (F89 h) (by omega)
  ·exact E97 (J61 h) (by omega)
 ·exact F89 h
theorem I55:∀(l:List Bool) (i:Nat) (p:Bool) (out:List Span),C67 i out→C67 (i+l.length) (F42 l i p out)
 | [],i,p,out,h=>h
 | b::r,i,p,out,h=>by
  rw [F42,K08,show i+(r.length+1)=(i+1)+r.length by omega]
  exact I55 r (i+1) b _ (I54 b p h)
theorem H36 (l:List Bool):C67 l.length (B54 l):=by
 have:=I55 l 0 false [] ⟨Nat.le_refl _,fun s hs=>by cases hs⟩
 rwa [Nat.zero_add] at this
def j4 (t:Table):List Span × Int:=if L4 t≠0 then ([],L4 t) else (B54 (t.Rows.map fun r=>!y9 r),0)
def D17 (rows:List Row):Int:=rows.foldl (fun a r=>K6 a r.Marks) 0
def A77 (t:Table) (s:Span):Bool:=(List.range t.Parents.toNat).all fun p=>!decide (D17 ((t.Rows.drop s.From.toNat).take (s.To.toNat - s.From.toNat)) / 2 ^ p % 2=0)
def K5 (t:Table) (d:Bool):List Span × Int:=if (j4 t).2≠0 then ([],(j4 t).2) else ((j4 t).1.filter fun s=>!d||A77 t s,0)
def j5 (l:List Span) (ctx:Int) (k:Nat):Bool:=l.any fun s=>decide (s.From - ctx≤k∧(k:Int) < s.To+ctx)
def N9 (t:Table) (ctx:Int) (d:Bool):List Span × Int :=
 if (K5 t d).2≠0 then ([],(K5 t d).2) else if ctx < 0∨1048576 < ctx then ([],3)
 else (B54 ((List.range t.Rows.length).map (j5 (K5 t d).1 ctx)),0)
theorem I56 (t:Table):C67 t.Rows.length (j4 t).1:=by
 unfold j4
 split
 ·exact ⟨Nat.zero_le _,fun s hs=>by cases hs⟩
 ·have:=H36 (t.Rows.map fun r=>!y9 r)
  rwa [K30] at this
theorem E98 (t:Table) (d:Bool):C67 t.Rows.length (K5 t d).1:=by
 have h:=I56 t
 unfold K5
 split
 ·exact ⟨Nat.zero_le _,fun s hs=>by cases hs⟩
 ·refine ⟨?_,fun s hs=>h.2 s (List.mem_filter.1 hs).1⟩
  have:=List.length_filter_le (fun s=>!d||A77 t s) (j4 t).1
  have:=h.1
  dsimp only;omega
theorem H37 (t:Table) (ctx:Int) (d:Bool):C67 t.Rows.length (N9 t ctx d).1:=by
 unfold N9
 split
 ·exact ⟨Nat.zero_le _,fun s hs=>by cases hs⟩
 ·split
  ·exact ⟨Nat.zero_le _,fun s hs=>by cases hs⟩
  ·have:=H36 ((List.range t.Rows.length).map (j5 (K5 t d).1 ctx))
   rwa [K30,K60] at this
def D93 (l:List Bool) (i:Nat):Bool:=if i=0 then false else l.getD (i - 1) false
theorem J18 {l:List Bool} {i:Nat} {p:Bool} {out:List Span} (h:i < l.length):F42 (l.drop i) i p out=F42 (l.drop (i+1)) (i+1) (l.getD i false) (if l.getD i false=true then A29 (if p=true then out else out++[⟨i,i⟩]) ((i:Int)+1) else out):=by
 rw [K13 h,F42,K09,K07 h];rfl
end Go.AL
namespace Go.AL
open Go
def l6 (l:List Merged) (bit:Int) (a b:Nat):List Merged:=((l.drop a).take (b - a)).map fun y=>⟨y.Line,K6 y.Parents bit⟩
def D18 (list:List Int) (bit:Int) (a n:Nat):List Merged:=((list.drop a).take n).map fun v=>⟨v,bit⟩
def x1 (l:List Merged) (list:List Int) (bit:Int) (k:Nat):List Change→List Merged
 | []=>l6 l bit k l.length
 | c::r=>l6 l bit k c.Old.toNat++(l.drop c.Old.toNat).take c.OldLen.toNat++D18 list bit c.New.toNat c.NewLen.toNat++x1 l list bit (c.Old.toNat+c.OldLen.toNat) r
theorem I15 {α:Type} (l:List α) {a b c:Nat} (h1:a≤b) (h2:b≤c):(l.drop a).take (c - a)=(l.drop a).take (b - a)++(l.drop b).take (c - b):=by
 have h:=List.take_add (l:=l.drop a) (i:=b - a) (j:=c - b)
 rw [List.drop_drop,show b - a+(c - b)=c - a by omega,show a+(b - a)=b by omega] at h
 exact h
theorem D94 (l:List Merged) (bit:Int) {a b c:Nat} (h1:a≤b) (h2:b≤c):l6 l bit a c=l6 l bit a b++l6 l bit b c:=by
 unfold l6;rw [I15 l h1 h2,K20]
theorem D48 (l:List Merged) (bit:Int) (a:Nat):l6 l bit a a=[]:=by unfold l6;simp
theorem D49 (l:List Merged) (bit:Int) {a:Nat} (h:a < l.length):l6 l bit a (a+1)=(l[a]?.map fun y=>(⟨y.Line,K6 y.Parents bit⟩:Merged)).toList:=by
 unfold l6
 rw [show a+1 - a=1 by omega,K07 h,K13 h]
 rfl
theorem E99 (l:List Merged) (list:List Int) (bit:Int):∀(ps:List Span) (k i j:Nat),k≤i→Asc l.length list.length i j ps →
  x1 l list bit k (O0 i j ps l.length list.length)=l6 l bit k i++P9 l list bit i j ps
 | [],k,i,j,hk,ha=>by
  have h1:(i:Int)≤l.length∧(j:Int)≤list.length:=ha
  unfold O0 P9
  by_cases h:(l.length:Int) > i∨(list.length:Int) > j
  ·rw [if_pos h]
   simp only [x1]
   rw [show (i:Int).toNat+((l.length:Int) - i).toNat=l.length by omega,D48,K29,K12,K12,show ((l.length:Int) - i).toNat=l.length - i by omega,show ((list.length:Int) - j).toNat=list.length - j by omega,K18]
   rfl
  ·rw [if_neg h]
   have e1:i=l.length:=by omega
   have e2:j=list.length:=by omega
   rw [e1,e2]
   simp [x1]
 | x::r,k,i,j,hk,ha=>by
  obtain ⟨h1,h2,h3⟩:=ha
  have h4:=h3.le
  have e1:((x.From.toNat+1:Nat):Int)=x.From+1:=by omega
  have e2:((x.To.toNat+1:Nat):Int)=x.To+1:=by omega
  have ih:=fun k (hk:k≤x.From.toNat+1)=>E99 l list bit r k (x.From.toNat+1) (x.To.toNat+1) hk (by rw [e1,e2];exact h3)
  rw [e1,e2] at ih
  have hlt:x.From.toNat < l.length:=by omega
  unfold O0 P9
  by_cases h:x.From > i∨x.To > j
  ·rw [if_pos h,K57,x1]
   dsimp only
   rw [show (i:Int).toNat+(x.From - i).toNat=x.From.toNat by omega,ih _ (by omega),D49 l bit hlt,K12,K12,show (x.From - (i:Int)).toNat=x.From.toNat - i by omega,show (x.To - (j:Int)).toNat=x.To.toNat - j by omega]
   unfold D18
   simp only [K18]
  ·rw [if_neg h,K39]
   have e3:x.From.toNat=i:=by omega
   have e4:x.To.toNat=j:=by omega
   rw [ih k (by omega),D94 l bit hk (show i≤x.From.toNat+1 by omega),e3,e4,D49 l bit (by omega)]
   simp
theorem J62 (l:List Merged) (list:List Int) (bit:Int):x1 l list bit 0 (L3 (F5 l) list)=P9 l list bit 0 0 (F9 0 0 (F5 l) list):=by
 have hasc:=X0 (F5 l) list 0 0
 rw [Int.zero_add,Int.zero_add,show (F5 l).length=l.length by simp [F5]] at hasc
 have:=E99 l list bit (F9 0 0 (F5 l) list) 0 0 0 (Nat.le_refl _) hasc
 rw [D48,K39] at this
 unfold L3 i7
 rw [show (F5 l).length=l.length by simp [F5]]
 exact this
def Q7 (p:Int) (ms:List Int) (c:Change):List Int:=ms.mapIdx fun k m=>if c.New.toNat≤k∧k < c.New.toNat+c.NewLen.toNat then K6 m (H0 p) else m
theorem A04 (p:Int) (ms:List Int) (c:Change):(Q7 p ms c).length=ms.length:=by simp [Q7]
theorem A54 (p:Int) (ms:List Int) (c:Change) (k:Nat):(Q7 p ms c)[k]?=ms[k]?.map fun m=>if c.New.toNat≤k∧k < c.New.toNat+c.NewLen.toNat then K6 m (H0 p) else m:=by
 unfold Q7;rw [List.getElem?_mapIdx]
def U9 (cs:List Change) (k:Nat):Bool:=cs.any fun c=>decide (c.New.toNat≤k∧k < c.New.toNat+c.NewLen.toNat)
def C07 (ps:List Span) (k:Nat):Bool:=ps.any fun x=>decide (x.To.toNat=k)
theorem or_or (m b:Int):K6 (K6 m b) b=K6 m b:=by
 unfold K6
 have h:BitVec.ofInt IntKind.u32.bits (IntKind.u32.wrap ((BitVec.ofInt IntKind.u32.bits m ||| BitVec.ofInt IntKind.u32.bits b).toNat:Int))=BitVec.ofInt IntKind.u32.bits m ||| BitVec.ofInt IntKind.u32.bits b:=by
  rw [show IntKind.u32.wrap ((BitVec.ofInt IntKind.u32.bits m ||| BitVec.ofInt IntKind.u32.bits b).toNat:Int)=((BitVec.ofInt IntKind.u32.bits m ||| BitVec.ofInt IntKind.u32.bits b).toNat:Int) from A69 _ (by
   have:=(BitVec.ofInt IntKind.u32.bits m ||| BitVec.ofInt IntKind.u32.bits b).isLt
   exact this)]
  rw [BitVec.ofInt_natCast,BitVec.ofNat_toNat,BitVec.setWidth_eq]
 rw [h,BitVec.or_assoc,BitVec.or_self]
theorem F00 (p:Int):∀(cs:List Change) (ms:List Int) (k:Nat),(cs.foldl (Q7 p) ms)[k]?=ms[k]?.map fun m=>if U9 cs k=true then K6 m (H0 p) else m
 | [],ms,k=>by simp [U9]
 | c::r,ms,k=>by
  rw [K37,F00 p r,A54,Option.map_map]
  congr 1
  funext m
  show (if U9 r k=true then K6 (if c.New.toNat≤k∧k < c.New.toNat+c.NewLen.toNat then K6 m (H0 p) else m) (H0 p) else if c.New.toNat≤k∧k < c.New.toNat+c.NewLen.toNat then K6 m (H0 p) else m)=if U9 (c::r) k=true then K6 m (H0 p) else m
  have e:U9 (c::r) k=(decide (c.New.toNat≤k∧k < c.New.toNat+c.NewLen.toNat)||U9 r k):=rfl
  rw [e]
  by_cases h1:c.New.toNat≤k∧k < c.New.toNat+c.NewLen.toNat
  ·rw [if_pos h1,decide_eq_true h1,Bool.true_or,if_pos rfl]
   cases U9 r k
   ·rw [if_neg (by decide)]
   ·rw [if_pos rfl,or_or]
  ·rw [if_neg h1,decide_eq_false h1,Bool.false_or]
theorem clr_clr (m b:Int):n6 (n6 m b) b=n6 m b:=by
 unfold n6
 have h:BitVec.ofInt IntKind.u32.bits (IntKind.u32.wrap ((BitVec.ofInt IntKind.u32.bits m &&& ~~~BitVec.ofInt IntKind.u32.bits b).toNat:Int))=BitVec.ofInt IntKind.u32.bits m &&& ~~~BitVec.ofInt IntKind.u32.bits b:=by
  rw [show IntKind.u32.wrap ((BitVec.ofInt IntKind.u32.bits m &&& ~~~BitVec.ofInt IntKind.u32.bits b).toNat:Int)=((BitVec.ofInt IntKind.u32.bits m &&& ~~~BitVec.ofInt IntKind.u32.bits b).toNat:Int) from A69 _ (by
   have:=(BitVec.ofInt IntKind.u32.bits m &&& ~~~BitVec.ofInt IntKind.u32.bits b).isLt
   exact this)]
  rw [BitVec.ofInt_natCast,BitVec.ofNat_toNat,BitVec.setWidth_eq]
 rw [h,BitVec.and_assoc,BitVec.and_self]
theorem F90 (p:Int):∀(ps:List Span) (ms:List Int) (k:Nat),(∀x∈ps,x.To.toNat < ms.length)→(ps.foldl (M1 p) ms)[k]?=ms[k]?.map fun m=>if C07 ps k=true then n6 m (H0 p) else m
 | [],ms,k,_=>by simp [C07]
 | x::r,ms,k,hp=>by
  have hx:=hp x (by simp)
  have hlen:(M1 p ms x).length=ms.length:=by simp [M1]
  rw [K37,F90 p r _ k (fun y hy=>by rw [hlen];exact hp y (by simp [hy]))]
  have hget:(M1 p ms x)[k]?=ms[k]?.map fun m=>if x.To.toNat=k then n6 m (H0 p) else m:=by
   unfold M1
   rw [K61]
   by_cases h:x.To.toNat=k
   ·subst h
    rw [if_pos rfl,if_pos hx,K07 hx,K09,K07 hx]
    simp
   ·rw [if_neg h];simp [h]
  rw [hget,Option.map_map]
  congr 1
  funext m
  show (if C07 r k=true then n6 (if x.To.toNat=k then n6 m (H0 p) else m) (H0 p) else if x.To.toNat=k then n6 m (H0 p) else m)=if C07 (x::r) k=true then n6 m (H0 p) else m
  have e:C07 (x::r) k=(decide (x.To.toNat=k)||C07 r k):=rfl
  rw [e]
  by_cases h1:x.To.toNat=k
  ·rw [if_pos h1,decide_eq_true h1,Bool.true_or,if_pos rfl]
   cases C07 r k
   ·rw [if_neg (by decide)]
   ·rw [if_pos rfl,clr_clr]
  ·rw [if_neg h1,decide_eq_false h1,Bool.false_or]
theorem clr_or (m:Nat) (p:Nat) (hp:p < 32) (hm:m < 2 ^ p):n6 (K6 m (H0 p)) (H0 p)=m:=by
 have h2:2 ^ p < 2 ^ 32:=Nat.pow_lt_pow_right (by decide) hp
 have hb:H0 (p:Int)=((2 ^ p:Nat):Int):=by
  unfold H0
  rw [A86 (n:=(p:Int)) (by omega),show min ((p:Int)).toNat IntKind.u32.bits=p by rw [K12];exact Nat.min_eq_left (by show p≤32;omega),Int.one_mul]
  rw [show (2:Int) ^ p=((2 ^ p:Nat):Int) by simp]
  exact A69 _ (by omega)
 rw [hb]
 obtain ⟨h3,h4⟩:=D03 m (2 ^ p) (by omega) (by omega)
 rw [h3]
 unfold n6
 have e1:BitVec.ofInt IntKind.u32.bits (((m ||| 2 ^ p:Nat)):Int)=BitVec.ofNat 32 (m ||| 2 ^ p):=by simp [BitVec.ofInt_natCast];rfl
 have e2:BitVec.ofInt IntKind.u32.bits ((2 ^ p:Nat):Int)=BitVec.ofNat 32 (2 ^ p):=by rw [BitVec.ofInt_natCast];rfl
 rw [e1,e2]
 have h5:(BitVec.ofNat 32 (m ||| 2 ^ p) &&& ~~~BitVec.ofNat 32 (2 ^ p))=BitVec.ofNat 32 m:=by
  apply BitVec.eq_of_getLsbD_eq
  intro i hi
  simp only [BitVec.getLsbD_and,BitVec.getLsbD_not,BitVec.getLsbD_ofNat,hi,decide_true,Bool.true_and,Nat.testBit_or,Nat.testBit_two_pow]
  by_cases hip:p=i
  ·subst hip
   simp [Nat.testBit_lt_two_pow hm]
  ·simp [hip]
 have h6:(BitVec.ofNat 32 m).toNat=m:=by rw [BitVec.toNat_ofNat];exact Nat.mod_eq_of_lt (by omega)
 have h7:((BitVec.ofNat 32 (m ||| 2 ^ p) &&& ~~~BitVec.ofNat 32 (2 ^ p)).toNat:Int)=m:=by rw [h5,h6]
 exact (congrArg IntKind.u32.wrap h7).trans (A69 _ (by omega))
end Go.AL
namespace Go.AL
open Go
theorem H38 (a b:List Span) (k:Nat):C07 (a++b) k=(C07 a k||C07 b k):=by unfold C07;rw [List.any_append]
theorem D19 (i j:Int) (t:Nat) (k:Nat) (hj:0≤j):C07 (P7 i j t) k=decide (j≤k∧(k:Int) < j+t):=by
 unfold C07 P7
 rw [List.any_map,Bool.eq_iff_iff,List.any_eq_true,decide_eq_true_eq]
 constructor
 ·rintro ⟨s,hs,h⟩
  have h1:=List.mem_range.1 hs
  have h2:(j+(s:Int)).toNat=k:=A0 h
  omega
 ·rintro ⟨h1,h2⟩
  refine ⟨((k:Int) - j).toNat,List.mem_range.2 (by omega),?_⟩
  show decide ((j+((((k:Int) - j).toNat:Nat):Int)).toNat=k)=true
  exact decide_eq_true (by omega)
theorem F01 (c:Change) (r:List Change) (k:Nat):U9 (c::r) k=(decide (c.New.toNat≤k∧k < c.New.toNat+c.NewLen.toNat)||U9 r k):=rfl
theorem F91:∀(cs:List Change) (k0:Nat) (i j m n:Int),N0 k0 i j cs m n=true→0≤i→0≤j →
  (∀k:Nat,(k:Int) < j→C07 (L9 i j cs m) k=false∧U9 cs k=false)∧∀k:Nat,j≤k→(k:Int) < n→C07 (L9 i j cs m) k=!U9 cs k
 | [],k0,i,j,m,n,h,h1,h2=>by
  simp only [N0,decide_eq_true_eq] at h
  unfold L9
  refine ⟨fun k hk=>⟨?_,rfl⟩,fun k hk hk2=>?_⟩
  ·rw [D19 _ _ _ _ h2];exact decide_eq_false (by omega)
  ·rw [D19 _ _ _ _ h2]
   show _=true
   exact decide_eq_true (by omega)
 | c :: r,k0,i,j,m,n,h,h1,h2=>by
  simp only [N0,K10,decide_eq_true_eq] at h
  obtain ⟨hb,hr⟩:=h
  have hc:(0≤c.OldLen∧0≤c.NewLen∧i≤c.Old∧c.Old - i=c.New - j):=by
   unfold G48 O2 at hb
   by_cases a2:(0≤c.OldLen∧c.OldLen≤4096)<;>by_cases a4:(0≤c.NewLen∧c.NewLen≤4096)<;>simp [a2,a4] at hb ⊢<;>omega
  obtain ⟨c1,c2,c3,c4⟩:=hc
  obtain ⟨i1,i2⟩:=F91 r (k0+1) (c.Old+c.OldLen) (c.New+c.NewLen) m n hr (by omega) (by omega)
  unfold L9
  rw [show max i c.Old=c.Old by omega,show j+((c.Old - i).toNat:Int)+c.NewLen=c.New+c.NewLen by omega]
  refine ⟨fun k hk=>?_,fun k hk hk2=>?_⟩
  ·obtain ⟨q1,q2⟩:=i1 k (by omega)
   rw [H38,D19 _ _ _ _ h2,F01,q1,q2,decide_eq_false (by omega),decide_eq_false (by omega)]
   exact ⟨rfl,rfl⟩
  ·rw [H38,D19 _ _ _ _ h2,F01]
   by_cases g1:(k:Int) < c.New
   ·obtain ⟨q1,q2⟩:=i1 k (by omega)
    rw [q1,q2,decide_eq_true (by omega),decide_eq_false (by omega)];rfl
   ·rw [decide_eq_false (by omega),Bool.false_or]
    by_cases g2:(k:Int) < c.New+c.NewLen
    ·obtain ⟨q1,q2⟩:=i1 k g2
     rw [q1,decide_eq_true (by omega)];rfl
    ·rw [i2 k (by omega) hk2,decide_eq_false (by omega),Bool.false_or]
theorem I57 {m n:Int}:∀{p:List Span} {i j:Int},Asc m n i j p→∀x∈p,i≤x.From∧x.From < m∧j≤x.To∧x.To < n
 | x::r,i,j,h,y,hy=>by
  obtain ⟨h1,h2,h3⟩:=h
  have h4:=h3.le
  rcases List.mem_cons.1 hy with rfl | hy
  ·omega
  ·have:=I57 h3 y hy;omega
def A20 (ids:List (List Int)) (s:Loom) (p:Nat):Loom :=
 let file:=ids.getD (p+1) []
 let sc:=L3 file (ids.getD 0 [])
 (sc.foldl (Q7 p) s.1,sc.foldl (L1 p file) s.2)
def z6 (ids:List (List Int)) (lines n p:Nat):Loom:=(List.range p).foldl (A20 ids) (A17 lines n)
theorem C08 (ids:List (List Int)) (lines n p:Nat):z6 ids lines n (p+1)=A20 ids (z6 ids lines n p) p:=by
 unfold z6;rw [K44,K43];rfl
def LowM (p:Nat) (ms:List Int):Prop:=∀v∈ms,0≤v∧v < ((2 ^ p:Nat):Int)
theorem C28 {p:Nat} (hp:p < 32):H0 (p:Int)=((2 ^ p:Nat):Int):=by
 have h2:2 ^ p < 2 ^ 32:=Nat.pow_lt_pow_right (by decide) hp
 unfold H0
 rw [A86 (n:=(p:Int)) (by omega),show min ((p:Int)).toNat IntKind.u32.bits=p by rw [K12];exact Nat.min_eq_left (by show p≤32;omega),Int.one_mul]
 rw [show (2:Int) ^ p=((2 ^ p:Nat):Int) by simp]
 exact A69 _ (by omega)
theorem or_low {m:Int} {p:Nat} (hp:p < 32) (h:0≤m∧m < ((2 ^ p:Nat):Int)):0≤K6 m (H0 p)∧K6 m (H0 p) < ((2 ^ (p+1):Nat):Int):=by
 have h2:2 ^ p < 2 ^ 32:=Nat.pow_lt_pow_right (by decide) hp
 obtain ⟨q,rfl⟩:∃q:Nat,m=q:=⟨m.toNat,by omega⟩
 have hq:q < 2 ^ p:=by omega
 rw [C28 hp]
 obtain ⟨h3,_⟩:=D03 q (2 ^ p) (by omega) (by omega)
 rw [h3]
 have h4:q ||| 2 ^ p < 2 ^ (p+1):=Nat.or_lt_two_pow (by rw [Nat.pow_succ];omega) (by rw [Nat.pow_succ];omega)
 omega
theorem J19 {ids:List (List Int)} {s:Loom} {p:Nat} {file base:List Int} (hf:file=ids.getD (p+1) []) (hb:base=ids.getD 0 []) (hp:p < 32) (hlow:LowM p s.1) (hlen:s.1.length=base.length) (hfl:file.length≤4096) (hbl:base.length≤4096) :
  A20 ids s p=M6 ids s p∧LowM (p+1) (A20 ids s p).1∧(A20 ids s p).1.length=base.length:=by
 have hasc:=X0 file base 0 0
 rw [Int.zero_add,Int.zero_add] at hasc
 have hsc:=C25 (m:=file.length) (n:=base.length) ⟨by omega,by omega⟩ ⟨by omega,by omega⟩ (F9 0 0 file base) 0 0 0 0 0 hasc (by omega) (by omega) (by omega) (by omega) (by omega)
 obtain ⟨_,hm⟩:=F91 _ 0 0 0 file.length base.length hsc (by omega) (by omega)
 have hmade:=B29 file base
 obtain ⟨sc,hscd⟩:∃sc,sc=L3 file base:=⟨_,rfl⟩
 have hsc2:O0 0 0 (F9 0 0 file base) file.length base.length=sc:=by rw [hscd];rfl
 rw [hsc2] at hm
 have e1:A20 ids s p=(sc.foldl (Q7 p) s.1,sc.foldl (L1 p file) s.2):=by rw [hscd,hf,hb];rfl
 have e2:M6 ids s p=((S2 sc file.length).foldl (M1 p) (s.1.map (K6 · (H0 p))),sc.foldl (L1 p file) s.2):=by rw [hscd,hf,hb];rfl
 have hget:=F00 p sc s.1
 have hlen1:(sc.foldl (Q7 p) s.1).length=s.1.length:=by
  have key:∀(cs:List Change) (ms:List Int),(cs.foldl (Q7 p) ms).length=ms.length:=by
   intro cs
   induction cs with
   | nil=>intro ms;rfl
   | cons c r ih=>intro ms;rw [K37,ih,A04]
  exact key sc s.1
 refine ⟨?_,?_,by rw [e1];dsimp only;rw [hlen1,hlen]⟩
 ·rw [e1,e2,Prod.mk.injEq]
  refine ⟨?_,rfl⟩
  refine List.ext_getElem? fun k=>?_
  have hto:∀x∈S2 sc file.length,x.To.toNat < (s.1.map (K6 · (H0 p))).length:=by
   intro x hx
   rw [K30,hlen]
   rw [hscd,hmade] at hx
   have:=I57 hasc x hx
   omega
  rw [hget,F90 p _ _ k hto,K34,Option.map_map]
  cases hk:s.1[k]? with
  | none=>rfl
  | some v =>
   have hkl:k < base.length:=by have:=(List.getElem?_eq_some_iff.1 hk).1;omega
   have h3:=hm k (by omega) (by omega)
   have hv:=hlow v (K27 hk)
   show some (if U9 sc k=true then K6 v (H0 p) else v)=some (if C07 (S2 sc file.length) k=true then n6 (K6 v (H0 p)) (H0 p) else K6 v (H0 p))
   have h3:C07 (S2 sc file.length) k=!U9 sc k:=h3
   rw [h3]
   cases U9 sc k
   ·obtain ⟨q,rfl⟩:∃q:Nat,v=q:=⟨v.toNat,by omega⟩
    rw [if_neg (by decide),if_pos (show (!false)=true from rfl),clr_or q p hp (by omega)]
   ·rw [if_pos rfl,if_neg (by decide)]
 ·rw [e1]
  intro v hv
  obtain ⟨k,hk,rfl⟩:=List.mem_iff_getElem.1 hv
  have hkl:k < s.1.length:=by rw [←hlen1];exact hk
  have h4:=hget k
  rw [K07 hk,K07 hkl] at h4
  have h4:(sc.foldl (Q7 p) s.1)[k]=if U9 sc k=true then K6 s.1[k] (H0 p) else s.1[k]:=Option.some.inj h4
  show 0≤(sc.foldl (Q7 p) s.1)[k]∧(sc.foldl (Q7 p) s.1)[k] < _
  rw [h4]
  have hv:=hlow s.1[k] (K17 hkl)
  split
  ·exact or_low hp hv
  ·have:2 ^ p≤2 ^ (p+1):=Nat.pow_le_pow_right (by decide) (by omega)
   omega
theorem C29 {ids:List (List Int)} {base:List Int} {n:Nat} (hb:base=ids.getD 0 []) (hl:∀x∈ids,x.length≤4096) (hbl:base.length≤4096):∀p,p≤32→z6 ids base.length n p=O8 ids base.length n p∧LowM p (z6 ids base.length n p).1∧(z6 ids base.length n p).1.length=base.length
 | 0,_=>by
  refine ⟨rfl,fun v hv=>?_,by simp [z6,A17]⟩
  have:=List.eq_of_mem_replicate (show v∈List.replicate base.length 0 from hv)
  subst this;decide
 | p+1,hp=>by
  obtain ⟨h1,h2,h3⟩:=C29 (n:=n) hb hl hbl p (by omega)
  have hfl:(ids.getD (p+1) []).length≤4096:=by
   rw [K09]
   cases hx:ids[p+1]? with
   | none=>simp
   | some x=>exact hl x (K27 hx)
  obtain ⟨s1,s2,s3⟩:=J19 (ids:=ids) (s:=z6 ids base.length n p) (p:=p) rfl hb (by omega) h2 h3 hfl hbl
  rw [C08,A68,s1,h1]
  rw [s1,h1] at s2 s3
  exact ⟨rfl,s2,s3⟩
theorem H39 (p:Int) (ms:List Int) (a b d:Int):Q7 p ms ⟨a,b,d,0⟩=ms:=by
 refine List.ext_getElem? fun k=>?_
 rw [A54]
 cases h:ms[k]? with
 | none=>rfl
 | some v=>simp only [Option.map_some];rw [if_neg (by omega)]
theorem H40 (p:Int) (ms:List Int) (a b:Int) (d t:Nat) (h:d+t < ms.length):(Q7 p ms ⟨a,b,d,t⟩)[d+t]?=some (ms.getD (d+t) 0)∧(Q7 p ms ⟨a,b,d,t⟩).set (d+t) (K6 (ms.getD (d+t) 0) (H0 p))=Q7 p ms ⟨a,b,d,((t+1:Nat):Int)⟩:=by
 have hg:ms[d+t]?=some (ms.getD (d+t) 0):=by rw [K09,K07 h];rfl
 refine ⟨?_,?_⟩
 ·rw [A54,hg]
  simp only [Option.map_some,K12]
  rw [if_neg (by omega)]
 ·refine List.ext_getElem? fun k=>?_
  rw [K61,A54,A54,A04]
  simp only [K12]
  by_cases hk:d+t=k
  ·subst hk
   rw [if_pos rfl,if_pos h,hg]
   simp only [Option.map_some]
   rw [if_pos (by omega)]
  ·rw [if_neg hk]
   cases ms[k]? with
   | none=>rfl
   | some v =>
    simp only [Option.map_some]
    by_cases g:d≤k∧k < d+t
    ·rw [if_pos g,if_pos (by omega)]
    ·rw [if_neg g,if_neg (by omega)]
end Go.AL
namespace Go.AL
open Go
theorem F92 (out:List Span) (a b v:Int):A29 (out++[⟨a,b⟩]) v=out++[⟨a,v⟩]:=by unfold A29;simp
end Go.AL
namespace Go.AL
open Go
theorem D20 {p:Nat} (hp:p < 32):2 ^ p < 4294967296:=Nat.pow_lt_pow_right (a:=2) (by decide) hp
theorem D21 {m:Int} {p q:Nat} (hm:0≤m∧m < 4294967296) (hp:p < 32):W4 (K6 m (H0 p)) q=(W4 m q||decide (p=q)):=by
 obtain ⟨k,rfl⟩:∃k:Nat,m=k:=⟨m.toNat,by omega⟩
 have:=D20 hp
 rw [C28 hp,(D03 k (2 ^ p) (by omega) (by omega)).1,y8,y8,Nat.testBit_or,Nat.testBit_two_pow]
theorem F93 {p q:Nat} (hp:p < 32):W4 (H0 p) q=decide (p=q):=by
 rw [C28 hp,y8,Nat.testBit_two_pow]
theorem F94 {m:Int} {p q:Nat} (h:0≤m∧m < ((2 ^ p:Nat):Int)) (hq:p≤q):W4 m q=false:=by
 obtain ⟨k,rfl⟩:∃k:Nat,m=k:=⟨m.toNat,by omega⟩
 rw [y8]
 exact Nat.testBit_lt_two_pow (Nat.lt_of_lt_of_le (by omega) (Nat.pow_le_pow_right (by decide) hq))
def x2 (q:Nat) (l:List Merged):List Int:=F5 (l.filter fun m=>W4 m.Parents q)
theorem l7 (q:Nat) (a b:List Merged):x2 q (a++b)=x2 q a++x2 q b:=by unfold x2 F5;rw [K56,K20]
theorem D50 {q:Nat} {l:List Merged} (h:∀m∈l,W4 m.Parents q=false):x2 q l=[]:=by
 unfold x2
 rw [List.filter_eq_nil_iff.2 (fun m hm=>by rw [h m hm];decide)];rfl
theorem D22 {p q:Nat} (hp:p < 32) (l:List Int):x2 q (l.map fun v=>(⟨v,H0 p⟩:Merged))=if p=q then l else []:=by
 by_cases h:p=q
 ·rw [if_pos h]
  unfold x2 F5
  rw [List.filter_eq_self.2 (fun m hm=>by obtain ⟨v,_,rfl⟩:=List.mem_map.1 hm;rw [F93 hp];exact decide_eq_true h),K40]
  exact List.map_id _
 ·rw [if_neg h]
  exact D50 fun m hm=>by obtain ⟨v,_,rfl⟩:=List.mem_map.1 hm;rw [F93 hp];exact decide_eq_false h
def LowP (p:Nat) (l:List Merged):Prop:=∀m∈l,0 < m.Parents∧m.Parents < ((2 ^ p:Nat):Int)
theorem LowP.sub {p:Nat} {l l':List Merged} (h:LowP p l) (hs:∀m∈l',m∈l):LowP p l':=fun m hm=>h m (hs m hm)
theorem LowP.up {p:Nat} {l:List Merged} (h:LowP p l):LowP (p+1) l:=fun m hm=>by
 have:=h m hm
 have:2 ^ p≤2 ^ (p+1):=Nat.pow_le_pow_right (by decide) (by omega)
 omega
theorem D23 {p:Nat} {a b:List Merged} (ha:LowP p a) (hb:LowP p b):LowP p (a++b):=fun m hm=>by
 rcases List.mem_append.1 hm with h | h
 ·exact ha m h
 ·exact hb m h
theorem H41 {p:Nat} (hp:p < 32) (l:List Int):LowP (p+1) (l.map fun v=>(⟨v,H0 p⟩:Merged)):=fun m hm=>by
 obtain ⟨v,_,rfl⟩:=List.mem_map.1 hm
 have h1:0 < 2 ^ p:=Nat.pow_pos (by decide)
 have h2:2 ^ (p+1)=2*2 ^ p:=by rw [Nat.pow_succ];omega
 show 0 < H0 p∧H0 p < _
 rw [C28 hp];omega
theorem or_pos {m:Int} {p:Nat} (hp:p < 32) (h:0 < m∧m < ((2 ^ p:Nat):Int)):0 < K6 m (H0 p)∧K6 m (H0 p) < ((2 ^ (p+1):Nat):Int):=by
 have h1:=or_low hp (m:=m) (by omega)
 refine ⟨?_,h1.2⟩
 have h2:=D20 hp
 have h3:=D21 (m:=m) (q:=p) (by omega) hp
 rw [decide_eq_true rfl,Bool.or_true] at h3
 have:K6 m (H0 p)≠0:=fun e=>by rw [e] at h3;simp [W4] at h3
 omega
theorem A55 {α:Type} (l:List α) {a b:Nat} (h:a≤b):l.drop a=(l.drop a).take (b - a)++l.drop b:=by
 have:=K46 (b - a) (l.drop a)
 rw [List.drop_drop,show a+(b - a)=b by omega] at this
 exact this.symm
theorem F95 {l:List Merged} {list:List Int} {p:Nat} (hp:p < 32) (hl:LowP p l):∀(ps:List Span) (i j:Nat),Asc l.length list.length i j ps→(∀x∈ps,(F5 l)[x.From.toNat]?=list[x.To.toNat]?) →
  x2 p (P9 l list (H0 p) i j ps)=list.drop j∧(∀q,q≠p→x2 q (P9 l list (H0 p) i j ps)=x2 q (l.drop i))∧LowP (p+1) (P9 l list (H0 p) i j ps)
 | [],i,j,ha,_=>by
  have e1:(l.drop i).take (l.length - i)=l.drop i:=K42 (by simp)
  have e2:(list.drop j).take (list.length - j)=list.drop j:=K42 (by simp)
  unfold P9
  rw [e1,e2]
  refine ⟨?_,fun q hq=>?_,D23 ((hl.sub fun m hm=>List.mem_of_mem_drop hm).up) (H41 hp _)⟩
  ·rw [l7,D22 hp,if_pos rfl,D50 fun m hm=>F94 (p:=p) (by have:=hl m (List.mem_of_mem_drop hm);omega) (Nat.le_refl _)];rfl
  ·rw [l7,D22 hp,if_neg (Ne.symm hq),K29]
 | x :: r,i,j,ha,hx=>by
  obtain ⟨h1,h2,h3⟩:=ha
  have h4:=h3.le
  have e1:((x.From.toNat+1:Nat):Int)=x.From+1:=by omega
  have e2:((x.To.toNat+1:Nat):Int)=x.To+1:=by omega
  obtain ⟨i1,i2,i3⟩:=F95 hp hl r (x.From.toNat+1) (x.To.toNat+1) (by rw [e1,e2];exact h3) (fun y hy=>hx y (List.mem_cons_of_mem _ hy))
  have hF:x.From.toNat < l.length:=by omega
  have hT:x.To.toNat < list.length:=by omega
  have hy:=hl l[x.From.toNat] (K17 hF)
  have hline:l[x.From.toNat].Line=list[x.To.toNat]:=by
   have:=hx x (by simp)
   rw [K07 hT] at this
   unfold F5 at this
   rw [K34,K07 hF] at this
   exact Option.some.inj this
  have h2p:=D20 hp
  have d1:l.drop i=(l.drop i).take (x.From.toNat - i)++l[x.From.toNat]::l.drop (x.From.toNat+1):=by
   rw [←K13 hF];exact A55 l (by omega)
  have d2:list.drop j=(list.drop j).take (x.To.toNat - j)++list[x.To.toNat]::list.drop (x.To.toNat+1):=by
   rw [←K13 hT];exact A55 list (by omega)
  have hM:(l[x.From.toNat]?.map fun y=>(⟨y.Line,K6 y.Parents (H0 p)⟩:Merged)).toList=[⟨l[x.From.toNat].Line,K6 l[x.From.toNat].Parents (H0 p)⟩]:=by rw [K07 hF];rfl
  have hbit:=fun q=>D21 (m:=l[x.From.toNat].Parents) (p:=p) (q:=q) (by omega) hp
  have hA:LowP p ((l.drop i).take (x.From.toNat - i)):=hl.sub fun m hm=>Z3 hm
  unfold P9
  rw [hM]
  generalize ha':(l.drop i).take (x.From.toNat - i)=A at hA d1 ⊢
  generalize hb':(list.drop j).take (x.To.toNat - j)=A2 at d2 ⊢
  refine ⟨?_,fun q hq=>?_,?_⟩
  ·rw [l7,l7,l7,i1,D22 hp,if_pos rfl,D50 (l:=A) fun m hm=>F94 (p:=p) (by have:=hA m hm;omega) (Nat.le_refl _),K39,d2]
   have:x2 p [(⟨l[x.From.toNat].Line,K6 l[x.From.toNat].Parents (H0 p)⟩:Merged)]=[list[x.To.toNat]]:=by
    unfold x2
    rw [List.filter_cons_of_pos (by rw [hbit,decide_eq_true rfl,Bool.or_true])]
    show [l[x.From.toNat].Line]=_
    rw [hline]
   rw [this]
   simp
  ·have d3:x2 q (l.drop i)=x2 q A++(x2 q [l[x.From.toNat]]++x2 q (l.drop (x.From.toNat+1))):=by
    rw [d1,←l7,←l7];rfl
   rw [l7,l7,l7,i2 q hq,D22 hp,if_neg (Ne.symm hq),K29,d3]
   have:x2 q [(⟨l[x.From.toNat].Line,K6 l[x.From.toNat].Parents (H0 p)⟩:Merged)]=x2 q [l[x.From.toNat]]:=by
    unfold x2
    have hb:W4 (K6 l[x.From.toNat].Parents (H0 p)) q=W4 l[x.From.toNat].Parents q:=by rw [hbit,decide_eq_false (Ne.symm hq),Bool.or_false]
    cases hc:W4 l[x.From.toNat].Parents q
    ·rw [List.filter_cons_of_neg (by rw [hb,hc];decide),List.filter_cons_of_neg (by rw [hc];decide)]
    ·rw [List.filter_cons_of_pos (by rw [hb,hc]),List.filter_cons_of_pos (by rw [hc])]
     rfl
   rw [this]
  ·refine D23 (D23 hA.up (H41 hp _)) (D23 ?_ i3)
   intro m hm
   rw [List.mem_singleton.1 hm]
   exact or_pos hp hy
theorem H42 {l:List Merged} {list:List Int} {p:Nat} (hp:p < 32) (hl:LowP p l) :
  x2 p (R8 l list p)=list∧(∀q,q≠p→x2 q (R8 l list p)=x2 q l)∧LowP (p+1) (R8 l list p):=by
 have hasc:=X0 (F5 l) list 0 0
 rw [Int.zero_add,Int.zero_add,show (F5 l).length=l.length by simp [F5]] at hasc
 have:=F95 (list:=list) hp hl (F9 0 0 (F5 l) list) 0 0 hasc (fun x hx=>by
  obtain ⟨_,_,v,h1,h2⟩:=F82 (F5 l) list 0 0 x hx
  rw [Int.sub_zero] at h1 h2
  rw [h1,h2])
 exact this
theorem C45:∀(ls:List (List Int)) (acc:List Merged) (p:Nat),p+ls.length≤32→LowP p acc→(H8 acc p ls).2=0 →
  LowP (p+ls.length) (H8 acc p ls).1∧(∀q,q < p→x2 q (H8 acc p ls).1=x2 q acc)∧∀t,t < ls.length→x2 (p+t) (H8 acc p ls).1=ls.getD t []
 | [],acc,p,_,ha,_=>⟨ha,fun _ _=>rfl,fun t ht=>absurd ht (Nat.not_lt_zero _)⟩
 | x :: r,acc,p,hp,ha,h=>by
  rw [K08] at hp
  unfold H8 at h ⊢
  split at h
  ·cases h
  ·rename_i hc
   rw [if_neg hc]
   obtain ⟨j1,j2,j3⟩:=H42 (list:=x) (p:=p) (by omega) ha
   obtain ⟨i1,i2,i3⟩:=C45 r (R8 acc x p) (p+1) (by omega) j3 h
   refine ⟨?_,fun q hq=>?_,fun t ht=>?_⟩
   ·rw [K08,show p+(r.length+1)=p+1+r.length by omega];exact i1
   ·exact (i2 q (by omega)).trans (j2 q (by omega))
   ·cases t with
    | zero=>exact (i2 p (by omega)).trans j1
    | succ t =>
     have:=i3 t (by rw [K08] at ht;omega)
     rw [show p+1+t=p+(t+1) by omega] at this
     exact this
theorem E03 {ls:List (List Int)} (h:(E6 ls).2=0):LowP ls.length (E6 ls).1∧∀q,q < ls.length→x2 q (E6 ls).1=ls.getD q []:=by
 unfold E6 at h ⊢
 split at h
 ·cases h
 ·rename_i hc
  rw [if_neg hc]
  obtain ⟨h1,_,h3⟩:=C45 ls [] 0 (by omega) (fun m hm=>by cases hm) h
  rw [Nat.zero_add] at h1
  exact ⟨h1,fun q hq=>by have:=h3 q hq;rwa [Nat.zero_add] at this⟩
theorem C46 (B:Nat):∀(ls:List (List Int)) (acc:List Merged) (p:Nat),(∀x∈ls,x.length≤B)→acc.length+ls.length*B≤4096→(H8 acc p ls).2=0
 | [],acc,p,_,_=>rfl
 | x::r,acc,p,hl,h=>by
  have hx:=hl x (by simp)
  have hj:=A66 acc x p
  rw [K08,K32,Nat.one_mul] at h
  unfold H8
  rw [if_neg (by omega)]
  exact C46 B r (R8 acc x p) (p+1) (fun y hy=>hl y (List.mem_cons_of_mem _ hy)) (by omega)
theorem E04 {B:Nat} {ls:List (List Int)} (hl:∀x∈ls,x.length≤B) (hn:ls.length≤32) (h:ls.length*B≤4096):(E6 ls).2=0:=by
 unfold E6
 rw [if_neg (by omega)]
 exact C46 B ls [] 0 hl (by simpa using h)
end Go.AL
namespace Go.AL
open Go
def z7 {α:Type} (G:Nat→List α) (a b:Nat):List α:=((List.range (b - a)).map fun t=>G (a+t)).flatten
theorem A56 {α:Type} (G:Nat→List α) {a b c:Nat} (h1:a≤b) (h2:b≤c):z7 G a c=z7 G a b++z7 G b c:=by
 unfold z7
 rw [show c - a=(b - a)+(c - b) by omega,List.range_add,K20,K36,K40]
 congr 3
 funext t
 show G (a+(b - a+t))=G (b+t)
 rw [show a+(b - a+t)=b+t by omega]
theorem C09 {α:Type} (G:Nat→List α) (a:Nat):z7 G a (a+1)=G a:=by
 unfold z7
 rw [show a+1 - a=1 by omega]
 simp [K44]
theorem F96 {α:Type} (G:Nat→List α) (a:Nat):z7 G a a=[]:=by unfold z7;simp
theorem B55 {α:Type} {G G':Nat→List α} {a b:Nat} (h:∀k,a≤k→k < b→G k=G' k):z7 G a b=z7 G' a b:=by
 unfold z7
 congr 1
 exact List.map_congr_left fun t ht=>h _ (by omega) (by have:=List.mem_range.1 ht;omega)
theorem F02 {α:Type} {G:Nat→List α} {a b:Nat} (h:∀k,a≤k→k < b→G k=[]):z7 G a b=[]:=by
 rw [B55 (G':=fun _=>[]) h]
 unfold z7
 exact List.flatten_eq_nil_iff.2 fun l hl=>by obtain ⟨t,_,rfl⟩:=List.mem_map.1 hl;rfl
theorem J63 {α β:Type} (f:α→β) (G:Nat→List α) (a b:Nat):z7 (fun k=>(G k).map f) a b=(z7 G a b).map f:=by
 unfold z7
 rw [List.map_flatten,K40];rfl
theorem H43 {α:Type} (l:List α):∀d i,i+d=l.length→z7 (fun k=>(l[k]?).toList) i (l.length+1)=l.drop i
 | 0,i,h=>by
  rw [show l.length+1=i+1 by omega,C09,K31 (by omega),List.drop_of_length_le (by omega)];rfl
 | d+1,i,h=>by
  have hi:i < l.length:=by omega
  rw [A56 _ (show i≤i+1 by omega) (show i+1≤l.length+1 by omega),C09,H43 l d (i+1) (by omega),K07 hi,K13 hi];rfl
def piece (file:List Int) (c:Change):List Int:=(file.drop c.Old.toNat).take ((c.Old+c.OldLen).toNat - c.Old.toNat)
def A78 (file:List Int) (cs:List Change) (k:Nat) (a:List Int):List Int:=cs.foldl (fun a c=>if k=c.New.toNat then piece file c else a) a
theorem F97 {file:List Int} {k:Nat}:∀{cs:List Change} {a:List Int},(∀c∈cs,k≠c.New.toNat)→A78 file cs k a=a
 | [],_,_=>rfl
 | c::r,a,h=>by
  unfold A78
  rw [K37,if_neg (h c (by simp))]
  exact F97 (fun d hd=>h d (List.mem_cons_of_mem _ hd))
theorem F98 (file:List Int) (a b:List Change) (k:Nat) (z:List Int):A78 file (a++b) k z=A78 file b k (A78 file a k z):=by unfold A78;rw [K43]
theorem H44 (p:Nat) (file:List Int) (k:Nat):∀(cs:List Change) (g:Nat→List (List Int)),cs.foldl (L1 p file) g k=(g k).set p (A78 file cs k ((g k).getD p []))
 | [],g=>by
  refine List.ext_getElem? fun q=>?_
  show (g k)[q]?=((g k).set p ((g k).getD p []))[q]?
  rw [K61]
  split
  ·rename_i h;subst h
   split
   ·rename_i h;rw [K09,K07 h];rfl
   ·rename_i h;exact K31 (by omega)
  ·rfl
 | c::r,g=>by
  rw [K37,H44 p file k r]
  have e:L1 p file g c k=if k=c.New.toNat then (g k).set p (piece file c) else g k:=rfl
  rw [e]
  show _=(g k).set p (A78 file r k (if k=c.New.toNat then piece file c else (g k).getD p []))
  split
  ·rw [List.set_set]
   by_cases hp:p < (g k).length
   ·rw [K09,K48 hp];rfl
   ·rw [List.set_eq_of_length_le (by omega),List.set_eq_of_length_le (by omega)]
  ·rfl
theorem F99 (a b:List Change) (k:Nat):U9 (a++b) k=(U9 a k||U9 b k):=by unfold U9;rw [List.any_append]
theorem J20 {cs:List Change} {k:Nat} (h:∀c∈cs,(k:Int) < c.New):U9 cs k=false:=by
 unfold U9
 rw [List.any_eq_false]
 intro c hc
 have:=h c hc
 rw [decide_eq_true_eq];omega
def F03 (file base:List Int) (cs:List Change) (k:Nat):List Int:=A78 file cs k []++(if U9 cs k=true then [] else (base[k]?).toList)
theorem H45 {file base:List Int}:∀(ps:List Span) (i j:Nat),Asc file.length base.length i j ps→(∀x∈ps,file[x.From.toNat]?=base[x.To.toNat]?) →
  z7 (F03 file base (O0 i j ps file.length base.length)) j (base.length+1)=file.drop i
 | [],i,j,ha,_=>by
  have h1:(i:Int)≤file.length∧(j:Int)≤base.length:=ha
  unfold O0
  rw [A56 _ (show j≤j+1 by omega) (show j+1≤base.length+1 by omega),C09]
  by_cases h:(file.length:Int) > i∨(base.length:Int) > j
  ·rw [if_pos h]
   have e1:∀k,A78 file [⟨i,(file.length:Int) - i,j,(base.length:Int) - j⟩] k []=if k=j then file.drop i else []:=by
    intro k
    show (if k=(j:Int).toNat then piece file _ else [])=_
    rw [K12]
    have e2:piece file ⟨i,(file.length:Int) - i,j,(base.length:Int) - j⟩=file.drop i:=by
     unfold piece
     dsimp only
     rw [K12,K42 (by rw [K23];omega)]
    rw [e2]
   have e3:∀k,j≤k→(if U9 [⟨i,(file.length:Int) - i,j,(base.length:Int) - j⟩] k=true then [] else (base[k]?).toList)=([]:List Int):=by
    intro k hk
    by_cases hk2:k < base.length
    ·rw [if_pos]
     unfold U9
     simp only [List.any_cons,List.any_nil,Bool.or_false,decide_eq_true_eq,K12]
     omega
    ·rw [K31 (by omega)]
     split<;>rfl
   rw [F02 (fun k hk _=>by unfold F03;rw [e1,e3 k (by omega),if_neg (by omega)];rfl)]
   unfold F03
   rw [e1,e3 j (Nat.le_refl _),if_pos rfl];simp
  ·rw [if_neg h,F02 (fun k hk hk2=>by omega)]
   unfold F03
   rw [K31 (by omega),List.drop_of_length_le (by omega)]
   rfl
 | x :: r,i,j,ha,hx=>by
  obtain ⟨h1,h2,h3⟩:=ha
  have h4:=h3.le
  have e1:((x.From.toNat+1:Nat):Int)=x.From+1:=by omega
  have e2:((x.To.toNat+1:Nat):Int)=x.To+1:=by omega
  have ih:=H45 r (x.From.toNat+1) (x.To.toNat+1) (by rw [e1,e2];exact h3) (fun y hy=>hx y (List.mem_cons_of_mem _ hy))
  rw [e1,e2] at ih
  have hbd:=h3.made
  have hv:=hx x (by simp)
  have hF:x.From.toNat < file.length:=by omega
  have hT:x.To.toNat < base.length:=by omega
  have hd:file.drop i=(file.drop i).take (x.From.toNat - i)++(base[x.To.toNat]?.toList++file.drop (x.From.toNat+1)):=by
   rw [←hv,K07 hF]
   show _=_++(file[x.From.toNat]::file.drop (x.From.toNat+1))
   rw [←K13 hF];exact A55 file (by omega)
  unfold O0
  obtain ⟨R,hR⟩:∃R,R=O0 (x.From+1) (x.To+1) r file.length base.length:=⟨_,rfl⟩
  rw [←hR] at hbd ih ⊢
  have outR:∀k:Nat,(k:Int)≤x.To→∀z,A78 file R k z=z:=fun k hk z=>F97 fun c hc=>by have:=hbd c hc;omega
  have outN:∀k:Nat,(k:Int)≤x.To→U9 R k=false:=fun k hk=>J20 fun c hc=>by have:=hbd c hc;omega
  rw [A56 _ (show j≤x.To.toNat by omega) (show x.To.toNat≤base.length+1 by omega),A56 _ (show x.To.toNat≤x.To.toNat+1 by omega) (show x.To.toNat+1≤base.length+1 by omega),C09]
  by_cases h:x.From > i∨x.To > j
  ·rw [if_pos h]
   have l1:∀k,A78 file [⟨i,x.From - i,j,x.To - j⟩] k []=if k=j then (file.drop i).take (x.From.toNat - i) else []:=by
    intro k
    show (if k=(j:Int).toNat then piece file _ else [])=_
    rw [K12]
    have e3:piece file ⟨i,x.From - i,j,x.To - j⟩=(file.drop i).take (x.From.toNat - i):=by
     unfold piece
     dsimp only
     rw [K12,show ((i:Int)+(x.From - i)).toNat=x.From.toNat by omega]
    rw [e3]
   have l2:∀k,U9 [⟨i,x.From - i,j,x.To - j⟩] k=decide (j≤k∧k < x.To.toNat):=by
    intro k
    unfold U9
    simp only [List.any_cons,List.any_nil,Bool.or_false,K12]
    refine decide_eq_decide.2 ?_
    omega
   have hlow:∀k:Nat,(k:Int)≤x.To→F03 file base ([⟨i,x.From - i,j,x.To - j⟩]++R) k=(if k=j then (file.drop i).take (x.From.toNat - i) else [])++(if j≤k∧k < x.To.toNat then [] else (base[k]?).toList):=by
    intro k hk
    unfold F03
    rw [F98,outR k hk,l1,F99,outN k hk,l2,Bool.or_false]
    by_cases hq:j≤k∧k < x.To.toNat
    ·rw [decide_eq_true hq,if_pos (show true=true from rfl),if_pos hq]
    ·rw [decide_eq_false hq,if_neg (show ¬false=true by decide),if_neg hq]
   have hhigh:z7 (F03 file base ([⟨i,x.From - i,j,x.To - j⟩]++R)) (x.To.toNat+1) (base.length+1)=file.drop (x.From.toNat+1):=by
    rw [←ih]
    refine B55 fun k hk hk2=>?_
    unfold F03
    rw [F98,l1,if_neg (by omega),F99,l2,decide_eq_false (by omega),Bool.false_or]
   rw [hhigh,hlow _ (by omega),if_neg (show ¬(j≤x.To.toNat∧x.To.toNat < x.To.toNat) by omega)]
   conv=>rhs;rw [hd]
   by_cases hj:x.To.toNat=j
   ·rw [if_pos hj,hj,F96];simp
   ·rw [if_neg hj,A56 _ (show j≤j+1 by omega) (show j+1≤x.To.toNat by omega),C09,F02 (fun k hk hk2=>by rw [hlow k (by omega),if_neg (by omega),if_pos (by omega)];rfl),hlow j (by omega),if_pos rfl,if_pos (by omega)]
    simp
  ·rw [if_neg h,K39,ih]
   have e3:x.From.toNat=i:=by omega
   have e4:x.To.toNat=j:=by omega
   conv=>rhs;rw [hd]
   rw [e3,e4,F96]
   unfold F03
   rw [outR j (by omega),outN j (by omega),if_neg (by decide)]
   simp
theorem J64 (file base:List Int):z7 (F03 file base (L3 file base)) 0 (base.length+1)=file:=by
 have hasc:=X0 file base 0 0
 rw [Int.zero_add,Int.zero_add] at hasc
 have:=H45 (F9 0 0 file base) 0 0 hasc (fun x hx=>by
  obtain ⟨_,_,v,h1,h2⟩:=F82 file base 0 0 x hx
  rw [Int.sub_zero] at h1 h2
  rw [h1,h2])
 exact this
theorem H46 (ids:List (List Int)) (lines n:Nat):∀p,p≤n→∀k,((O8 ids lines n p).2 k).length=n∧∀q,((O8 ids lines n p).2 k).getD q []=if q < p then A78 (ids.getD (q+1) []) (L3 (ids.getD (q+1) []) (ids.getD 0 [])) k [] else []
 | 0,_,k=>by
  refine ⟨by simp [O8,A17],fun q=>?_⟩
  rw [if_neg (by omega)]
  show (List.replicate n []).getD q []=[]
  rw [K09,List.getElem?_replicate]
  split<;>rfl
 | p+1,hp,k=>by
  obtain ⟨h1,h2⟩:=H46 ids lines n p (by omega) k
  rw [A68]
  have e:(M6 ids (O8 ids lines n p) p).2 k=((O8 ids lines n p).2 k).set p (A78 (ids.getD (p+1) []) (L3 (ids.getD (p+1) []) (ids.getD 0 [])) k (((O8 ids lines n p).2 k).getD p [])):=H44 p _ k _ _
  rw [e,h2 p,if_neg (by omega)]
  refine ⟨by rw [K47,h1],fun q=>?_⟩
  rw [K09,K61]
  by_cases hq:p=q
  ·subst hq
   rw [if_pos rfl,if_pos (by omega),if_pos (by omega)];rfl
  ·rw [if_neg hq,←K09,h2 q]
   by_cases hq2:q < p
   ·rw [if_pos hq2,if_pos (by omega)]
   ·rw [if_neg hq2,if_neg (by omega)]
theorem G00 {ids:List (List Int)} {base:List Int} {n:Nat} (hb:base=ids.getD 0 []) (hl:∀x∈ids,x.length≤4096) (hbl:base.length≤4096):∀p,p≤32→∀(q k:Nat) (v:Int),(z6 ids base.length n p).1[k]?=some v→W4 v q=(decide (q < p)&&U9 (L3 (ids.getD (q+1) []) base) k)
 | 0,_,q,k,v,h=>by
  have:=List.eq_of_mem_replicate (show v∈List.replicate base.length 0 from K27 h)
  subst this
  rw [decide_eq_false (by omega),Bool.false_and]
  simp [W4]
 | p+1,hp,q,k,v,h=>by
  obtain ⟨h1,h2,h3⟩:=C29 (n:=n) hb hl hbl p (by omega)
  rw [C08] at h
  have e:(A20 ids (z6 ids base.length n p) p).1=(L3 (ids.getD (p+1) []) (ids.getD 0 [])).foldl (Q7 p) (z6 ids base.length n p).1:=rfl
  rw [e,F00,←hb] at h
  cases hw:(z6 ids base.length n p).1[k]? with
  | none=>rw [hw] at h;cases h
  | some w =>
   rw [hw] at h
   have ih:=G00 (n:=n) hb hl hbl p (by omega) q k w hw
   have hlow:=h2 w (K27 hw)
   have h2p:=D20 (p:=p) (by omega)
   have h:(if U9 (L3 (ids.getD (p+1) []) base) k=true then K6 w (H0 p) else w)=v:=Option.some.inj h
   rw [←h]
   by_cases hq:p=q
   ·subst hq
    rw [decide_eq_false (Nat.lt_irrefl _),Bool.false_and] at ih
    rw [decide_eq_true (by omega),Bool.true_and]
    cases U9 (L3 (ids.getD (p+1) []) base) k
    ·rw [if_neg (by decide),ih]
    ·rw [if_pos rfl,D21 (by omega) (by omega),decide_eq_true rfl,Bool.or_true]
   ·have e2:decide (q < p+1)=decide (q < p):=by by_cases h:q < p<;>simp [h]<;>omega
    rw [e2,←ih]
    split
    ·rw [D21 (by omega) (by omega),decide_eq_false hq,Bool.or_false]
    ·rfl
end Go.AL
namespace Go.AL
open Go
theorem H47 (s:Str):∀(l:List Str) (k:Int),0≤k→s∈l→l[(I5 l s k - k).toNat]?=some s
 | [],_,_,h=>(by cases h)
 | x::r,k,hk,h=>by
  unfold I5
  by_cases hx:x=s
  ·rw [if_pos hx,Int.sub_self,hx];rfl
  ·rw [if_neg hx]
   have hm:s∈r:=by rcases List.mem_cons.1 h with rfl | h;exact absurd rfl hx;exact h
   have h1:=B33 r s (k+1) (by omega) hm
   have h2:=H47 s r (k+1) (by omega) hm
   rw [show (I5 r s (k+1) - k).toNat=(I5 r s (k+1) - (k+1)).toNat+1 by omega,List.getElem?_cons_succ]
   exact h2
def C10 (names:List Str) (v:Int):Str:=names.getD v.toNat []
theorem I58 {names:List Str} {s:Str} (h:s∈names):C10 names (I5 names s 0)=s:=by
 have:=H47 s names 0 (Int.le_refl _) h
 rw [Int.sub_zero] at this
 unfold C10
 rw [K09,this];rfl
theorem I16 {names f:List Str} (h:∀s∈f,s∈names):(L2 names f).map (C10 names)=f:=by
 unfold L2
 rw [K40]
 conv=>rhs;rw [←List.map_id f]
 exact List.map_congr_left fun s hs=>I58 (h s hs)
theorem G01 (G:Nat→List Row) (a b:Nat) (c:Int):K7 (z7 G a b) c=z7 (fun k=>K7 (G k) c) a b:=by
 unfold K7 z7
 rw [List.filter_flatten,List.map_flatten,K40,K40];rfl
theorem D51 (a b:List Row) (c:Int):K7 (a++b) c=K7 a c++K7 b c:=by unfold K7;rw [K56,K20]
theorem F04 (w:Row) {q:Nat} (hq:q < 32):Z8 w q=(W4 w.Marks q == w.Lost):=by
 rw [Z8,if_neg (by omega),if_neg (by omega),K12]
theorem H48 (f:Int→Str) {q:Nat} (hq:q < 32):∀l:List Merged,K7 (l.map fun m=>(⟨true,m.Parents,f m.Line⟩:Row)) q=(x2 q l).map f
 | []=>rfl
 | m::r=>by
  have ih:=H48 f hq r
  unfold K7 x2 F5 at ih ⊢
  rw [K14,K51,K51,F04 _ hq]
  dsimp only
  rw [show (W4 m.Parents q == true)=W4 m.Parents q by simp]
  cases W4 m.Parents q
  ·rw [if_neg (by decide),if_neg (by decide)];exact ih
  ·rw [if_pos rfl,if_pos rfl,K14,K14,K14,ih]
theorem J21 (f:Int→Str) (l:List Merged):K7 (l.map fun m=>(⟨true,m.Parents,f m.Line⟩:Row)) (-1)=[]:=by
 unfold K7
 rw [List.filter_eq_nil_iff.2]
 ·rfl
 ·intro w hw
  obtain ⟨m,_,rfl⟩:=List.mem_map.1 hw
  simp [Z8]
structure Made16 (x:Str) (r:List Str) (rows:List Row):Prop where
 res:K7 rows (-1)=C2 x
 par:∀q,q < r.length→K7 rows q=C2 (r.getD q [])
 marks:N8 rows r.length=true
 texts:∀w∈rows,J5 w.Text=true
theorem D95 {x:Str} {r:List Str} (hx:(C2 x).length≤4096) (hr:∀b∈r,(C2 b).length≤4096) (h:(F2 x r).2=0) :
  (1≤r.length∧r.length≤32)∧(F2 x r).1.Parents=r.length∧Made16 x r (F2 x r).1.Rows:=by
 by_cases hn:r.length < 1∨32 < r.length
 ·rw [F2,if_pos hn] at h;cases h
 obtain ⟨F,hF⟩:∃F,F=C2 x:=⟨_,rfl⟩
 obtain ⟨N,hN⟩:∃N,N=E5 (F::r.map C2):=⟨_,rfl⟩
 obtain ⟨ids,hids⟩:∃ids,ids=(F::r.map C2).map (L2 N):=⟨_,rfl⟩
 obtain ⟨s,hs⟩:∃s,s=O8 ids F.length r.length r.length:=⟨_,rfl⟩
 have hm:F2 x r=if ∃k,k < F.length+1∧(E6 (s.2 k)).2≠0 then (⟨0,[]⟩,1) else (⟨r.length,V7 N F s (F.length+1)⟩,0):=by
  rw [F2,if_neg hn,hs,hids,hN,hF]
 rw [hm] at h ⊢
 split at h
 ·cases h
 rename_i hno
 rw [if_neg hno]
 have hz:∀k,k < F.length+1→(E6 (s.2 k)).2=0:=fun k hk=>Classical.byContradiction fun hc=>hno ⟨k,hk,hc⟩
 refine ⟨by omega,rfl,?_⟩
 dsimp only
 have hrun:V7 N F s (F.length+1)=z7 (S3 N F s) 0 (F.length+1):=by
  unfold V7 z7
  rw [Nat.sub_zero]
  congr 1
  exact List.map_congr_left fun t _=>by rw [Nat.zero_add]
 rw [hrun]
 have hmem:∀f∈F::r.map C2,∀t∈f,t∈N:=fun f hf t ht=>by rw [hN];exact B97 _ t f hf ht
 have hlok:∀f∈F::r.map C2,f.length≤4096∧∀t∈f,J5 t=true:=by
  intro f hf
  rcases List.mem_cons.1 hf with rfl | hf
  ·rw [hF];exact ⟨hx,(B44 x).1⟩
  ·obtain ⟨b,hb,rfl⟩:=List.mem_map.1 hf
   exact ⟨hr b hb,(B44 b).1⟩
 have hil:∀z∈ids,z.length≤4096:=by
  intro z hz
  rw [hids] at hz
  obtain ⟨f,hf,rfl⟩:=List.mem_map.1 hz
  rw [L2,K30];exact (hlok f hf).1
 obtain ⟨base,hb⟩:∃base,base=L2 N F:=⟨_,rfl⟩
 have hb0:base=ids.getD 0 []:=by rw [hb,hids];rfl
 have hbl:base.length=F.length:=by rw [hb,L2,K30]
 have hFl:F.length≤4096:=(hlok F (by simp)).1
 obtain ⟨p1,p2,p3⟩:=C29 (n:=r.length) hb0 hil (by omega) r.length (by omega)
 rw [hbl] at p1 p2 p3
 rw [←hs] at p1
 rw [p1] at p2 p3
 have hmark:=G00 (n:=r.length) hb0 hil (by omega) r.length (by omega)
 rw [hbl,p1] at hmark
 have hgap:=H46 ids F.length r.length r.length (Nat.le_refl _)
 rw [←hs] at hgap
 have hco:=fun k hk=>E03 (hz k hk)
 have hspec:LoomOk (fun v=>0≤v∧v < (N.length:Int)) 4096 F.length r.length s:=by
  rw [hs]
  refine A39 (fun z hz=>⟨hil z hz,fun v hv=>?_⟩) _
  rw [hids,hN] at hz
  rw [hN]
  exact H94 _ z hz v hv
 have hkeep:∀k,k < F.length→∃v,s.1[k]?=some v∧s.1.getD k 0=v∧0≤v∧v < ((2 ^ r.length:Nat):Int):=by
  intro k hk
  refine ⟨s.1[k]'(by omega),K07 _,?_,p2 _ (K17 _)⟩
  rw [K09,K07 (by omega)];rfl
 have hrow:∀w∈z7 (S3 N F s) 0 (F.length+1),X1 r.length w=true∧J5 w.Text=true:=by
  intro w hw
  unfold z7 at hw
  obtain ⟨l,hl,hwl⟩:=List.mem_flatten.1 hw
  obtain ⟨k,hk,rfl⟩:=List.mem_map.1 hl
  have hk:=List.mem_range.1 hk
  rw [Nat.zero_add] at hwl
  have hpw:((2 ^ r.length:Nat):Int)=2 ^ r.length:=by simp
  unfold S3 at hwl
  rcases List.mem_append.1 hwl with hwl | hwl
  ·obtain ⟨m,hmm,rfl⟩:=List.mem_map.1 hwl
   have h1:=(hco k (by omega)).1 m hmm
   rw [(hgap k).1] at h1
   have h2:=((A03 _ 4096 (s.2 k) (hspec.gaps k).2).2 m hmm).2
   refine ⟨?_,?_⟩
   ·unfold X1
    dsimp only
    rw [Int.ediv_eq_zero_of_lt (by omega) (by omega)]
    have:(m.Parents == 0)=false:=by rw [beq_eq_false_iff_ne];omega
    rw [this];decide
   ·show J5 (N.getD m.Line.toNat [])=true
    have h3:m.Line.toNat < N.length:=by omega
    rw [K09,K07 h3]
    have h4:N[m.Line.toNat]∈E5 (F::r.map C2):=by rw [←hN];exact K17 h3
    obtain ⟨f,hf,ht⟩:=List.mem_flatten.1 (D74 _ _ h4)
    exact (hlok f hf).2 _ ht
  ·split at hwl
   ·rename_i hkF
    rw [List.mem_singleton] at hwl
    subst hwl
    obtain ⟨v,_,g2,g3,g4⟩:=hkeep k hkF
    refine ⟨?_,?_⟩
    ·unfold X1
     dsimp only
     rw [g2,Int.ediv_eq_zero_of_lt g3 (by omega)];rfl
    ·show J5 (F.getD k [])=true
     rw [K09,K07 hkF]
     exact (hlok F (by simp)).2 _ (K17 hkF)
   ·cases hwl
 have hid:∀(z:List Str) (k:Nat) (h:k < z.length),z.getD k []=z[k]:=fun z k h=>by rw [K09,K07 h];rfl
 refine ⟨?_,fun q hq=>?_,List.all_eq_true.2 fun w hw=>(hrow w hw).1,fun w hw=>(hrow w hw).2⟩
 ·rw [G01,←hF]
  have:=H43 F F.length 0 (by omega)
  rw [List.drop_zero] at this
  conv=>rhs;rw [←this]
  refine B55 fun k _ hk=>?_
  unfold S3
  rw [D51,show (fun m:Merged=>(⟨true,m.Parents,N.getD m.Line.toNat []⟩:Row))=fun m=>⟨true,m.Parents,C10 N m.Line⟩ from rfl,J21,K39]
  by_cases hkF:k < F.length
  ·rw [if_pos hkF,K07 hkF,hid F k hkF];rfl
  ·rw [if_neg hkF,K31 (by omega)];rfl
 ·obtain ⟨file,hfile⟩:∃file,file=ids.getD (q+1) []:=⟨_,rfl⟩
  have hfq:file=L2 N (C2 (r.getD q [])):=by
   rw [hfile,hids,hid r q hq,K09,K14,List.getElem?_cons_succ,K34,K34,K07 hq];rfl
  have hback:file.map (C10 N)=C2 (r.getD q []):=by
   rw [hfq]
   refine I16 fun t ht=>hmem _ (List.mem_cons_of_mem _ (List.mem_map_of_mem ?_)) t ht
   rw [hid r q hq];exact K17 hq
  have hcol:=J64 file base
  rw [G01,←hback]
  conv=>rhs;rw [←hcol,←J63,hbl]
  refine B55 fun k _ hk=>?_
  have hgk:=(hgap k).2 q
  rw [if_pos hq,←hfile,←hb0] at hgk
  have hck:=(hco k hk).2 q (by rw [(hgap k).1];exact hq)
  unfold S3 F03
  rw [D51,show (fun m:Merged=>(⟨true,m.Parents,N.getD m.Line.toNat []⟩:Row))=fun m=>⟨true,m.Parents,C10 N m.Line⟩ from rfl,H48 (C10 N) (by omega),hck,hgk,K20]
  congr 1
  by_cases hkF:k < F.length
  ·obtain ⟨v,g1,g2,_⟩:=hkeep k hkF
   have hmk:=hmark q k v g1
   rw [decide_eq_true hq,Bool.true_and,←hfile] at hmk
   rw [if_pos hkF,g2]
   unfold K7
   rw [K51,F04 _ (by omega)]
   dsimp only
   rw [hmk]
   cases U9 (L3 file base) k
   ·rw [if_pos (show (false == false)=true from rfl),if_neg (show ¬false=true by decide)]
    have hbk:base[k]?=some (I5 N F[k] 0):=by rw [hb,L2,K34,K07 hkF];rfl
    rw [hbk,hid F k hkF]
    show [F[k]]=[C10 N (I5 N F[k] 0)]
    rw [I58 (hmem F (by simp) _ (K17 hkF))]
   ·rw [if_neg (show ¬(true == false)=true by decide),if_pos (show true=true from rfl)];rfl
  ·rw [if_neg hkF,K31 (by omega)]
   split<;>rfl
theorem Made16.texts16 {x:Str} {r:List Str} {rows:List Row} (h:Made16 x r rows):T3 rows r.length=true:=by
 unfold T3
 rw [K10]
 refine ⟨List.all_eq_true.2 h.texts,List.all_eq_true.2 fun k hk=>?_⟩
 have hk:=List.mem_range.1 hk
 have hl:=fun b=>B47 (C2 b) (B44 b).1 (B44 b).2
 cases k with
 | zero=>rw [show ((0:Nat):Int) - 1 = -1 from rfl,h.res];exact hl x
 | succ q =>
  rw [show ((q+1:Nat):Int) - 1=(q:Int) by omega,h.par q (by omega)];exact hl _
theorem G60 {x:Str} {r:List Str} (hx:(C2 x).length≤4096) (hr:∀b∈r,(C2 b).length≤4096) (h:(F2 x r).2=0):L4 (F2 x r).1=0:=by
 obtain ⟨h1,h2,h3⟩:=D95 hx hr h
 unfold L4
 rw [h2,if_neg (by omega),K12,h3.marks,if_neg (by decide),h3.texts16,if_neg (by decide)]
theorem H49 {x:Str} {r:List Str} {B:Nat} (hn:1≤r.length∧r.length≤32) (hx:(C2 x).length≤B) (hr:∀b∈r,(C2 b).length≤B) (h:r.length*B≤4096):(F2 x r).2=0:=by
 unfold F2
 rw [if_neg (by omega)]
 dsimp only
 rw [if_neg]
 rintro ⟨k,_,hk⟩
 refine hk ?_
 have hok:=(A39 (Q:=fun _=>True) (B:=B) (lines:=(C2 x).length) (n:=r.length) (ids:=(C2 x::r.map C2).map (L2 (E5 (C2 x::r.map C2)))) (fun z hz=>by
  obtain ⟨f,hf,rfl⟩:=List.mem_map.1 hz
  refine ⟨?_,fun _ _=>trivial⟩
  rw [L2,K30]
  rcases List.mem_cons.1 hf with rfl | hf
  ·exact hx
  ·obtain ⟨b,hb,rfl⟩:=List.mem_map.1 hf
   exact hr b hb) r.length).gaps k
 exact E04 (B:=B) (fun z hz=>(hok.2 z hz).1) (by rw [hok.1];exact hn.2) (by rw [hok.1];exact h)
end Go.AL
namespace Go.AL
open Go
def CutSp (m:Nat):Int→List Span→Prop
 | _,[]=>True
 | e,s::r=>e≤s.From∧s.From < s.To∧s.To≤m∧CutSp m s.To r
def endOf (e:Int):List Span→Int
 | []=>e
 | s::r=>endOf s.To r
theorem CutSp.mono {m m':Nat} (hm:m≤m'):∀{sp:List Span} {e:Int},CutSp m e sp→CutSp m' e sp
 | [],_,_=>trivial
 | s::r,e,h=>⟨h.1,h.2.1,by have:=h.2.2.1;omega,CutSp.mono hm h.2.2.2⟩
theorem CutSp.end_le {m:Nat}:∀{sp:List Span} {e:Int},CutSp m e sp→e≤m→endOf e sp≤m
 | [],_,_,he=>he
 | s::r,_,h,_=>CutSp.end_le (sp:=r) (e:=s.To) h.2.2.2 h.2.2.1
theorem cutSp_snoc {m:Nat} {s:Span}:∀{sp:List Span} {e:Int},CutSp m e (sp++[s])↔CutSp m e sp∧endOf e sp≤s.From∧s.From < s.To∧s.To≤m
 | [],e=>⟨fun h=>⟨trivial,h.1,h.2.1,h.2.2.1⟩,fun h=>⟨h.2.1,h.2.2.1,h.2.2.2,trivial⟩⟩
 | x::r,e=>by
  have ih:=cutSp_snoc (m:=m) (s:=s) (sp:=r) (e:=x.To)
  constructor
  ·intro h
   obtain ⟨h1,h2⟩:=ih.1 h.2.2.2
   exact ⟨⟨h.1,h.2.1,h.2.2.1,h1⟩,h2⟩
  ·rintro ⟨h1,h2⟩
   exact ⟨h1.1,h1.2.1,h1.2.2.1,ih.2 ⟨h1.2.2.2,h2⟩⟩
theorem H50:∀(l:List Bool) (i:Nat) (p:Bool) (out:List Span),CutSp i 0 out→(p=true→∃o a,out=o++[⟨a,i⟩])→CutSp (i+l.length) 0 (F42 l i p out)
 | [],i,p,out,h,_=>h
 | b :: r,i,p,out,h,hp=>by
  rw [F42,K08,show i+(r.length+1)=i+1+r.length by omega]
  have key:(b=true→∃o a,(if b=true then A29 (if p=true then out else out++[⟨i,i⟩]) ((i:Int)+1) else out)=o++[⟨a,((i+1:Nat):Int)⟩])∧CutSp (i+1) 0 (if b=true then A29 (if p=true then out else out++[⟨i,i⟩]) ((i:Int)+1) else out):=by
   cases b
   ·exact ⟨fun hb=>(by cases hb),h.mono (by omega)⟩
   ·rw [if_pos rfl]
    cases p
    ·rw [if_neg (by decide),F92]
     refine ⟨fun _=>⟨out,i,by rw [show ((i+1:Nat):Int)=(i:Int)+1 by omega]⟩,?_⟩
     have:=h.end_le (by omega)
     exact cutSp_snoc.2 ⟨h.mono (by omega),this,by dsimp only;omega,by dsimp only;omega⟩
    ·obtain ⟨o,a,rfl⟩:=hp rfl
     rw [if_pos rfl,F92]
     refine ⟨fun _=>⟨o,a,by rw [show ((i+1:Nat):Int)=(i:Int)+1 by omega]⟩,?_⟩
     obtain ⟨h1,h2,h3,h4⟩:=cutSp_snoc.1 h
     dsimp only at h2 h3 h4
     exact cutSp_snoc.2 ⟨h1.mono (by omega),h2,by dsimp only;omega,by dsimp only;omega⟩
  exact H50 r (i+1) b _ key.2 key.1
theorem J22 (l:List Bool):CutSp l.length 0 (B54 l):=by
 have:=H50 l 0 false [] trivial (fun h=>by cases h)
 rwa [Nat.zero_add] at this
def cutH (n:Nat) (rows:List Row) (s:Span):CHunk:=⟨G9 (rows.take s.From.toNat) n,(rows.drop s.From.toNat).take (s.To.toNat - s.From.toNat)⟩
def c6 (n:Nat) (rows:List Row) (sp:List Span):List CHunk:=sp.map (cutH n rows)
theorem F05 (n:Nat) (rows:List Row):∀(sp:List Span) (e:Int) (hs:List CHunk),CutSp rows.length e sp→V5 n rows e hs sp=some (hs++c6 n rows sp)
 | [],_,hs,_=>by simp [V5,c6]
 | s::r,e,hs,h=>by
  obtain ⟨h1,h2,h3,h4⟩:=h
  rw [V5,if_neg (by omega),F05 n rows r _ _ h4]
  simp [c6,cutH]
theorem F06 (a b:List Row) (n k:Nat):M2 (a++b) n k=M2 a n k+M2 b n k:=by
 unfold M2;rw [D51,K06];omega
theorem E16 (a:List Row) (n k:Nat):0≤M2 a n k∧M2 a n k≤a.length:=by
 have:=A99 a (T5 n k)
 unfold M2;omega
theorem D52 (rows:List Row) (n k:Nat) (h:k < n+1):(G9 rows n).getD k 0=M2 rows n k:=A52 _ _ _ h
theorem C68 {α:Type} (rows:List α) {a b:Nat} (h:a≤b):rows.take b=rows.take a++(rows.drop a).take (b - a):=by
 have:=List.take_add (l:=rows) (i:=a) (j:=b - a)
 rwa [show a+(b - a)=b by omega] at this
theorem J65 (n:Nat) (rows:List Row) {s:Span} (h1:0≤s.From) (h2:s.From < s.To):U7 n (cutH n rows s)=G9 (rows.take s.To.toNat) n:=by
 unfold U7 G9
 refine List.map_congr_left fun k hk=>?_
 have hk:=List.mem_range.1 hk
 show (G9 (rows.take s.From.toNat) n).getD k 0+M2 ((rows.drop s.From.toNat).take (s.To.toNat - s.From.toNat)) n k=_
 rw [D52 _ _ _ hk,←F06,←C68 rows (by omega)]
theorem F07 (n:Nat) {rows:List Row} (hl:rows.length≤4096):∀(sp:List Span) (e:Int),0≤e→CutSp rows.length e sp→R9 n (G9 (rows.take e.toNat) n) (c6 n rows sp)=true
 | [],_,_,_=>rfl
 | s::r,e,he,h=>by
  obtain ⟨h1,h2,h3,h4⟩:=h
  show (A26 n (G9 (rows.take e.toNat) n) (cutH n rows s)&&R9 n (U7 n (cutH n rows s)) (c6 n rows r))=true
  rw [J65 n rows (by omega) h2,F07 n hl r s.To (by omega) h4,Bool.and_true]
  unfold A26
  rw [K10]
  refine ⟨decide_eq_true ⟨E91 _ _,fun hc=>?_⟩,List.all_eq_true.2 fun k hk=>decide_eq_true ?_⟩
  ·have:((rows.drop s.From.toNat).take (s.To.toNat - s.From.toNat)).length=0:=by
    rw [show (rows.drop s.From.toNat).take (s.To.toNat - s.From.toNat)=[] from hc];rfl
   rw [K19,K23] at this
   omega
  ·have hk:=List.mem_range.1 hk
   show ((G9 (rows.take e.toNat) n).getD k 0≤(G9 (rows.take s.From.toNat) n).getD k 0∧(G9 (rows.take s.From.toNat) n).getD k 0≤4096)∧(G9 (rows.take s.From.toNat) n).getD k 0+M2 ((rows.drop s.From.toNat).take (s.To.toNat - s.From.toNat)) n k≤4096
   rw [D52 _ _ _ hk,D52 _ _ _ hk,←F06,←C68 rows (by omega)]
   have g1:=F06 (rows.take e.toNat) ((rows.drop e.toNat).take (s.From.toNat - e.toNat)) n k
   rw [←C68 rows (by omega)] at g1
   have g2:=E16 ((rows.drop e.toNat).take (s.From.toNat - e.toNat)) n k
   have g3:=E16 (rows.take s.From.toNat) n k
   have g4:=E16 (rows.take s.To.toNat) n k
   rw [K19] at g3 g4
   omega
theorem D96 (n:Nat) (rows:List Row):∀(sp:List Span) (e:Int),0≤e→CutSp rows.length e sp→(L5 (c6 n rows sp)).Sublist (rows.drop e.toNat)
 | [],_,_,_=>List.nil_sublist _
 | s::r,e,he,h=>by
  obtain ⟨h1,h2,h3,h4⟩:=h
  have ih:=D96 n rows r s.To (by omega) h4
  show ((rows.drop s.From.toNat).take (s.To.toNat - s.From.toNat)++L5 (c6 n rows r)).Sublist _
  have e1:rows.drop e.toNat=(rows.drop e.toNat).take (s.From.toNat - e.toNat)++((rows.drop s.From.toNat).take (s.To.toNat - s.From.toNat)++rows.drop s.To.toNat):=by
   rw [←A55 rows (show s.From.toNat≤s.To.toNat by omega)]
   exact A55 rows (by omega)
  rw [e1]
  exact (List.Sublist.append (List.Sublist.refl _) ih).trans (List.sublist_append_right _ _)
theorem F08:∀{l:List Str},Y4 l=true→(∀s∈l,J5 s=true)∧U6 l=true
 | [],_=>⟨fun s hs=>(by cases hs),rfl⟩
 | x::r,h=>by
  rw [D75,K10,K10] at h
  obtain ⟨⟨h1,h2⟩,h3⟩:=h
  obtain ⟨i1,i2⟩:=F08 h3
  refine ⟨fun s hs=>?_,?_⟩
  ·rcases List.mem_cons.1 hs with rfl | hs
   ·exact h1
   ·exact i1 s hs
  ·show ((r.isEmpty||ended x)&&U6 r)=true
   rw [h2,i2];rfl
theorem J23 {a b:List Row} {n:Nat} (hs:a.Sublist b) (h:T3 b n=true):T3 a n=true:=by
 unfold T3 at h ⊢
 rw [K10] at h ⊢
 obtain ⟨h1,h2⟩:=h
 refine ⟨List.all_eq_true.2 fun r hr=>List.all_eq_true.1 h1 r (hs.subset hr),List.all_eq_true.2 fun k hk=>?_⟩
 have h3:=F08 (List.all_eq_true.1 h2 k hk)
 have h4:(K7 a ((k:Int) - 1)).Sublist (K7 b ((k:Int) - 1)):=by unfold K7;exact (hs.filter _).map _
 exact B47 _ (fun s hs=>h3.1 s (h4.subset hs)) (B43 h4 h3.2)
theorem F43 {t:Table} (h:L4 t=0):(1≤t.Parents∧t.Parents≤32)∧N8 t.Rows t.Parents.toNat=true∧T3 t.Rows t.Parents.toNat=true:=by
 unfold L4 at h
 split at h
 ·cases h
 ·rename_i h1
  split at h
  ·cases h
  ·rename_i h2
   split at h
   ·cases h
   ·rename_i h3
    exact ⟨by omega,by simpa using h2,by simpa using h3⟩
theorem I17 {path:Str} {t:Table} {sp:List Span} {d:Bool} (hn:Q0 path=true) (hc:L4 t=0) (hl:t.Rows.length≤4096) (hsp:CutSp t.Rows.length 0 sp)
  (hW:4*path.length+48+926*t.Rows.length+(t.Rows.map (D47 t.Parents.toNat)).sum≤16777216) :
  U8 path t sp d=(⟨path,d,t.Parents,c6 t.Parents.toNat t.Rows sp⟩,0)∧G8 ⟨path,d,t.Parents,c6 t.Parents.toNat t.Rows sp⟩=0∧(i8 ⟨path,d,t.Parents,c6 t.Parents.toNat t.Rows sp⟩).length≤4*path.length+48+926*t.Rows.length+(t.Rows.map (D47 t.Parents.toNat)).sum:=by
 obtain ⟨h1,h2,h3⟩:=F43 hc
 have hgo:=F05 t.Parents.toNat t.Rows sp 0 [] hsp
 rw [K39] at hgo
 have hsub:=D96 t.Parents.toNat t.Rows sp 0 (Int.le_refl _) hsp
 rw [show (0:Int).toNat=0 from rfl,List.drop_zero] at hsub
 have hw:=J60 ⟨path,d,t.Parents,c6 t.Parents.toNat t.Rows sp⟩
 have hg:=E15 (D47 t.Parents.toNat) (28*(t.Parents.toNat+1)+2) t.Parents.toNat t.Rows sp 0 [] _ (Int.le_refl _) hgo (by simp) (by simp)
 have hlen:(c6 t.Parents.toNat t.Rows sp).length≤t.Rows.length:=by have:=hg.2;simpa using this
 have hmul:(28*(t.Parents.toNat+1)+2)*(c6 t.Parents.toNat t.Rows sp).length≤926*t.Rows.length:=Nat.mul_le_mul (by omega) hlen
 have hsz:(i8 ⟨path,d,t.Parents,c6 t.Parents.toNat t.Rows sp⟩).length≤4*path.length+48+926*t.Rows.length+(t.Rows.map (D47 t.Parents.toNat)).sum:=by
  have:=hg.1
  dsimp only at hw
  omega
 have hck:G8 ⟨path,d,t.Parents,c6 t.Parents.toNat t.Rows sp⟩=0:=by
  unfold G8
  dsimp only
  have m1:X2 t.Parents.toNat (c6 t.Parents.toNat t.Rows sp)=true:=by
   unfold X2
   refine List.all_eq_true.2 fun h hh=>List.all_eq_true.2 fun r hr=>List.all_eq_true.1 h2 r (hsub.subset ?_)
   exact List.mem_flatten.2 ⟨h.Rows,List.mem_map_of_mem hh,hr⟩
  have m2:P5 t.Parents.toNat (c6 t.Parents.toNat t.Rows sp)=true:=by
   unfold P5
   have e0:List.replicate (t.Parents.toNat+1) 0=G9 (t.Rows.take (0:Int).toNat) t.Parents.toNat:=by
    unfold G9
    refine List.ext_getElem (by simp) fun k h1 h2=>?_
    simp [M2,K7]
   rw [e0,F07 _ hl sp 0 (Int.le_refl _) hsp,J23 hsub h3];rfl
  rw [if_neg (by rw [hn];decide),if_neg (by omega),m1,if_neg (by decide),m2,if_neg (by decide),if_neg (by omega)]
 refine ⟨?_,hck,hsz⟩
 unfold U8
 rw [if_neg (by rw [hn];decide),hc,if_neg (by decide),hgo]
 dsimp only
 rw [hck,if_neg (by decide)]
theorem D24 {t:Table} {ctx:Int} (d:Bool) (hc:L4 t=0) (h:0≤ctx∧ctx≤1048576):(N9 t ctx d).2=0∧CutSp t.Rows.length 0 (N9 t ctx d).1:=by
 have hi:(K5 t d).2=0:=by
  unfold K5 j4
  rw [hc,if_neg (show ¬(0:Int)≠0 by decide)]
  rfl
 unfold N9
 rw [hi,if_neg (by decide),if_neg (by omega)]
 refine ⟨rfl,?_⟩
 have:=J22 ((List.range t.Rows.length).map (j5 (K5 t d).1 ctx))
 rwa [K30,K60] at this
end Go.AL
namespace Go.AL
open Go
end Go.AL
namespace Go.AL
open Go
def B02 (f:Nat→Nat):Nat→Nat
 | 0=>0
 | m+1=>B02 f m+f m
theorem F09 {f g:Nat→Nat}:∀{m:Nat},(∀k,f k≤g k)→B02 f m≤B02 g m
 | 0,_=>Nat.le_refl _
 | m+1,h=>by
  have h1:=F09 (f:=f) (g:=g) (m:=m) h
  have h2:=h m
  show B02 f m+f m≤B02 g m+g m
  omega
theorem G02 {f g:Nat→Nat} {k0:Nat} (h:∀k,f k≤g k) (h0:f k0+1≤g k0):∀{m:Nat},k0 < m→B02 f m+1≤B02 g m
 | 0,hm=>absurd hm (Nat.not_lt_zero _)
 | m+1,hm=>by
  show B02 f m+f m+1≤B02 g m+g m
  by_cases hk:k0=m
  ·subst hk
   have:=F09 (f:=f) (g:=g) (m:=k0) h
   omega
  ·have h1:=G02 h h0 (m:=m) (by omega)
   have h2:=h m
   omega
theorem J24 {n:Nat} (hn:n≤32) {r:Row} (h:X1 n r=true):∃k,k < n+1∧Z8 r ((k:Int) - 1)=true:=by
 obtain ⟨h1,h2,h3⟩:=D13 h
 cases hl:r.Lost
 ·exact ⟨0,by omega,by rw [show ((0:Nat):Int) - 1 = -1 from rfl,Z8,if_pos rfl,hl];rfl⟩
 ·have h4:=h3 hl
  obtain ⟨m,hm⟩:∃m:Nat,r.Marks=m:=⟨r.Marks.toNat,by omega⟩
  have h5:((2 ^ n:Nat):Int)=2 ^ n:=by simp
  have hm0:m≠0:=by omega
  obtain ⟨q,hq⟩:=Nat.exists_testBit_of_ne_zero hm0
  have hqn:q < n:=by
   refine Classical.byContradiction fun hc=>?_
   have:m < 2 ^ n:=by omega
   rw [Nat.testBit_lt_two_pow (Nat.lt_of_lt_of_le this (Nat.pow_le_pow_right (by decide) (by omega)))] at hq
   cases hq
  refine ⟨q+1,by omega,?_⟩
  rw [show ((q+1:Nat):Int) - 1=(q:Int) by omega,F04 _ (by omega),hm,y8,hq,hl];rfl
theorem G03 {f:Nat→Nat} {B:Nat}:∀{m:Nat},(∀k,k < m→f k≤B)→B02 f m≤m*B
 | 0,_=>by simp [B02]
 | m+1,h=>by
  have h1:=G03 (f:=f) (B:=B) (m:=m) fun k hk=>h k (by omega)
  have h2:=h m (by omega)
  show B02 f m+f m≤(m+1)*B
  rw [K32,Nat.one_mul];omega
theorem H51 {n:Nat} (hn:n≤32):∀{rows:List Row},(∀r∈rows,X1 n r=true)→rows.length≤B02 (fun k=>(K7 rows ((k:Int) - 1)).length) (n+1)
 | [],_=>Nat.zero_le _
 | r::rs,h=>by
  have ih:=H51 hn (rows:=rs) fun x hx=>h x (by simp [hx])
  obtain ⟨k,hk,hv⟩:=J24 hn (h r (by simp))
  have:=G02 (f:=fun k=>(K7 rs ((k:Int) - 1)).length) (g:=fun k=>(K7 (r::rs) ((k:Int) - 1)).length) (k0:=k) (fun q=>by
   unfold K7
   simp only [K30,K51]
   split
   ·rw [K08];omega
   ·exact Nat.le_refl _) (by
   unfold K7
   simp only [K30,K51]
   rw [hv,if_pos rfl,K08]
   exact Nat.le_refl _) hk
  rw [K08];omega
theorem Made16.few {x:Str} {r:List Str} {rows:List Row} (h:Made16 x r rows) (hn:r.length≤32) {L:Nat} (hx:(C2 x).length≤L) (hr:∀b∈r,(C2 b).length≤L):rows.length≤(r.length+1)*L:=by
 refine Nat.le_trans (H51 hn (List.all_eq_true.1 h.marks)) (G03 fun k hk=>?_)
 cases k with
 | zero=>rw [show ((0:Nat):Int) - 1 = -1 from rfl,h.res];exact hx
 | succ q =>
  rw [show ((q+1:Nat):Int) - 1=(q:Int) by omega,h.par q (by omega)]
  refine hr _ ?_
  rw [K09,K07 (by omega)]
  exact K17 _
end Go.AL
namespace Go.AL
open Go
end Go.AL
