/- Plain facts about data; no project text. -/
import Derived.Test.YtbiadkkamhpdnaaGreatDoorD
import Derived.Lib.Strings
import Derived.Lib.Bytealg
import Derived.Lib.Join
import Derived.Lib.ItoaNum
import Derived.Test.YtbiadkkamhpdnaaGreatDoorAn
set_option linter.unusedSimpArgs false
namespace Go.AL
open Go
theorem E70 (c:UInt8):((c.toNat:Int)=10)↔c=10:=by
 constructor
 ·intro h
  have:c.toNat=10:=by omega
  exact UInt8.toNat_inj.1 (by simpa using this)
 ·rintro rfl;rfl
def I0 (cur:Str):Str→List Str
 | []=>if cur=[] then [] else [cur]
 | c::r=>if c=10 then (cur++[c])::I0 [] r else I0 (cur++[c]) r
def C1 (b:Str):List Str:=I0 [] b
theorem A87 (cur:Str) (s:Str):(I0 cur s).length≤s.length+1:=by
 induction s generalizing cur with
 | nil=>unfold I0;split<;>simp
 | cons c r ih=>unfold I0;split<;>simp<;>(have:=ih [];have:=ih (cur++[c]);omega)
theorem B54 (s:Str):(I0 [] s).length≤s.length:=by
 have key:∀(s cur:Str),cur≠[]→(I0 cur s).length≤s.length+1:=fun s cur _=>A87 cur s
 induction s with
 | nil=>simp [I0]
 | cons c r ih=>unfold I0;split<;>simp<;>(have:=A87 ([]++[c]) r;simp at this;omega)
theorem R1 (b:Str):(C1 b).length≤b.length:=B54 b
theorem p5 (cur r:Str) (c:UInt8):I0 cur (c::r)=if c=10 then (cur++[c])::I0 [] r else I0 (cur++[c]) r:=rfl
theorem F27 (cur:Str) (h:cur≠[]):I0 cur []=[cur]:=by simp [I0,h]
theorem or_pick {p q:Prop} [Decidable p] [Decidable q]:(if decide p=true then true else decide q)=decide (p∨q):=by by_cases p<;>simp [*]
theorem Q2 {p q:Prop} [Decidable p] [Decidable q]:(if decide p=true then decide q else false)=decide (p∧q):=by by_cases p<;>simp [*]
theorem V9 {α:Type} (l:List (List α)) (i:Nat) (h:i < l.length):(l.take (i+1)).flatten=(l.take i).flatten++l[i]:=by
 rw [List.take_add_one,J05 h,Option.toList_some,J33];simp
theorem Y6 {α:Type} (l:List (List α)) (i:Nat):(l.take i).flatten.length≤l.flatten.length:=by
 conv=>rhs;rw [←J43 i l,J33,J06]
 omega
theorem G88 (i:Nat):((i:Int)+1).toNat=i+1:=by omega
theorem E71 {α:Type} (b:List α) (f i:Nat) (hf:f≤i) (hi:i < b.length):(b.drop f).take (i - f)++[b[i]]=(b.drop f).take (i+1 - f):=by
 rw [show i+1 - f=(i - f)+1 by omega,List.take_add_one,J44,show f+(i - f)=i by omega,J05 hi]
 rfl
def ended (s:Str):Bool:=s.getLast? == some 10
theorem I45 (s:Str):ended s=(if decide (s≠[])=true then decide (((s.getLastD 0).toNat:Int)=10) else false):=by
 unfold ended
 by_cases h:s=[]
 ·simp [h]
 ·rw [List.getLast?_eq_some_getLast h,List.getLastD_eq_getLast?,List.getLast?_eq_some_getLast h]
  simp only [ne_eq,h,not_false_eq_true,decide_true,if_true,Option.getD_some,E70]
  rfl
def H1:List Str→Str→Int→Int
 | [],_,_ => -1
 | x::r,s,i=>if x=s then i else H1 r s (i+1)
theorem F28 (l:List Str) (s:Str) (k:Nat) (h:k < l.length):H1 (l.drop k) s k=if l[k]=s then (k:Int) else H1 (l.drop (k+1)) s ((k:Int)+1):=by
 rw [J11 h]
 simp [H1]
theorem G04 (l:List Str) (s:Str):∀(k:Int),0≤k→((H1 l s k < 0)↔s∉l):=by
 induction l with
 | nil=>intro k _;simp [H1]
 | cons x r ih =>
  intro k hk
  unfold H1
  by_cases h:x=s
  ·simp [h];omega
  ·have:=ih (k+1) (by omega)
   simp [h,this,Ne.symm h]
def I5 (s:Str):Bool:=s.dropLast.all (·≠10)&&s != []
def U3:List Str→Bool
 | []=>true
 | s::r=>I5 s&&(r.isEmpty||ended s)&&U3 r
def X3 (b:Str):Int:=if b.length > 1048576∨(C1 b).length > 4096 then 1 else 0
def H8 (out:List Str) (s:Str):List Str:=if s∈out then out else out++[s]
def E2 (files:List (List Str)):List Str:=files.flatten.foldl H8 []
def J3 (names:List Str) (file:List Str):List Int:=file.map (fun s=>H1 names s 0)
theorem C56 (out:List Str) (s:Str):(H8 out s).length≤out.length+1:=by unfold H8;split<;>simp
theorem y8 (l out:List Str):(l.foldl H8 out).length≤out.length+l.length:=by
 induction l generalizing out with
 | nil=>simp
 | cons s r ih=>have h1:=ih (H8 out s);have h2:=C56 out s;simp only [J32,J07];omega
theorem B14 (fs:List (List Str)):(E2 fs).length≤fs.flatten.length:=by have:=y8 fs.flatten [];simpa [E2] using this
end Go.AL
namespace Go.AL
open Go
def L9 (i j:Int):List Span→Int→Int→List Change
 | [],m,n=>if m > i∨n > j then [⟨i,m - i,j,n - j⟩] else []
 | x::r,m,n=>(if x.From > i∨x.To > j then [⟨i,x.From - i,j,x.To - j⟩] else [])++L9 (x.From+1) (x.To+1) r m n
def X5 (p:List Span) (m n:Int):List Change:=L9 0 0 p m n
theorem p6 (p:List Span) (i j m n:Int):(L9 i j p m n).length≤p.length+1:=by
 induction p generalizing i j with
 | nil=>unfold L9;split<;>simp
 | cons x r ih=>unfold L9;have:=ih (x.From+1) (x.To+1);split<;>simp<;>omega
def N2 (i j:Int) (n:Nat):List Span:=(List.range n).map fun (t:Nat)=>⟨i+(t:Int),j+(t:Int)⟩
theorem y9 (i j:Int) (n:Nat):(N2 i j n).length=n:=by simp [N2]
theorem A55 (i j:Int) (n:Nat):N2 i j (n+1)=⟨i,j⟩::N2 (i+1) (j+1) n:=by
 unfold N2
 rw [List.range_succ_eq_map,J16,J36]
 congr 1
 ·simp
 ·refine List.map_congr_left fun t _=>?_
  simp only [Function.comp,Span.mk.injEq]
  omega
def J9 (i j:Int):List Change→Int→List Span
 | [],m=>N2 i j (m - i).toNat
 | c::r,m=>N2 i j (c.Old - i).toNat++J9 (max i c.Old+c.OldLen) (j+(c.Old - i).toNat+c.NewLen) r m
def O9 (l:List Change) (m:Int):List Span:=J9 0 0 l m
def dist:List Int→List Int→Nat
 | [],b=>b.length
 | x::a,[]=>(x::a).length
 | x::a,y::b=>if x=y then dist a b else 1+min (dist a (y::b)) (dist (x::a) b)
theorem z6 (a:List Int):dist a []=a.length:=by cases a<;>simp [dist]
theorem B43 (a b:List Int):dist a b≤a.length+b.length:=by
 induction a generalizing b with
 | nil=>simp [dist]
 | cons x a iha =>
  induction b with
  | nil=>simp [dist]
  | cons y b ihb =>
   unfold dist
   split
   ·have:=iha b;simp;omega
   ·have:=iha (y::b);have:=ihb;simp only [J07] at *;omega
def F3 (i j:Int):List Int→List Int→List Span
 | [],_=>[]
 | _::_,[]=>[]
 | x::a,y::b=>if x=y then ⟨i,j⟩::F3 (i+1) (j+1) a b else if dist a (y::b)+1=dist (x::a) (y::b) then F3 (i+1) j a (y::b) else F3 i (j+1) (x::a) b
def J5 (a b:List Int):List Change:=X5 (F3 0 0 a b) a.length b.length
theorem E72 (a b:List Int) (i j:Nat) (hi:i < a.length) (hj:j < b.length) :
  dist (a.drop i) (b.drop j)=if a[i]=b[j] then dist (a.drop (i+1)) (b.drop (j+1)) else 1+min (dist (a.drop (i+1)) (b.drop j)) (dist (a.drop i) (b.drop (j+1))):=by
 rw [J11 hi,J11 hj]
 conv=>lhs;rw [dist]
theorem r7 (a b:List Int) (i j:Nat) (hi:i < a.length) (hj:j < b.length) (p q:Int) :
  F3 p q (a.drop i) (b.drop j)=if a[i]=b[j] then ⟨p,q⟩::F3 (p+1) (q+1) (a.drop (i+1)) (b.drop (j+1)) else
   if dist (a.drop (i+1)) (b.drop j)+1=dist (a.drop i) (b.drop j) then F3 (p+1) q (a.drop (i+1)) (b.drop j) else F3 p (q+1) (a.drop i) (b.drop (j+1)):=by
 rw [J11 hi,J11 hj]
 conv=>lhs;rw [F3]
theorem U9 (p q:Int) (b:List Int):F3 p q [] b=[]:=by simp [F3]
theorem X4 (p q:Int) (a:List Int):F3 p q a []=[]:=by cases a<;>simp [F3]
theorem T0 (p q:Int) (a b:List Int):(F3 p q a b).length≤a.length:=by
 induction a generalizing p q b with
 | nil=>simp [F3]
 | cons x a iha =>
  induction b generalizing p q with
  | nil=>simp [F3]
  | cons y b ihb =>
   unfold F3
   split
   ·have:=iha (p+1) (q+1) b;simp;omega
   ·split
    ·have:=iha (p+1) q (y::b);simp;omega
    ·exact ihb p (q+1)
universe u
theorem m8 {α:Type u} (n k:Nat) (f g:Nat→α) (v:α) (hv:k < n→g k=v) (h:∀q,q < n→q≠k→g q=f q):((List.range n).map f).set k v=(List.range n).map g:=by
 refine List.ext_getElem (by simp) fun q h1 h2=>?_
 have hq:q < n:=by simpa using h2
 rw [List.getElem_set]
 by_cases he:k=q
 ·subst he;simp [hv hq]
 ·rw [if_neg he];simp [h q hq (Ne.symm he)]
theorem x6 {α:Type u} (n k:Nat) (f:Nat→α) (h:k < n):((List.range n).map f)[k]?=some (f k):=by simp [h]
def P7 (a b:List Int) (i q:Nat):List Int:=(List.range (b.length+1)).map fun j=>if q≤j then (dist (a.drop i) (b.drop j):Int) else 0
def N9 (a b:List Int) (i:Nat):List (List Int):=(List.range (a.length+1)).map fun r=>if i≤r then P7 a b r 0 else []
def B44 (a b:List Int):List (List Int):=N9 a b 0
theorem D61 (a b:List Int) (i q:Nat):(P7 a b i q).length=b.length+1:=by simp [P7]
theorem u0 (a b:List Int) (i:Nat):(N9 a b i).length=a.length+1:=by simp [N9]
theorem F29 (a b:List Int) (i:Nat):List.replicate (b.length+1) 0=P7 a b i (b.length+1):=by
 refine List.ext_getElem (by simp [P7]) fun q h1 h2=>?_
 have:¬(b.length+1≤q):=by simp at h1;omega
 simp [P7,this]
theorem E25 (a b:List Int):List.replicate (a.length+1) []=N9 a b (a.length+1):=by
 refine List.ext_getElem (by simp [N9]) fun q h1 h2=>?_
 have:¬(a.length+1≤q):=by simp at h1;omega
 simp [N9,this]
theorem G05 (a b:List Int) (i j:Nat):(P7 a b i (j+1)).set j (dist (a.drop i) (b.drop j):Int)=P7 a b i j:=by
 unfold P7
 refine m8 _ _ _ _ _ (fun _=>by simp) fun q hq hne=>?_
 by_cases h:j≤q
 ·rw [if_pos h,if_pos (by omega)]
 ·rw [if_neg h,if_neg (by omega)]
theorem r8 (a b:List Int) (i q j:Nat) (h:q≤j) (hj:j≤b.length):(P7 a b i q)[j]?=some (dist (a.drop i) (b.drop j):Int):=by
 unfold P7
 rw [x6 _ _ _ (by omega),if_pos h]
theorem F30 (a b:List Int) (i:Nat):(N9 a b (i+1)).set i (P7 a b i 0)=N9 a b i:=by
 unfold N9
 refine m8 _ _ _ _ _ (fun _=>by simp) fun q hq hne=>?_
 by_cases h:i≤q
 ·rw [if_pos h,if_pos (by omega)]
 ·rw [if_neg h,if_neg (by omega)]
theorem A56 (a b:List Int) (i r:Nat) (h:i≤r) (hr:r≤a.length):(N9 a b i)[r]?=some (P7 a b r 0):=by
 unfold N9
 rw [x6 _ _ _ (by omega),if_pos h]
def E9 (l:List Merged):List Int:=l.map (·.Line)
theorem d9 (i j:Int):N2 i j 0=[]:=rfl
theorem A57 (i j:Int) (n:Nat):N2 i j (n+1)=N2 i j n++[⟨i+n,j+n⟩]:=by simp [N2,J45]
def Asc (m n:Int):Int→Int→List Span→Prop
 | i,j,[]=>i≤m∧j≤n
 | i,j,x::r=>i≤x.From∧j≤x.To∧Asc m n (x.From+1) (x.To+1) r
theorem Asc.le {m n:Int}:∀{p:List Span} {i j:Int},Asc m n i j p→i≤m∧j≤n
 | [],i,j,h=>h
 | x::r,i,j,h=>by have:=Asc.le h.2.2;have:=h.1;have:=h.2.1;omega
theorem Asc.weaken {m n:Int} {p:List Span} {i j i' j':Int} (h:Asc m n i j p) (hi:i'≤i) (hj:j'≤j):Asc m n i' j' p:=by
 cases p with
 | nil=>exact ⟨by have:=h.1;omega,by have:=h.2;omega⟩
 | cons x r=>exact ⟨by have:=h.1;omega,by have:=h.2.1;omega,h.2.2⟩
theorem T3 (a b:List Int):∀(p q:Int),Asc (p+a.length) (q+b.length) p q (F3 p q a b):=by
 induction a generalizing b with
 | nil=>intro p q;rw [U9];simp only [Asc,J10];omega
 | cons x a iha =>
  induction b with
  | nil=>intro p q;rw [X4];simp only [Asc,J10];omega
  | cons y b ihb =>
   intro p q
   rw [F3]
   split
   ·have:=iha b (p+1) (q+1)
    refine ⟨Int.le_refl _,Int.le_refl _,?_⟩
    simp only [J07]
    rwa [show p+((a.length+1:Nat):Int)=p+1+a.length by omega,show q+((b.length+1:Nat):Int)=q+1+b.length by omega]
   ·split
    ·have:=(iha (y::b) (p+1) q).weaken (i':=p) (j':=q) (by omega) (Int.le_refl _)
     rwa [show p+((x::a).length:Int)=p+1+a.length by simp;omega]
    ·have:=(ihb p (q+1)).weaken (i':=p) (j':=q) (Int.le_refl _) (by omega)
     rwa [show q+((y::b).length:Int)=q+1+b.length by simp;omega]
theorem Asc.made {m n:Int}:∀{p:List Span} {i j:Int},Asc m n i j p→∀c∈L9 i j p m n,i≤c.Old∧j≤c.New∧0≤c.OldLen∧0≤c.NewLen∧c.Old+c.OldLen≤m∧c.New+c.NewLen≤n
 | [],i,j,h,c,hc=>by
  unfold L9 at hc
  split at hc
  ·simp only [List.mem_singleton] at hc;subst hc
   have:=h.1;have:=h.2
   simp only;omega
  ·cases hc
 | x::r,i,j,h,c,hc=>by
  unfold L9 at hc
  obtain ⟨h1,h2,h3⟩:=h
  have h4:=h3.le
  rcases List.mem_append.1 hc with hc | hc
  ·split at hc
   ·simp only [List.mem_singleton] at hc;subst hc
    simp only;omega
   ·cases hc
  ·have:=Asc.made h3 c hc;omega
theorem D62 (i j m:Int) (l:List Change) (h:∀c∈l,i+1≤c.Old) (hm:l=[]→i+1≤m):J9 i j l m=⟨i,j⟩::J9 (i+1) (j+1) l m:=by
 cases l with
 | nil =>
  have:=hm rfl
  rw [J9,J9,show (m - i).toNat=(m - (i+1)).toNat+1 by omega,A55]
 | cons c r =>
  have:=h c (List.mem_cons_self ..)
  rw [J9,J9,show (c.Old - i).toNat=(c.Old - (i+1)).toNat+1 by omega,A55]
  rw [show max (i+1) c.Old=max i c.Old by omega,show (j+1+((c.Old - (i+1)).toNat:Int))=j+(((c.Old - (i+1)).toNat+1:Nat):Int) by omega]
  rfl
theorem C22 {m n:Int}:∀{p:List Span} {i j:Int},Asc m n i j p→J9 i j (L9 i j p m n) m=p
 | [],i,j,h=>by
  have h1:=h.1;have h2:=h.2
  unfold L9
  split
  ·rw [J9,J9,show (i - i).toNat=0 by omega,show (m - (max i i+(m - i))).toNat=0 by omega];rfl
  ·rw [J9,show (m - i).toNat=0 by omega];rfl
 | x::r,i,j,h=>by
  obtain ⟨h1,h2,h3⟩:=h
  have ih:=C22 h3
  have hm:=h3.le
  have hd:=D62 x.From x.To m (L9 (x.From+1) (x.To+1) r m n) (fun c hc=>(h3.made c hc).1) (fun _=>hm.1)
  rw [ih] at hd
  unfold L9
  split
  ·rw [J53,J9,show (i - i).toNat=0 by omega,show max i i+(x.From - i)=x.From by omega,show j+((0:Nat):Int)+(x.To - j)=x.To by omega,hd];rfl
  ·have e1:i=x.From:=by omega
   have e2:j=x.To:=by omega
   rw [J38,e1,e2,hd]
theorem A58 (a b:List Int):O9 (J5 a b) a.length=F3 0 0 a b:=by
 have:=T3 a b 0 0
 rw [Int.zero_add,Int.zero_add] at this
 exact C22 this
theorem A59 (a b:List Int):∀c∈J5 a b,0≤c.Old∧0≤c.New∧0≤c.OldLen∧0≤c.NewLen∧c.Old+c.OldLen≤a.length∧c.New+c.NewLen≤b.length:=by
 have:=T3 a b 0 0
 rw [Int.zero_add,Int.zero_add] at this
 exact this.made
def G3 (p:Int):Int:=IntKind.u32.wrap (1*2 ^ (min (IntKind.u64.wrap p).toNat IntKind.u32.bits))
def I8 (a b:Int):Int:=IntKind.u32.wrap ((BitVec.ofInt IntKind.u32.bits a ||| BitVec.ofInt IntKind.u32.bits b).toNat:Int)
def N5 (l:List Merged) (list:List Int) (bit:Int) (i j:Nat):List Span→List Merged
 | []=>(l.drop i).take (l.length - i)++((list.drop j).take (list.length - j)).map fun v=>⟨v,bit⟩
 | x::r=>(l.drop i).take (x.From.toNat - i)++(((list.drop j).take (x.To.toNat - j)).map fun v=>⟨v,bit⟩)++((l[x.From.toNat]?.map fun y=>(⟨y.Line,I8 y.Parents bit⟩:Merged)).toList++N5 l list bit (x.From.toNat+1) (x.To.toNat+1) r)
def O8 (l:List Merged) (list:List Int) (p:Int):List Merged:=N5 l list (G3 p) 0 0 (F3 0 0 (E9 l) list)
theorem z7 {α:Type} (l:List α) (i t:Nat) (h:i+t < l.length):(l.drop i).take (t+1)=(l.drop i).take t++[l[i+t]]:=by
 rw [List.take_add_one,J44,J05 h];rfl
theorem B68 (l:List Merged) (list:List Int) (bit:Int):∀(p:List Span) (i j:Nat),(N5 l list bit i j p).length≤l.length*(p.length+1)+list.length*(p.length+1)+p.length
 | [],i,j=>by simp [N5];omega
 | x::r,i,j=>by
  have:=B68 l list bit r (x.From.toNat+1) (x.To.toNat+1)
  have h1:((l.drop i).take (x.From.toNat - i)).length≤l.length:=by simp;omega
  have h2:((list.drop j).take (x.To.toNat - j)).length≤list.length:=by simp;omega
  have h3:((l[x.From.toNat]?.map fun y=>(⟨y.Line,I8 y.Parents bit⟩:Merged)).toList).length≤1:=by cases l[x.From.toNat]?<;>simp
  simp only [N5,J06,J21,J07,Nat.mul_add,Nat.mul_one] at *
  omega
end Go.AL
namespace Go.AL
open Go
def V0 (m:Int) (c:Nat):Bool:=m / 2 ^ c % 2 == 1
def U4 (r:Row) (c:Int):Bool:=if c = -1 then !r.Lost else if c < -1∨32≤c then false else V0 r.Marks c.toNat == r.Lost
def J0 (rows:List Row) (c:Int):List Str:=(rows.filter (U4 · c)).map (·.Text)
def R8 (n:Nat) (r:Row):Bool:=r.Marks / 2 ^ n == 0&&!(r.Lost&&r.Marks == 0)
def M3 (rows:List Row) (n:Nat):Bool:=rows.all (R8 n)
def S7 (rows:List Row) (n:Nat):Bool:=rows.all (fun r=>I5 r.Text)&&(List.range (n+1)).all fun k=>U3 (J0 rows ((k:Int) - 1))
def I2 (t:Table):Int:=if t.Parents < 1∨32 < t.Parents then 2 else if M3 t.Rows t.Parents.toNat=false then 180 else if S7 t.Rows t.Parents.toNat=false then 4 else 0
theorem A60 (r:Row) (rs:List Row) (n:Nat):M3 (r::rs) n=(R8 n r&&M3 rs n):=rfl
def K4 (rows:List Row):Prop:=∀r∈rows,0≤r.Marks∧r.Marks < 4294967296
def O0 (rows:List Row):Nat:=(rows.map (·.Text)).flatten.length
theorem B45 (rows:List Row) (c:Int):(J0 rows c).length≤rows.length:=by unfold J0;rw [J21];exact List.length_filter_le _ _
theorem G89 (rows:List Row) (c:Int):(J0 rows c).flatten.length≤O0 rows:=by
 unfold J0 O0
 induction rows with
 | nil=>simp
 | cons r rs ih =>
  rw [J47]
  split
  ·simp only [J16,J24,J06];omega
  ·simp only [J16,J24,J06];omega
theorem H91 (rows:List Row) (c:Int):∀s∈J0 rows c,∃r∈rows,r.Text=s:=by
 intro s hs
 unfold J0 at hs
 obtain ⟨r,hr,rfl⟩:=List.mem_map.1 hs
 exact ⟨r,(List.mem_filter.1 hr).1,rfl⟩
theorem C23 (rows:List Row):∀r∈rows,r.Text.length≤O0 rows:=by
 intro r hr
 unfold O0
 exact (List.sublist_flatten_of_mem (List.mem_map_of_mem hr)).length_le
theorem C24 (x:Int) (h:0≤x∧x < 4294967296):IntKind.u32.wrap ((BitVec.ofInt IntKind.u32.bits x &&& BitVec.ofInt IntKind.u32.bits 1).toNat:Int)=x % 2:=by
 have h1:(BitVec.ofInt IntKind.u32.bits x &&& BitVec.ofInt IntKind.u32.bits 1).toNat=x.toNat % 2:=by
  rw [BitVec.toNat_and,BitVec.toNat_ofInt,BitVec.toNat_ofInt]
  have e1:(x % ((2 ^ IntKind.u32.bits:Nat):Int)).toNat=x.toNat:=by
   rw [show ((2 ^ IntKind.u32.bits:Nat):Int)=4294967296 by rfl];omega
  have e2:((1:Int) % ((2 ^ IntKind.u32.bits:Nat):Int)).toNat=1:=by rfl
  rw [e1,e2,Nat.and_one_is_mod]
 rw [h1]
 have h2:IntKind.u32.wrap ((x.toNat % 2:Nat):Int)=((x.toNat % 2:Nat):Int):=by
  simp [IntKind.wrap,IntKind.signed,IntKind.bits];omega
 rw [h2];omega
theorem A61 {n:Int} (h:0≤n∧n < 18446744073709551616):IntKind.u64.wrap n=n:=by simp [IntKind.wrap,IntKind.signed,IntKind.bits];omega
theorem E73 (m c:Int) (hc:0≤c∧c≤32):m.fdiv (2 ^ (min c.toNat IntKind.u32.bits))=m / 2 ^ c.toNat:=by
 rw [show min c.toNat IntKind.u32.bits=c.toNat from Nat.min_eq_left (by show c.toNat≤32;omega),Int.fdiv_eq_ediv_of_nonneg _ (Int.pow_nonneg (by decide))]
theorem shr64' (m c:Int) (hc:0≤c∧c≤64):m.fdiv (2 ^ (min c.toNat IntKind.u64.bits))=m / 2 ^ c.toNat:=by
 rw [show min c.toNat IntKind.u64.bits=c.toNat from Nat.min_eq_left (by show c.toNat≤64;omega),Int.fdiv_eq_ediv_of_nonneg _ (Int.pow_nonneg (by decide))]
theorem shr_eq (m c:Int) (b:Nat) (hc:0≤c∧c≤b):m.fdiv (2 ^ (min c.toNat b))=m / 2 ^ c.toNat:=by
 rw [show min c.toNat b=c.toNat by omega,Int.fdiv_eq_ediv_of_nonneg _ (Int.pow_nonneg (by decide))]
end Go.AL
namespace Go.AL
open Go
theorem D63 (n:Int):0≤IntKind.u32.wrap n∧IntKind.u32.wrap n < 4294967296:=by simp [IntKind.wrap,IntKind.signed,IntKind.bits];omega
def Z4 (a b:Int):Int:=IntKind.u32.wrap ((BitVec.ofInt IntKind.u32.bits a &&& ~~~BitVec.ofInt IntKind.u32.bits b).toNat:Int)
def G6 (acc:List Merged) (p:Nat):List (List Int)→List Merged × Int
 | []=>(acc,0)
 | x::r=>if 4096 < acc.length∨4096 < x.length then ([],1) else G6 (O8 acc x p) (p+1) r
def E3 (lists:List (List Int)):List Merged × Int:=if 32 < lists.length then ([],1) else G6 [] 0 lists
theorem C84 (l:List Merged) (list:List Int) (bit:Int):∀(ps:List Span) (i j:Nat),i≤l.length→j≤list.length→Asc l.length list.length i j ps→(N5 l list bit i j ps).length≤(l.length - i)+(list.length - j)
 | [],i,j,hi,hj,_=>by simp [N5]
 | x::r,i,j,hi,hj,ha=>by
  obtain ⟨h1,h2,h3⟩:=ha
  have h4:=h3.le
  have e1:((x.From.toNat+1:Nat):Int)=x.From+1:=by omega
  have e2:((x.To.toNat+1:Nat):Int)=x.To+1:=by omega
  have ih:=C84 l list bit r (x.From.toNat+1) (x.To.toNat+1) (by omega) (by omega) (by rw [e1,e2];exact h3)
  have h5:((l[x.From.toNat]?.map fun y=>(⟨y.Line,I8 y.Parents bit⟩:Merged)).toList).length≤1:=by cases l[x.From.toNat]?<;>simp
  simp only [N5,J06,J21,J20,J22]
  omega
theorem A12 (l:List Merged) (list:List Int) (p:Int):(O8 l list p).length≤l.length+list.length:=by
 have hasc:=T3 (E9 l) list 0 0
 rw [Int.zero_add,Int.zero_add,show (E9 l).length=l.length by simp [E9]] at hasc
 have:=C84 l list (G3 p) (F3 0 0 (E9 l) list) 0 0 (Nat.zero_le _) (Nat.zero_le _) hasc
 simpa [O8] using this
theorem V6 {α:Type} {l:List α} {i n:Nat} {x:α} (h:x∈(l.drop i).take n):x∈l:=List.mem_of_mem_drop (List.mem_of_mem_take h)
theorem D64 (l:List Merged) (list:List Int) (bit:Int) (hb:0≤bit∧bit < 4294967296) (hl:∀m∈l,0≤m.Parents∧m.Parents < 4294967296) (Q:Int→Prop) (hq1:∀m∈l,Q m.Line) (hq2:∀v∈list,Q v) :
  ∀(ps:List Span) (i j:Nat),∀m∈N5 l list bit i j ps,(0≤m.Parents∧m.Parents < 4294967296)∧Q m.Line
 | [],i,j,m,hm=>by
  rcases List.mem_append.1 hm with h | h
  ·have:=V6 h;exact ⟨hl _ this,hq1 _ this⟩
  ·obtain ⟨v,hv,rfl⟩:=List.mem_map.1 h
   exact ⟨hb,hq2 _ (V6 hv)⟩
 | x :: r,i,j,m,hm=>by
  unfold N5 at hm
  rcases List.mem_append.1 hm with h | h
  ·rcases List.mem_append.1 h with h | h
   ·have:=V6 h;exact ⟨hl _ this,hq1 _ this⟩
   ·obtain ⟨v,hv,rfl⟩:=List.mem_map.1 h
    exact ⟨hb,hq2 _ (V6 hv)⟩
  ·rcases List.mem_append.1 h with h | h
   ·cases hx:l[x.From.toNat]? with
    | none=>simp [hx] at h
    | some y =>
     simp [hx] at h
     subst h
     exact ⟨D63 _,hq1 y (J26 hx)⟩
   ·exact D64 l list bit hb hl Q hq1 hq2 r _ _ m h
theorem A13 (Q:Int→Prop) (B:Nat):∀(ls:List (List Int)) (acc:List Merged) (p:Nat),(∀x∈ls,x.length≤B∧∀v∈x,Q v)→(∀m∈acc,(0≤m.Parents∧m.Parents < 4294967296)∧Q m.Line) →
  (G6 acc p ls).1.length≤acc.length+ls.length*B∧∀m∈(G6 acc p ls).1,(0≤m.Parents∧m.Parents < 4294967296)∧Q m.Line
 | [],acc,p,_,ha=>by simp only [G6];exact ⟨by simp,ha⟩
 | x::r,acc,p,hl,ha=>by
  unfold G6
  split
  ·exact ⟨by simp,by simp⟩
  ·have hx:=hl x (List.mem_cons_self ..)
   have hj:=A12 acc x p
   have hm:=D64 acc x (G3 p) (D63 _) (fun m hm=>(ha m hm).1) Q (fun m hm=>(ha m hm).2) hx.2 (F3 0 0 (E9 acc) x) 0 0
   have ih:=A13 Q B r (O8 acc x p) (p+1) (fun y hy=>hl y (List.mem_cons_of_mem _ hy)) hm
   refine ⟨?_,ih.2⟩
   have h1:=ih.1
   have h2:=hx.1
   simp only [J07,J28,Nat.one_mul]
   omega
theorem p7 (Q:Int→Prop) (B:Nat) (ls:List (List Int)) (h:∀x∈ls,x.length≤B∧∀v∈x,Q v):(E3 ls).1.length≤ls.length*B∧∀m∈(E3 ls).1,(0≤m.Parents∧m.Parents < 4294967296)∧Q m.Line:=by
 unfold E3
 split
 ·exact ⟨by simp,by simp⟩
 ·have:=A13 Q B ls [] 0 h (by simp)
  simpa using this
def K0 (p:Int) (ms:List Int) (x:Span):List Int:=ms.set x.To.toNat (Z4 (ms.getD x.To.toNat 0) (G3 p))
def J2 (p:Nat) (file:List Int) (g:Nat→List (List Int)) (c:Change):Nat→List (List Int):=fun k =>
 if k=c.New.toNat then (g k).set p ((file.drop c.Old.toNat).take ((c.Old+c.OldLen).toNat - c.Old.toNat)) else g k
abbrev Loom:=List Int × (Nat→List (List Int))
def K6 (ids:List (List Int)) (s:Loom) (p:Nat):Loom :=
 let file:=ids.getD (p+1) []
 let sc:=J5 file (ids.getD 0 [])
 ((O9 sc file.length).foldl (K0 p) (s.1.map (I8 · (G3 p))),sc.foldl (J2 p file) s.2)
def r9 (lines n:Nat):Loom:=(List.replicate lines 0,fun _=>List.replicate n [])
def M8 (ids:List (List Int)) (lines n p:Nat):Loom:=(List.range p).foldl (K6 ids) (r9 lines n)
def P0 (names:List Str) (file:List Str) (s:Loom) (k:Nat):List Row :=
 (E3 (s.2 k)).1.map (fun m=>(⟨true,m.Parents,names.getD m.Line.toNat []⟩:Row))++(if k < file.length then [⟨false,s.1.getD k 0,file.getD k []⟩] else [])
def R9 (names:List Str) (file:List Str) (s:Loom) (k:Nat):List Row:=((List.range k).map (P0 names file s)).flatten
def F7 (result:Str) (parents:List Str):Table × Int :=
 if parents.length < 1∨32 < parents.length then (⟨0,[]⟩,2) else
 let fs:=C1 result::parents.map C1
 let names:=E2 fs
 let s:=M8 (fs.map (J3 names)) (C1 result).length parents.length parents.length
 if ∃k,k < (C1 result).length+1∧(E3 (s.2 k)).2≠0 then (⟨0,[]⟩,1) else (⟨parents.length,R9 names (C1 result) s ((C1 result).length+1)⟩,0)
theorem Z8 (names file:List Str) (s:Loom) (k:Nat):R9 names file s (k+1)=R9 names file s k++P0 names file s k:=by
 unfold R9;rw [J45,J19,J33];simp
structure LoomOk (Q:Int→Prop) (B lines n:Nat) (s:Loom):Prop where
 len:s.1.length=lines
 marks:∀m∈s.1,0≤m∧m < 4294967296
 gaps:∀k,(s.2 k).length=n∧∀x∈s.2 k,x.length≤B∧∀v∈x,Q v
theorem I46 (Q:Int→Prop) (B lines n:Nat):LoomOk Q B lines n (r9 lines n) where
 len:=by simp [r9]
 marks:=fun m hm=>by have:=List.eq_of_mem_replicate hm;subst this;decide
 gaps:=fun k=>⟨by simp [r9],fun x hx=>by have:=List.eq_of_mem_replicate hx;subst this;simp⟩
theorem H92 {Q:Int→Prop} {B n p:Nat} {file:List Int} (hf:file.length≤B∧∀v∈file,Q v) {g:Nat→List (List Int)} (hg:∀k,(g k).length=n∧∀x∈g k,x.length≤B∧∀v∈x,Q v) (c:Change) :
  ∀k,(J2 p file g c k).length=n∧∀x∈J2 p file g c k,x.length≤B∧∀v∈x,Q v:=by
 intro k
 unfold J2
 split
 ·refine ⟨by rw [J56];exact (hg k).1,fun x hx=>?_⟩
  rcases List.mem_or_eq_of_mem_set hx with h | rfl
  ·exact (hg k).2 x h
  ·exact ⟨by simp;omega,fun v hv=>hf.2 v (V6 hv)⟩
 ·exact hg k
theorem A62 {Q:Int→Prop} {B n p:Nat} {file:List Int} (hf:file.length≤B∧∀v∈file,Q v):∀(sc:List Change) {g:Nat→List (List Int)},(∀k,(g k).length=n∧∀x∈g k,x.length≤B∧∀v∈x,Q v) →
  ∀k,(sc.foldl (J2 p file) g k).length=n∧∀x∈sc.foldl (J2 p file) g k,x.length≤B∧∀v∈x,Q v
 | [],_,hg=>hg
 | c::r,_,hg=>A62 hf r (H92 hf hg c)
theorem G06 {p:Int} {ms:List Int} {x:Span} (h:∀m∈ms,0≤m∧m < 4294967296):(K0 p ms x).length=ms.length∧∀m∈K0 p ms x,0≤m∧m < 4294967296:=by
 refine ⟨by simp [K0],fun m hm=>?_⟩
 rcases List.mem_or_eq_of_mem_set hm with h' | rfl
 ·exact h m h'
 ·exact D63 _
theorem B15 {p:Int}:∀(ps:List Span) {ms:List Int},(∀m∈ms,0≤m∧m < 4294967296)→(ps.foldl (K0 p) ms).length=ms.length∧∀m∈ps.foldl (K0 p) ms,0≤m∧m < 4294967296
 | [],ms,h=>⟨rfl,h⟩
 | x::r,ms,h=>by
  have h1:=G06 (p:=p) (x:=x) h
  have h2:=B15 (p:=p) r h1.2
  exact ⟨h2.1.trans h1.1,h2.2⟩
theorem E26 {Q:Int→Prop} {B lines n:Nat} {ids:List (List Int)} (hids:∀x∈ids,x.length≤B∧∀v∈x,Q v) {s:Loom} (h:LoomOk Q B lines n s) (p:Nat):LoomOk Q B lines n (K6 ids s p):=by
 have hf:(ids.getD (p+1) []).length≤B∧∀v∈ids.getD (p+1) [],Q v:=by
  rw [J08]
  cases hx:ids[p+1]? with
  | none=>simp
  | some x=>exact hids x (J26 hx)
 have hr:∀m∈s.1.map (I8 · (G3 p)),0≤m∧m < 4294967296:=fun m hm=>by
  obtain ⟨v,_,rfl⟩:=List.mem_map.1 hm;exact D63 _
 have hc:=B15 (p:=p) (O9 (J5 (ids.getD (p+1) []) (ids.getD 0 [])) (ids.getD (p+1) []).length) hr
 exact { len:=by rw [K6];simp only;rw [hc.1,J21];exact h.len,marks:=hc.2,gaps:=A62 hf _ h.gaps }
theorem A14 (ids:List (List Int)) (lines n p:Nat):M8 ids lines n (p+1)=K6 ids (M8 ids lines n p) p:=by
 unfold M8;rw [J45,J34];rfl
theorem x7 {Q:Int→Prop} {B lines n:Nat} {ids:List (List Int)} (hids:∀x∈ids,x.length≤B∧∀v∈x,Q v):∀p,LoomOk Q B lines n (M8 ids lines n p)
 | 0=>I46 Q B lines n
 | p+1=>by rw [A14];exact E26 hids (x7 hids p) p
theorem A63 (l:List Str) (s:Str):∀k:Int,0≤k→s∈l→k≤H1 l s k∧H1 l s k < k+l.length:=by
 induction l with
 | nil=>intro k _ h;cases h
 | cons x r ih =>
  intro k hk h
  unfold H1
  by_cases hx:x=s
  ·rw [if_pos hx];simp;omega
  ·rw [if_neg hx]
   have:=ih (k+1) (by omega) (by rcases List.mem_cons.1 h with rfl | h;exact absurd rfl hx;exact h)
   simp only [J07];omega
theorem D05 (l:List Str):∀(out:List Str) (s:Str),s∈out∨s∈l→s∈l.foldl H8 out:=by
 induction l with
 | nil=>intro out s h;rcases h with h | h;exact h;cases h
 | cons x r ih =>
  intro out s h
  apply ih
  rcases h with h | h
  ·left;unfold H8;split;exact h;exact List.mem_append_left _ h
  ·rcases List.mem_cons.1 h with rfl | h
   ·left;unfold H8;split;assumption;simp
   ·exact .inr h
theorem B16 (fs:List (List Str)) (s:Str) (f:List Str) (hf:f∈fs) (hs:s∈f):s∈E2 fs:=D05 _ _ _ (.inr (List.mem_flatten.2 ⟨f,hf,hs⟩))
theorem G90 (fs:List (List Str)):∀x∈fs.map (J3 (E2 fs)),∀v∈x,0≤v∧v < (E2 fs).length:=by
 intro x hx v hv
 obtain ⟨f,hf,rfl⟩:=List.mem_map.1 hx
 obtain ⟨s,hs,rfl⟩:=List.mem_map.1 hv
 have:=A63 (E2 fs) s 0 (Int.le_refl _) (B16 fs s f hf hs)
 omega
theorem D06 (l:List Str):∀(out:List Str) (s:Str),s∈l.foldl H8 out→s∈out∨s∈l:=by
 induction l with
 | nil=>intro out s h;exact .inl h
 | cons x r ih =>
  intro out s h
  rcases ih _ _ h with h | h
  ·unfold H8 at h
   split at h
   ·exact .inl h
   ·rcases List.mem_append.1 h with h | h
    ·exact .inl h
    ·simp at h;subst h;exact .inr (by simp)
  ·exact .inr (List.mem_cons_of_mem _ h)
theorem C85 (fs:List (List Str)) (s:Str) (h:s∈E2 fs):s∈fs.flatten:=by
 rcases D06 _ _ _ h with h | h
 ·cases h
 ·exact h
end Go.AL
namespace Go.AL
open Go
theorem C25 (s:Str):Lib.hasSuffix s [10]=ended s:=by
 unfold Lib.hasSuffix ended
 rw [Bool.eq_iff_iff,List.isSuffixOf_iff_suffix,beq_iff_eq]
 constructor
 ·rintro ⟨t,rfl⟩;simp
 ·intro h
  obtain ⟨hne,h2⟩:=List.getLast?_eq_some_iff.1 h
  exact ⟨hne,h2.symm⟩
def B17 (s:Str):Str:=if ended s then s.dropLast else s
theorem E27 (s:Str):Lib.trimSuffix s [10]=B17 s:=by
 unfold Lib.trimSuffix B17
 rw [C25,List.dropLast_eq_take];rfl
theorem u5 (c:UInt8):∀l:Str,(c∉l∧Lib.indexByte l c = -1)∨∃a b,l=a++c::b∧c∉a∧Lib.indexByte l c=a.length
 | []=>.inl ⟨by simp,rfl⟩
 | x::l=>by
  unfold Lib.indexByte
  by_cases hx:x=c
  ·exact .inr ⟨[],l,by rw [hx];rfl,by simp,by simp [hx]⟩
  ·rcases u5 c l with ⟨h1,h2⟩ | ⟨a,b,h1,h2,h3⟩
   ·exact .inl ⟨by simp [h1,Ne.symm hx],by simp [hx,h2]⟩
   ·refine .inr ⟨x::a,b,by rw [h1];rfl,by simp [h2,Ne.symm hx],?_⟩
    have h4:¬((a.length:Int) = -1):=by omega
    simp [hx,h3,h4]
theorem E28 (c:UInt8) (l:Str):0≤Lib.indexByte l c↔c∈l:=by
 rcases u5 c l with ⟨h1,h2⟩ | ⟨a,b,h1,h2,h3⟩
 ·rw [h2];simp [h1]
 ·rw [h3,h1];simp
theorem G91 (s:Str):I5 s=true↔s≠[]∧10∉s.dropLast:=by
 unfold I5
 rw [J09,List.all_eq_true]
 constructor
 ·rintro ⟨h1,h2⟩
  exact ⟨by simpa using h2,fun h=>by have:=h1 10 h;simp at this⟩
 ·rintro ⟨h1,h2⟩
  exact ⟨fun x hx=>by simpa using fun e:x=10=>h2 (e ▸ hx),by simpa using h1⟩
theorem I47 (s:Str):10∈B17 s↔10∈s.dropLast:=by
 unfold B17
 split
 ·exact Iff.rfl
 ·rename_i h
  by_cases hs:s=[]
  ·subst hs;simp
  ·constructor
   ·intro h2
    have e:=(List.dropLast_concat_getLast hs).symm
    rw [e] at h2
    rcases List.mem_append.1 h2 with h3 | h3
    ·exact h3
    ·exfalso
     refine h ?_
     unfold ended
     rw [List.getLast?_eq_some_getLast hs]
     simp at h3;simp [←h3]
   ·exact fun h2=>List.dropLast_subset s h2
theorem H93 (s:Str):(if decide (s≠[])=true then !decide (0≤Lib.indexByte (B17 s) 10) else false)=I5 s:=by
 rw [Bool.eq_iff_iff,G91]
 have h:=I47 s
 have h2:=E28 10 (B17 s)
 by_cases hs:s=[]
 ·simp [hs]
 ·simp [hs,h2,h]
theorem C86 (s:Str) (r:List Str):U3 (s::r)=(I5 s&&(r.isEmpty||ended s)&&U3 r):=rfl
def G07 (a b:Int):Int:=IntKind.u32.wrap ((BitVec.ofInt IntKind.u32.bits a &&& BitVec.ofInt IntKind.u32.bits b).toNat:Int)
def not32 (a:Int):Int:=IntKind.u32.wrap ((BitVec.ofInt IntKind.u32.bits IntKind.u32.max ^^^ BitVec.ofInt IntKind.u32.bits a).toNat:Int)
theorem m9 (n c:Nat):V0 (n:Int) c=n.testBit c:=by
 unfold V0
 rw [Nat.testBit_eq_decide_div_mod_eq]
 have:((n:Int) / 2 ^ c % 2 == 1)=decide (n / 2 ^ c % 2=1):=by
  rw [Bool.eq_iff_iff,beq_iff_eq,decide_eq_true_iff]
  have e:(n:Int) / 2 ^ c % 2=((n / 2 ^ c % 2:Nat):Int):=by simp
  rw [e];omega
 exact this
theorem A15 (n:Nat) (h:n < 4294967296):IntKind.u32.wrap (n:Int)=n:=by simp [IntKind.wrap,IntKind.signed,IntKind.bits];omega
theorem C57 (n:Nat):BitVec.ofInt IntKind.u32.bits (n:Int)=BitVec.ofNat 32 n:=BitVec.ofInt_natCast 32 n
theorem H94 (n m:Nat) (hn:n < 4294967296) (hm:m < 4294967296):G07 n m=((n &&& m:Nat):Int):=by
 unfold G07
 rw [C57,C57]
 have e:(BitVec.ofNat 32 n &&& BitVec.ofNat 32 m).toNat=n &&& m:=by
  rw [BitVec.toNat_and,BitVec.toNat_ofNat,BitVec.toNat_ofNat,Nat.mod_eq_of_lt (by omega),Nat.mod_eq_of_lt (by omega)]
 have h2:n &&& m < 2 ^ 32:=Nat.and_lt_two_pow n (by omega)
 show IntKind.u32.wrap ((BitVec.ofNat 32 n &&& BitVec.ofNat 32 m).toNat:Int)=_
 rw [e,A15 _ (by omega)]
theorem B18 (n m:Nat) (hn:n < 4294967296) (hm:m < 4294967296):I8 n m=((n ||| m:Nat):Int)∧n ||| m < 4294967296:=by
 unfold I8
 rw [C57,C57]
 have e:(BitVec.ofNat 32 n ||| BitVec.ofNat 32 m).toNat=n ||| m:=by
  rw [BitVec.toNat_or,BitVec.toNat_ofNat,BitVec.toNat_ofNat,Nat.mod_eq_of_lt (by omega),Nat.mod_eq_of_lt (by omega)]
 have h2:n ||| m < 2 ^ 32:=Nat.or_lt_two_pow (by omega) (by omega)
 refine ⟨?_,by omega⟩
 show IntKind.u32.wrap ((BitVec.ofNat 32 n ||| BitVec.ofNat 32 m).toNat:Int)=_
 rw [e,A15 _ (by omega)]
theorem H95 (n:Nat) (hn:n < 4294967296):not32 n=((4294967295 ^^^ n:Nat):Int)∧4294967295 ^^^ n < 4294967296:=by
 unfold not32
 rw [C57,show IntKind.u32.max=((4294967295:Nat):Int) from rfl,C57]
 have e:(BitVec.ofNat 32 4294967295 ^^^ BitVec.ofNat 32 n).toNat=4294967295 ^^^ n:=by
  rw [BitVec.toNat_xor,BitVec.toNat_ofNat,BitVec.toNat_ofNat,Nat.mod_eq_of_lt (by omega),Nat.mod_eq_of_lt (by omega)]
 have h2:4294967295 ^^^ n < 2 ^ 32:=Nat.xor_lt_two_pow (by omega) (by omega)
 refine ⟨?_,by omega⟩
 show IntKind.u32.wrap ((BitVec.ofNat 32 4294967295 ^^^ BitVec.ofNat 32 n).toNat:Int)=_
 rw [e,A15 _ (by omega)]
theorem I48 (c:Nat) (h:c < 32):(4294967295:Nat).testBit c=true:=by
 have:(4294967295:Nat)=2 ^ 32 - 1:=rfl
 rw [this,Nat.testBit_two_pow_sub_one];simpa using h
def E29 (r:Row):Int:=if r.Lost then r.Marks else not32 r.Marks
def B69 (res:Bool) (par:Int) (r:Row):Bool:=decide (G07 par (E29 r)=0)&&(r.Lost||!res)
def B19 (res:Bool) (r:Row):Bool:=if ended r.Text then res else res||!r.Lost
def B20 (par:Int) (r:Row):Int:=if ended r.Text then par else I8 par (E29 r)
def Q4:Bool→Int→List Row→Bool
 | _,_,[]=>true
 | res,par,r::rs=>I5 r.Text&&B69 res par r&&Q4 (B19 res r) (B20 par r) rs
theorem G08 (r:Row) (hr:0≤r.Marks∧r.Marks < 4294967296):∃m:Nat,m < 4294967296∧E29 r=m∧∀c,c < 32→m.testBit c=U4 r c:=by
 obtain ⟨k,hk⟩:∃k:Nat,r.Marks=k:=⟨r.Marks.toNat,by omega⟩
 have hv:∀c:Nat,c < 32→U4 r c=(k.testBit c == r.Lost):=by
  intro c hc
  rw [U4,if_neg (by omega),if_neg (by omega),hk,J12,m9]
 unfold E29
 cases hl:r.Lost
 ·have:=H95 k (by omega)
  refine ⟨4294967295 ^^^ k,this.2,by rw [if_neg (by simp),hk];exact this.1,fun c hc=>?_⟩
  rw [hv c hc,hl,Nat.testBit_xor,I48 c hc]
  cases k.testBit c<;>rfl
 ·refine ⟨k,by omega,by rw [if_pos rfl];exact hk,fun c hc=>?_⟩
  rw [hv c hc,hl]
  cases k.testBit c<;>rfl
theorem A64 (r:Row):U4 r (-1)=!r.Lost:=by rw [U4,if_pos rfl]
def Y7:Bool→List Str→Bool
 | _,[]=>true
 | b,s::r=>!b&&I5 s&&Y7 (!ended s) r
theorem F31 (l:List Str):Y7 true l=l.isEmpty:=by cases l<;>simp [Y7]
theorem G09 (l:List Str):U3 l=Y7 false l:=by
 induction l with
 | nil=>rfl
 | cons s r ih =>
  rw [C86,ih,Y7]
  cases he:ended s
  ·rw [show (!false)=true from rfl,F31]
   cases r<;>simp [Y7]
  ·simp
structure EndsAt (res:Bool) (par:Int) (bad:Int→Bool):Prop where
 res:res=bad (-1)
 par:∃p:Nat,p < 4294967296∧par=p∧∀c:Nat,c < 32→p.testBit c=bad c
theorem I49 (n m:Nat) (hm:m < 4294967296):n &&& m=0↔∀c,c < 32→m.testBit c=true→n.testBit c=false:=by
 constructor
 ·intro h c hc hm1
  have:(n &&& m).testBit c=false:=by rw [h];simp
  rw [Nat.testBit_and,hm1] at this
  simpa using this
 ·intro h
  refine Nat.eq_of_testBit_eq fun c=>?_
  rw [Nat.testBit_and,Nat.zero_testBit]
  by_cases hc:c < 32
  ·cases hm1:m.testBit c
   ·simp
   ·rw [h c hc hm1];rfl
  ·have:m.testBit c=false:=Nat.testBit_lt_two_pow (Nat.lt_of_lt_of_le (by omega:m < 2 ^ 32) (Nat.pow_le_pow_right (by omega) (by omega)))
   rw [this];simp
theorem H96 {res:Bool} {par:Int} {bad:Int→Bool} (h:EndsAt res par bad) (r:Row) (hr:0≤r.Marks∧r.Marks < 4294967296):B69 res par r=true↔∀c:Int,-1≤c→c < 32→U4 r c=true→bad c=false:=by
 obtain ⟨m,hm,he,hb⟩:=G08 r hr
 obtain ⟨p,hp,hpe,hpb⟩:=h.par
 unfold B69
 rw [he,hpe,H94 p m hp hm,J09,decide_eq_true_iff,show (((p &&& m:Nat):Int)=0)↔p &&& m=0 by omega,I49 p m hm]
 constructor
 ·rintro ⟨h1,h2⟩ c hc1 hc2 hv
  by_cases hc:c = -1
  ·subst hc
   rw [A64] at hv
   rw [←h.res]
   simpa [show r.Lost=false by simpa using hv] using h2
  ·obtain ⟨k,rfl⟩:∃k:Nat,c=k:=⟨c.toNat,by omega⟩
   rw [←hpb k (by omega)]
   exact h1 k (by omega) (by rw [hb k (by omega)];exact hv)
 ·intro h1
  refine ⟨fun c hc hm1=>?_,?_⟩
  ·rw [hpb c hc]
   exact h1 c (by omega) (by omega) (by rw [←hb c hc];exact hm1)
  ·cases hl:r.Lost
   ·have:=h1 (-1) (by omega) (by omega) (by rw [A64,hl];rfl)
    rw [h.res,this];rfl
   ·rfl
theorem H97 {res:Bool} {par:Int} {bad:Int→Bool} (h:EndsAt res par bad) (r:Row) (hr:0≤r.Marks∧r.Marks < 4294967296):EndsAt (B19 res r) (B20 par r) (fun c=>bad c||(U4 r c&&!ended r.Text)):=by
 obtain ⟨m,hm,he,hb⟩:=G08 r hr
 obtain ⟨p,hp,hpe,hpb⟩:=h.par
 unfold B19 B20
 cases hen:ended r.Text
 ·have ho:=B18 p m hp hm
  refine ⟨?_,p ||| m,ho.2,?_,fun c hc=>?_⟩
  ·rw [if_neg (by simp),h.res,A64];simp
  ·rw [if_neg (by simp),he,hpe];exact ho.1
  ·rw [Nat.testBit_or,hpb c hc,hb c hc];simp
 ·refine ⟨?_,p,hp,?_,fun c hc=>?_⟩
  ·rw [if_pos rfl,h.res];simp
  ·rw [if_pos rfl];exact hpe
  ·rw [hpb c hc];simp
theorem B86 (r:Row) (rs:List Row) (c:Int):J0 (r::rs) c=if U4 r c then r.Text::J0 rs c else J0 rs c:=by
 unfold J0
 cases hv:U4 r c<;>simp [hv]
theorem D65:∀(rows:List Row) (res:Bool) (par:Int) (bad:Int→Bool),EndsAt res par bad→K4 rows→(Q4 res par rows=true↔(∀r∈rows,I5 r.Text=true)∧∀c:Int,-1≤c→c < 32→Y7 (bad c) (J0 rows c)=true)
 | [],res,par,bad,_,_=>by simp [Q4,J0,Y7]
 | r :: rs,res,par,bad,h,hr=>by
  have hr1:=hr r (by simp)
  have ih:=D65 rs _ _ _ (H97 h r hr1) (fun x hx=>hr x (by simp [hx]))
  rw [Q4,J09,J09,H96 h r hr1,ih]
  constructor
  ·rintro ⟨⟨h1,h2⟩,h3,h4⟩
   refine ⟨fun x hx=>?_,fun c hc1 hc2=>?_⟩
   ·rcases List.mem_cons.1 hx with rfl | hx
    ·exact h1
    ·exact h3 x hx
   ·have h5:=h4 c hc1 hc2
    rw [B86]
    cases hv:U4 r c
    ·rw [if_neg (by simp)];simpa [hv] using h5
    ·rw [if_pos rfl,Y7,h2 c hc1 hc2 hv,h1]
     rw [h2 c hc1 hc2 hv,hv] at h5
     simpa using h5
  ·rintro ⟨h1,h2⟩
   refine ⟨⟨h1 r (by simp),fun c hc1 hc2 hv=>?_⟩,fun x hx=>h1 x (by simp [hx]),fun c hc1 hc2=>?_⟩
   ·have h3:=h2 c hc1 hc2
    rw [B86,hv,if_pos rfl,Y7] at h3
    simp only [J09,Bool.not_eq_true'] at h3
    exact h3.1.1
   ·have h3:=h2 c hc1 hc2
    rw [B86] at h3
    cases hv:U4 r c
    ·rw [hv,if_neg (by simp)] at h3;simpa using h3
    ·rw [hv,if_pos rfl,Y7] at h3
     simp only [J09,Bool.not_eq_true'] at h3
     rw [h3.1.1];simpa using h3.2
theorem ends0:EndsAt false 0 (fun _=>false):=⟨rfl,0,by omega,rfl,fun c _=>by simp⟩
theorem F32 (m:Int) (n c:Nat) (h0:0≤m) (h:m / 2 ^ n=0) (hc:n≤c):V0 m c=false:=by
 obtain ⟨k,rfl⟩:∃k:Nat,m=k:=⟨m.toNat,by omega⟩
 rw [m9]
 have h1:(k:Int) / 2 ^ n=((k / 2 ^ n:Nat):Int):=by simp
 rw [h1] at h
 have h2:k / 2 ^ n=0:=by omega
 have h3:k < 2 ^ n:=by
  rcases Nat.div_eq_zero_iff.1 h2 with h3 | h3
  ·have:=Nat.two_pow_pos n;omega
  ·exact h3
 exact Nat.testBit_lt_two_pow (Nat.lt_of_lt_of_le h3 (Nat.pow_le_pow_right (by omega) hc))
theorem F33 (rows:List Row) (n:Nat) (hm:M3 rows n=true) (hr:K4 rows) (c:Int) (h1:(n:Int)≤c) (h2:c < 32):J0 rows c=J0 rows (-1):=by
 unfold J0
 have:rows.filter (U4 · c)=rows.filter (U4 · (-1)):=by
  refine List.filter_congr fun r hmem=>?_
  have h3:R8 n r=true:=List.all_eq_true.1 hm r hmem
  unfold R8 at h3
  simp only [J09,beq_iff_eq] at h3
  have h4:=F32 r.Marks n c.toNat (hr r hmem).1 h3.1 (by omega)
  rw [A64,U4,if_neg (by omega),if_neg (by omega),h4]
  cases r.Lost<;>rfl
 rw [this]
theorem D66 (rows:List Row) (n:Nat) (hn:n≤32) (hm:M3 rows n=true) (hr:K4 rows):Q4 false 0 rows=S7 rows n:=by
 rw [Bool.eq_iff_iff,D65 rows false 0 _ ends0 hr,S7,J09,List.all_eq_true,List.all_eq_true]
 refine and_congr Iff.rfl ?_
 constructor
 ·intro h k hk
  have hk:=List.mem_range.1 hk
  rw [G09]
  exact h _ (by omega) (by omega)
 ·intro h c hc1 hc2
  have key:∀c:Int,-1≤c→c < n→Y7 false (J0 rows c)=true:=by
   intro c h1 h2
   have:=h (c+1).toNat (List.mem_range.2 (by omega))
   rw [show (((c+1).toNat:Nat):Int) - 1=c by omega,G09] at this
   exact this
  by_cases hcn:c < n
  ·exact key c hc1 hcn
  ·rw [F33 rows n hm hr c (by omega) hc2]
   exact key (-1) (by omega) (by omega)
end Go.AL
namespace Go.AL
open Go
def C58 (c:UInt8):Bool:=decide (33≤c.toNat∧c.toNat≤126∧c.toNat≠34∧c.toNat≠92)
def digs8:Str:=[48,49,50,51,52,53,54,55]
def G10 (c:UInt8):Str:=(digs8.drop (c.toNat / 64)).take 1++(digs8.drop (c.toNat / 8 % 8)).take 1++(digs8.drop (c.toNat % 8)).take 1
def A35 (c:UInt8):Str:=if c.toNat=34∨c.toNat=92 then [92,c] else if c.toNat=10 then [92,110] else if c.toNat=9 then [92,116] else if c.toNat < 32∨126 < c.toNat then 92::G10 c else [c]
def g9 (s:Str):Str:=if s≠[]∧s.all C58=true then s else 34::((s.map A35).flatten++[34])
theorem H98 (c:UInt8):(G10 c).length≤3:=by unfold G10;simp only [J06,J20];omega
theorem E74 (c:UInt8):(A35 c).length≤4:=by
 have:=H98 c
 unfold A35;split
 ·simp
 ·split
  ·simp
  ·split
   ·simp
   ·split
    ·simp only [J07];omega
    ·simp
theorem C26 (s:Str):((s.map A35).flatten).length≤4*s.length:=by
 induction s with
 | nil=>simp
 | cons c r ih=>have:=E74 c;simp only [J16,J24,J06,J07];omega
theorem G11 (s:Str):(g9 s).length≤4*s.length+2:=by
 unfold g9;have:=C26 s
 split
 ·omega
 ·simp only [J07,J06,J10];omega
def A88 (n:Int):Str:=if n < 0∨2147483647 < n then [] else Lib.itoa n
def U5 (a n:Int):Str:=if a < 0∨n < 0∨2147483647 < a∨2147483647 - a < n then [] else if n=0 then A88 a++[44,48] else if n=1 then A88 (a+1) else A88 (a+1)++[44]++A88 n
theorem B70:∀(k u:Nat),u < 10 ^ (k+1)→(Lib.decDigits u).length≤k+1
 | 0,u,h=>by rw [Lib.decDigits,dif_pos (by omega)];simp
 | k+1,u,h=>by
  rw [Lib.decDigits]
  split
  ·simp
  ·have:=B70 k (u / 10) (by rw [Nat.div_lt_iff_lt_mul (by omega)];rw [Nat.pow_succ] at h;omega)
   simp only [J06,J07,J10];omega
theorem n4 (n:Int):(A88 n).length≤10:=by
 unfold A88;split
 ·simp
 ·unfold Lib.itoa
  rw [if_neg (by omega)]
  exact B70 9 n.toNat (by omega)
theorem B21 (a n:Int):(U5 a n).length≤21:=by
 have:=n4 a;have:=n4 (a+1);have:=n4 n
 unfold U5
 split
 ·simp
 ·split
  ·simp only [J06,J07,J10];omega
  ·split
   ·omega
   ·simp only [J06,J07,J10];omega
theorem dig8 (k:Nat) (h:k < 8):(digs8.drop k).take 1=[UInt8.ofNat (48+k)]:=by
 have:∀k:Fin 8,(digs8.drop k.1).take 1=[UInt8.ofNat (48+k.1)]:=by decide
 exact this ⟨k,h⟩
theorem G12 (c:UInt8):G10 c=[UInt8.ofNat (48+c.toNat / 64),UInt8.ofNat (48+c.toNat / 8 % 8),UInt8.ofNat (48+c.toNat % 8)]:=by
 have:=c.toNat_lt
 unfold G10
 rw [dig8 _ (by omega),dig8 _ (by omega),dig8 _ (by omega)];rfl
def escs (s:Str) (i:Nat):Str:=((s.take i).map A35).flatten
theorem H99 (s:Str) (i:Nat) (h:i < s.length):escs s (i+1)=escs s i++A35 s[i]:=by
 unfold escs;rw [J13 h,J19,J33];simp only [J16,J40,J24,J55,J25]
theorem I50 (s:Str) (i:Nat) (h:i≤s.length):(escs s i).length≤4*i:=by
 have:=C26 (s.take i);unfold escs;rw [J20] at this;omega
def plains (s:Str) (i:Nat):Bool:=decide (s≠[])&&(s.take i).all C58
theorem G13 (s:Str):plains s 0=decide (s≠[]):=by simp [plains]
theorem G14 (s:Str) (i:Nat) (h:i < s.length):plains s (i+1)=(plains s i&&C58 s[i]):=by
 unfold plains;rw [J13 h,J57];simp only [List.all_cons,List.all_nil,Bool.and_true,Bool.and_assoc]
theorem D67 (s:Str):g9 s=if plains s s.length=true then s else (34::escs s s.length)++[34]:=by
 unfold g9 plains escs
 rw [J23]
 simp only [J09,decide_eq_true_eq,J49]
end Go.AL
namespace Go.AL
open Go
def O1 (cur:Str):Str→List Str
 | []=>[cur]
 | c::r=>if c=10 then (cur++[c])::O1 [] r else O1 (cur++[c]) r
def Q5 (b:Str):List Str:=O1 [] b
theorem E30 (a cur:Str) (h:(10:UInt8)∉a):O1 cur a=[cur++a]:=by
 induction a generalizing cur with
 | nil=>simp [O1]
 | cons c r ih =>
  simp only [J46,not_or] at h
  rw [O1,if_neg (fun e=>h.1 e.symm),ih _ h.2];simp
theorem F34 (a b cur:Str) (h:(10:UInt8)∉a):O1 cur (a++10::b)=(cur++a++[10])::O1 [] b:=by
 induction a generalizing cur with
 | nil=>simp [O1]
 | cons c r ih =>
  simp only [J46,not_or] at h
  rw [J49,O1,if_neg (fun e=>h.1 e.symm),ih _ h.2];simp
theorem W7 (s cur:Str):(O1 cur s).length=s.count 10+1:=by
 induction s generalizing cur with
 | nil=>rfl
 | cons c r ih =>
  by_cases hc:c=10
  ·subst hc;rw [O1,if_pos rfl,J07,ih,List.count_cons_self]
  ·rw [O1,if_neg hc,ih,List.count_cons_of_ne hc]
theorem G15 (s cur:Str):I0 cur s=if (O1 cur s).getLastD []=[] then (O1 cur s).dropLast else O1 cur s:=by
 induction s generalizing cur with
 | nil=>by_cases h:cur=[]<;>simp [I0,O1,h]
 | cons c r ih =>
  rw [I0,O1]
  by_cases hc:c=10
  ·rw [if_pos hc,if_pos hc,ih]
   have hn:O1 [] r≠[]:=fun e=>by have:=W7 r [];rw [e] at this;simp at this
   obtain ⟨x,y,hxy⟩:=List.exists_cons_of_ne_nil hn
   rw [hxy]
   have e1:((cur++[c])::x::y).getLastD []=(x::y).getLastD []:=by cases y<;>simp [List.getLastD]
   rw [e1]
   split
   ·rfl
   ·rfl
  ·rw [if_neg hc,if_neg hc,ih]
theorem D68 (s cur:Str):(I0 cur s).length=s.count 10+if s=[] then (if cur=[] then 0 else 1) else if ended s=true then 0 else 1:=by
 induction s generalizing cur with
 | nil=>by_cases h:cur=[]<;>simp [I0,h]
 | cons c r ih =>
  have he:ended (c::r)=if r=[] then c == 10 else ended r:=by
   cases r with
   | nil=>simp [ended]
   | cons d t=>simp [ended,List.getLast?_cons_cons]
  rw [I0,if_neg (List.cons_ne_nil _ _),he]
  by_cases hc:c=10
  ·subst hc
   rw [if_pos rfl,J07,ih,List.count_cons_self]
   by_cases hr:r=[]<;>simp [hr]
   omega
  ·rw [if_neg hc,ih,List.count_cons_of_ne hc]
   by_cases hr:r=[]<;>simp [hr,hc]
theorem E31 (s:Str):(C1 s).length=s.count 10+if s≠[]∧ended s=false then 1 else 0:=by
 unfold C1
 rw [D68]
 by_cases hs:s=[]<;>simp [hs]
 cases ended s<;>simp
theorem G92 {P:List Str} {i:Nat} {r a b:Str} (h:P.drop i=Q5 r) (hr:r=a++10::b) (ha:(10:UInt8)∉a):P[i]?=some (a++[10])∧P.drop (i+1)=Q5 b:=by
 have e:Q5 r=(a++[10])::Q5 b:=by rw [hr];unfold Q5;rw [F34 _ _ _ ha];rfl
 rw [e] at h
 refine ⟨by rw [←List.head?_drop,h];rfl,?_⟩
 rw [←List.tail_drop,h];rfl
theorem E75 {α:Type} (P:List α) (z x:α) (i:Nat) (h:P[i]?=some x):(P.take i++List.replicate (P.length - i) z).set i x=P.take (i+1)++List.replicate (P.length - (i+1)) z:=by
 obtain ⟨hi,hx⟩:=List.getElem?_eq_some_iff.1 h
 have hl:(P.take i).length=i:=by rw [J20];omega
 rw [List.set_append_right _ _ (by omega),hl,Nat.sub_self,show P.length - i=(P.length - (i+1))+1 by omega,List.replicate_succ,List.set_cons_zero,J13 hi,hx,J17]
 rfl
def B46 (b:Str):List Str × Int:=if b.length > 1048576∨(C1 b).length > 4096 then ([],1) else (C1 b,0)
end Go.AL
namespace Go.AL
open Go
def M5 (n:Int):Prop:=0≤n∧n≤4096
instance (n:Int):Decidable (M5 n):=by unfold M5;exact inferInstance
def F35 (k:Nat) (i j:Int) (c:Change):Prop:=((((((¬M5 c.Old∨¬M5 c.OldLen)∨¬M5 c.New)∨¬M5 c.NewLen)∨c.OldLen+c.NewLen=0)∨c.Old - i≠c.New - j)∨c.Old < i)∨(0 < (k:Int)∧c.Old=i)
instance (k:Nat) (i j:Int) (c:Change):Decidable (F35 k i j c):=by unfold F35;exact inferInstance
def K8 (k:Nat) (i j:Int):List Change→Int→Int→Bool
 | [],m,n=>decide (¬(m - i≠n - j∨m < i))
 | c::r,m,n=>decide (¬F35 k i j c)&&K8 (k+1) (c.Old+c.OldLen) (c.New+c.NewLen) r m n
def check8 (l:List Change) (m n:Int):Int:=if ¬M5 m∨¬M5 n then 80 else if K8 0 0 0 l m n=true then 0 else 80
def ScOk (i j:Int):List Change→Int→Int→Prop
 | [],m,n=>i≤m∧j≤n
 | c::r,m,n=>M5 c.Old∧M5 c.OldLen∧M5 c.New∧M5 c.NewLen∧i≤c.Old∧j≤c.New∧ScOk (c.Old+c.OldLen) (c.New+c.NewLen) r m n
theorem A16:∀(l:List Change) (k:Nat) (i j m n:Int),K8 k i j l m n=true→ScOk i j l m n
 | [],k,i,j,m,n,h=>by simp only [K8,decide_eq_true_eq] at h;simp only [ScOk];omega
 | c::r,k,i,j,m,n,h=>by
  simp only [K8,J09,decide_eq_true_eq] at h
  obtain ⟨h1,h2⟩:=h
  unfold F35 at h1
  refine ⟨?_,?_,?_,?_,?_,?_,A16 r _ _ _ m n h2⟩
  all_goals (by_cases a1:M5 c.Old<;>by_cases a2:M5 c.OldLen<;>by_cases a3:M5 c.New<;>by_cases a4:M5 c.NewLen<;>simp [a1,a2,a3,a4] at h1 ⊢<;>omega)
def cAt (l:List Change) (k:Nat):Change:=l.getD k ⟨0,0,0,0⟩
theorem ScOk.end_le:∀{l:List Change} {i j m n:Int},ScOk i j l m n→i≤m∧j≤n
 | [],_,_,_,_,h=>h
 | c::r,i,j,m,n,⟨h1,h2,h3,h4,h5,h6,h7⟩=>by have:=h7.end_le;unfold M5 at *;omega
theorem ScOk.get:∀{l:List Change} {i j m n:Int} (k:Nat),ScOk i j l m n→k < l.length→M5 (cAt l k).Old∧M5 (cAt l k).OldLen∧M5 (cAt l k).New∧M5 (cAt l k).NewLen∧(cAt l k).Old+(cAt l k).OldLen≤m∧(cAt l k).New+(cAt l k).NewLen≤n
 | c::r,i,j,m,n,0,⟨h1,h2,h3,h4,h5,h6,h7⟩,_=>by have:=h7.end_le;exact ⟨h1,h2,h3,h4,this.1,this.2⟩
 | c::r,i,j,m,n,k+1,⟨h1,h2,h3,h4,h5,h6,h7⟩,hk=>by
  have:=h7.get k (by simpa using hk)
  simpa [cAt] using this
theorem ScOk.next:∀{l:List Change} {i j m n:Int} (k:Nat),ScOk i j l m n→k+1 < l.length→(cAt l k).Old+(cAt l k).OldLen≤(cAt l (k+1)).Old
 | [c],_,_,_,_,_,_,hk=>by simp at hk
 | c::c2::r,i,j,m,n,0,⟨_,_,_,_,_,_,h7⟩,_=>by simpa [cAt] using h7.2.2.2.2.1
 | c::c2::r,i,j,m,n,k+1,⟨_,_,_,_,_,_,h7⟩,hk=>by
  have:=h7.next k (by simpa using hk)
  simpa [cAt] using this
theorem ScOk.mono {l:List Change} {m n:Int} (h:ScOk 0 0 l m n):∀(a b:Nat),a≤b→b < l.length→(cAt l a).Old≤(cAt l b).Old∧(cAt l a).Old+(cAt l a).OldLen≤(cAt l b).Old+(cAt l b).OldLen
 | a,0,h1,h2=>by rw [show a=0 by omega];omega
 | a,b+1,h1,h2=>by
  by_cases hab:a=b+1
  ·subst hab;omega
  ·have h3:=h.mono a b (by omega) (by omega)
   have h4:=h.next b h2
   have h5:=h.get b (by omega)
   have h6:=h.get (b+1) h2
   unfold M5 at *;omega
def F36 (a b:Int):Int:=if b < a then b else a
def opens (l:List Change) (ctx:Int) (k:Nat):Prop:=k=0∨2*ctx < (cAt l k).Old - (cAt l (k - 1)).Old - (cAt l (k - 1)).OldLen
instance (l:List Change) (ctx:Int) (k:Nat):Decidable (opens l ctx k):=by unfold opens;exact inferInstance
def H36:Hunk:=⟨0,0,⟨0,0⟩,⟨0,0⟩⟩
def A36 (l:List Change) (ctx:Int) (k:Nat):Hunk:=⟨k,0,⟨(cAt l k).Old - F36 ctx (cAt l k).Old,0⟩,⟨(cAt l k).New - F36 ctx (cAt l k).Old,0⟩⟩
def C27 (l:List Change) (m ctx:Int) (k:Nat) (h:Hunk):Hunk :=
 let c:=cAt l k
 let a:=F36 ctx (m - (c.Old+c.OldLen))
 ⟨h.First,k+1,⟨h.Old.From,c.Old+c.OldLen+a⟩,⟨h.New.From,c.New+c.NewLen+a⟩⟩
def C59 (l:List Change) (ctx:Int) (k:Nat) (out:List Hunk):List Hunk:=if opens l ctx k then out++[A36 l ctx k] else out
def W0 (l:List Change) (m ctx:Int):Nat→List Hunk
 | 0=>[]
 | k+1=>let out:=C59 l ctx k (W0 l m ctx k);out.set (out.length - 1) (C27 l m ctx k (out.getD (out.length - 1) H36))
theorem C87 (l:List Change) (m ctx:Int):∀k,(W0 l m ctx k).length≤k∧(0 < k→0 < (W0 l m ctx k).length)
 | 0=>by simp [W0]
 | k+1=>by
  have h:=C87 l m ctx k
  simp only [W0,J56,C59]
  split
  ·simp only [J06,J07,J10];omega
  ·rename_i ho
   have:k≠0:=fun e=>ho (.inl e)
   omega
end Go.AL
namespace Go.AL
open Go
def S0 (s:Str):Bool:=decide (1≤s.length∧s.length≤200)
def H5 (ls:List PatchLine) (k:UInt8):List Str:=(ls.filter (fun x=>decide (x.Kind≠k))).map (·.Text)
def badLn (x:PatchLine):Prop:=((x.Kind≠32∧x.Kind≠45)∧x.Kind≠43)∨I5 x.Text=false
instance (x:PatchLine):Decidable (badLn x):=by unfold badLn;exact inferInstance
def B87 (x:PatchLine):Bool:=decide (¬badLn x)
def A25 (ls:List PatchLine):Bool:=ls.any (fun x=>decide (x.Kind≠32))
def C28 (some:Bool) (i j:Int) (h:PatchHunk):Prop:=((((some=false∨h.Old < i)∨h.New < j)∨4096 < h.Old)∨4096 < h.New)∨h.Old - i≠h.New - j
instance (s:Bool) (i j:Int) (h:PatchHunk):Decidable (C28 s i j h):=by unfold C28;exact inferInstance
def B55 (h:PatchHunk):Int:=(H5 h.Lines 43).length
def B56 (h:PatchHunk):Int:=(H5 h.Lines 45).length
def C60 (i j:Int):List PatchHunk→Bool
 | []=>true
 | h::r=>h.Lines.all B87&&(decide (¬C28 (A25 h.Lines) i j h)&&(decide (¬(4096 < h.Old+B55 h∨4096 < h.New+B56 h))&&C60 (h.Old+B55 h) (h.New+B56 h) r))
def N0 (hs:List PatchHunk) (k:UInt8):List Str:=(hs.map (fun h=>H5 h.Lines k)).flatten
def R2:List Str→Bool
 | []=>true
 | x::r=>(r.isEmpty||ended x)&&R2 r
def G93 (hs:List PatchHunk) (k:UInt8):Bool:=R2 (N0 hs k)
def C61 (hs:List PatchHunk):Bool:=C60 0 0 hs&&(G93 hs 43&&G93 hs 45)
def markS:Str:=[10,92,32,78,111,32,110,101,119,108,105,110,101,32,97,116,32,101,110,100,32,111,102,32,102,105,108,101,10]
def linePs (x:PatchLine):List Str:=if ended x.Text then [[x.Kind]++x.Text] else [[x.Kind]++x.Text,markS]
def headW (h:PatchHunk):Str:=[64,64,32,45]++U5 h.Old (B55 h)++[32,43]++U5 h.New (B56 h)++[32,64,64,10]
def hunkPs (h:PatchHunk):List Str:=headW h::(h.Lines.map linePs).flatten
def namePs (p:Patch):List Str:=[[45,45,45,32]++g9 p.OldName++[10],[43,43,43,32]++g9 p.NewName++[10]]
def writePs (p:Patch):List Str:=namePs p++(p.Hunks.map hunkPs).flatten
def H37 (p:Patch):Str:=(writePs p).flatten
def C29 (p:Patch):Int:=if S0 p.OldName=false∨S0 p.NewName=false then 120 else if C61 p.Hunks=false then 121 else if 16777216 < (H37 p).length then 1 else 0
def szL (x:PatchLine):Nat:=x.Text.length+64
def szH (h:PatchHunk):Nat:=64+(h.Lines.map szL).sum
def szP (hs:List PatchHunk):Nat:=(hs.map szH).sum
structure PFit (p:Patch):Prop where
 old:p.OldName.length≤4194304
 new:p.NewName.length≤4194304
 hunks:szP p.Hunks≤268435456
theorem szL_len (ls:List PatchLine):64*ls.length≤(ls.map szL).sum:=by
 induction ls with
 | nil=>simp
 | cons x r ih=>simp only [J16,J39,J07,szL];omega
end Go.AL
namespace Go.AL
open Go
def A17 (k:UInt8) (ts:List Str):List PatchLine:=ts.map fun t=>⟨k,t⟩
def sub (x:List Str) (a b:Int):List Str:=(x.drop a.toNat).take (b.toNat - a.toNat)
def A92 (c:Change):Int:=c.Old+c.OldLen
def A18 (l:List Change) (i0:Int) (a t:Nat):Int:=if t=0 then i0 else A92 (cAt l (a+t - 1))
theorem G94 (l:List Change) (i0:Int) (a t:Nat):A18 l i0 a (t+1)=A92 (cAt l (a+t)):=by
 unfold A18;rw [if_neg (by omega)];congr 2
def u6 (l:List Change) (x y:List Str) (i0:Int) (a:Nat):Nat→List PatchLine
 | 0=>[]
 | t+1=>u6 l x y i0 a t++A17 32 (sub x (A18 l i0 a t) (cAt l (a+t)).Old)++A17 45 (sub x (cAt l (a+t)).Old (A92 (cAt l (a+t))))++A17 43 (sub y (cAt l (a+t)).New ((cAt l (a+t)).New+(cAt l (a+t)).NewLen))
def Y8 (l:List Change) (x y:List Str) (h:Hunk):PatchHunk :=
 ⟨h.Old.From,h.New.From,u6 l x y h.Old.From h.First.toNat (h.Last.toNat - h.First.toNat)++A17 32 (sub x (A18 l h.Old.From h.First.toNat (h.Last.toNat - h.First.toNat)) h.Old.To)⟩
end Go.AL
namespace Go.AL
open Go
end Go.AL
namespace Go.AL
open Go
def G16 (i j:Int) (h:PatchHunk):Prop:=((((h.Old < 0∨h.New < 0)∨4096 < h.Old)∨4096 < h.New)∨h.Old < i)∨h.Old - i≠h.New - j
instance (i j:Int) (h:PatchHunk):Decidable (G16 i j h):=by unfold G16;exact inferInstance
end Go.AL
namespace Go.AL
open Go
theorem textsLen_le (rows:List Row) (B:Nat) (h:∀r∈rows,r.Text.length≤B):O0 rows≤rows.length*B:=by
 unfold O0
 induction rows with
 | nil=>simp
 | cons r rs ih =>
  have h1:=ih fun x hx=>h x (by simp [hx])
  have h2:=h r (by simp)
  simp only [J16,J24,J06,J07,J28,Nat.one_mul]
  omega
theorem G17 (b s:Str) (h:s∈C1 b):s.length≤b.length:=by
 have h1:(C1 b).flatten=b:=by
  have key:∀(s cur:Str),(I0 cur s).flatten=cur++s:=by
   intro s
   induction s with
   | nil=>intro cur;unfold I0;split<;>simp [*]
   | cons c r ih=>intro cur;unfold I0;split<;>simp [ih]
  exact key b []
 have h2:∀(l:List Str),s∈l→s.length≤l.flatten.length:=by
  intro l
  induction l with
  | nil=>intro h;cases h
  | cons x r ih =>
   intro h
   rcases List.mem_cons.1 h with rfl | h
   ·simp
   ·have:=ih h;simp only [J24,J06];omega
 have:=h2 _ h;rw [h1] at this;exact this
end Go.AL
namespace Go.AL
open Go
theorem D16 {x:List Str} {a b:Int} {s:Str} (h:s∈sub x a b):s∈x:=by
 unfold sub at h
 exact List.mem_of_mem_drop (List.mem_of_mem_take h)
end Go.AL
namespace Go.AL
open Go
end Go.AL
namespace Go.AL
open Go
def F37 (c:Change):Int:=c.New+c.NewLen
def eoI (i:Int) (l:List Change) (k:Nat):Int:=if k=0 then i else A92 (cAt l (k - 1))
def enI (j:Int) (l:List Change) (k:Nat):Int:=if k=0 then j else F37 (cAt l (k - 1))
theorem s5 (i:Int) (c:Change) (r:List Change) (k:Nat):eoI i (c::r) (k+1)=eoI (A92 c) r k:=by
 cases k<;>rfl
theorem s6 (j:Int) (c:Change) (r:List Change) (k:Nat):enI j (c::r) (k+1)=enI (F37 c) r k:=by
 cases k<;>rfl
theorem B22 (i:Int) (l:List Change) (k:Nat):eoI i l (k+1)=A92 (cAt l k):=rfl
theorem B23 (j:Int) (l:List Change) (k:Nat):enI j l (k+1)=F37 (cAt l k):=rfl
theorem C30 (c:Change) (r:List Change) (k:Nat):cAt (c::r) (k+1)=cAt r k:=rfl
def C62 (x y:List Str) (i j:Int):List Change→Prop
 | []=>sub x i x.length=sub y j y.length
 | c::r=>sub x i c.Old=sub y j c.New∧C62 x y (A92 c) (F37 c) r
theorem z8 (m n:Int):∀(l:List Change) (k0:Nat) (i j:Int),K8 k0 i j l m n=true→∀k,k < l.length →
  M5 (cAt l k).Old∧M5 (cAt l k).OldLen∧M5 (cAt l k).New∧M5 (cAt l k).NewLen∧(cAt l k).OldLen+(cAt l k).NewLen≠0∧(cAt l k).Old - eoI i l k=(cAt l k).New - enI j l k∧eoI i l k≤(cAt l k).Old∧(0 < k0+k→eoI i l k < (cAt l k).Old)
 | [],_,_,_,_,k,hk=>by simp at hk
 | c :: r,k0,i,j,h,k,hk=>by
  simp only [K8,J09,decide_eq_true_eq] at h
  obtain ⟨h1,h2⟩:=h
  cases k with
  | zero =>
   unfold F35 at h1
   show M5 c.Old∧M5 c.OldLen∧M5 c.New∧M5 c.NewLen∧c.OldLen+c.NewLen≠0∧c.Old - i=c.New - j∧i≤c.Old∧(0 < k0+0→i < c.Old)
   have d1:M5 c.Old:=by by_cases q:M5 c.Old;exact q;exact absurd (.inl (.inl (.inl (.inl (.inl (.inl (.inl q))))))) h1
   have d2:M5 c.OldLen:=by by_cases q:M5 c.OldLen;exact q;exact absurd (.inl (.inl (.inl (.inl (.inl (.inl (.inr q))))))) h1
   have d3:M5 c.New:=by by_cases q:M5 c.New;exact q;exact absurd (.inl (.inl (.inl (.inl (.inl (.inr q)))))) h1
   have d4:M5 c.NewLen:=by by_cases q:M5 c.NewLen;exact q;exact absurd (.inl (.inl (.inl (.inl (.inr q))))) h1
   refine ⟨d1,d2,d3,d4,fun q=>h1 (.inl (.inl (.inl (.inr q)))),?_,?_,fun h0=>?_⟩
   ·by_cases q:c.Old - i=c.New - j
    ·exact q
    ·exact absurd (.inl (.inl (.inr q))) h1
   ·by_cases q:c.Old < i
    ·exact absurd (.inl (.inr q)) h1
    ·omega
   ·by_cases q:c.Old < i
    ·exact absurd (.inl (.inr q)) h1
    ·by_cases q2:c.Old=i
     ·exact absurd (.inr ⟨by omega,q2⟩) h1
     ·omega
  | succ k =>
   have:=z8 m n r (k0+1) _ _ h2 k (by simpa using hk)
   rw [C30,s5,s6]
   obtain ⟨e1,e2,e3,e4,e5,e6,e7,e8⟩:=this
   exact ⟨e1,e2,e3,e4,e5,e6,e7,fun h0=>e8 (by omega)⟩
theorem G95 (m n:Int):∀(l:List Change) (k0:Nat) (i j:Int),K8 k0 i j l m n=true→m - eoI i l l.length=n - enI j l l.length∧eoI i l l.length≤m
 | [],_,i,j,h=>by
  simp only [K8,decide_eq_true_eq] at h
  show m - i=n - j∧i≤m
  omega
 | c::r,k0,i,j,h=>by
  simp only [K8,J09,decide_eq_true_eq] at h
  rw [J07,s5,s6]
  exact G95 m n r _ _ _ h.2
theorem F38 (x y:List Str):∀(l:List Change) (i j:Int),C62 x y i j l→∀k,k < l.length→sub x (eoI i l k) (cAt l k).Old=sub y (enI j l k) (cAt l k).New
 | [],_,_,_,k,hk=>by simp at hk
 | c::r,i,j,h,k,hk=>by
  cases k with
  | zero=>exact h.1
  | succ k=>rw [s5,s6,C30];exact F38 x y r _ _ h.2 k (by simpa using hk)
theorem G96 (x y:List Str):∀(l:List Change) (i j:Int),C62 x y i j l→sub x (eoI i l l.length) x.length=sub y (enI j l l.length) y.length
 | [],_,_,h=>h
 | c::r,i,j,h=>by rw [J07,s5,s6];exact G96 x y r _ _ h.2
def mkH (l:List Change) (m ctx:Int) (a b:Nat):Hunk:=C27 l m ctx (b - 1) (A36 l ctx a)
def GrOk (l:List Change) (m ctx:Int):Nat→List Hunk→Nat→Prop
 | a,[],k=>a=k
 | a,h::r,k=>∃b,a < b∧opens l ctx a∧h=mkH l m ctx a b∧GrOk l m ctx b r k
theorem GrOk.le {l:List Change} {m ctx:Int}:∀{hs:List Hunk} {a k:Nat},GrOk l m ctx a hs k→a≤k
 | [],a,k,h=>Nat.le_of_eq h
 | _::_,a,k,⟨b,h1,_,_,h2⟩=>by have:=GrOk.le h2;omega
theorem GrOk.snoc {l:List Change} {m ctx:Int} {k:Nat} (ho:opens l ctx k):∀{hs:List Hunk} {a:Nat},GrOk l m ctx a hs k→GrOk l m ctx a (hs++[mkH l m ctx k (k+1)]) (k+1)
 | [],a,h=>by
  obtain rfl:a=k:=h
  exact ⟨a+1,by omega,ho,rfl,rfl⟩
 | _::_,a,⟨b,h1,h2,h3,h4⟩=>⟨b,h1,h2,h3,GrOk.snoc ho h4⟩
theorem GrOk.last {l:List Change} {m ctx:Int} {k:Nat}:∀{hs:List Hunk} {a:Nat},GrOk l m ctx a hs k→hs≠[]→GrOk l m ctx a (hs.set (hs.length - 1) (C27 l m ctx k (hs.getD (hs.length - 1) H36))) (k+1)
 | [],_,_,h0=>absurd rfl h0
 | [h],a,⟨b,h1,h2,h3,h4⟩,_=>by
  obtain rfl:b=k:=h4
  subst h3
  exact ⟨b+1,by omega,h2,rfl,rfl⟩
 | h::h'::r,a,⟨b,h1,h2,h3,h4⟩,_=>by
  have ih:=GrOk.last h4 (by simp)
  refine ⟨b,h1,h2,h3,?_⟩
  simpa using ih
theorem A65 (l:List Change) (m ctx:Int):∀k,GrOk l m ctx 0 (W0 l m ctx k) k
 | 0=>rfl
 | k+1=>by
  have ih:=A65 l m ctx k
  have hne:=(C87 l m ctx k).2
  simp only [W0,C59]
  by_cases ho:opens l ctx k
  ·rw [if_pos ho]
   have e:(W0 l m ctx k++[A36 l ctx k]).set ((W0 l m ctx k++[A36 l ctx k]).length - 1) (C27 l m ctx k ((W0 l m ctx k++[A36 l ctx k]).getD ((W0 l m ctx k++[A36 l ctx k]).length - 1) H36))=W0 l m ctx k++[mkH l m ctx k (k+1)]:=by
    simp [mkH]
   rw [e]
   exact ih.snoc ho
  ·rw [if_neg ho]
   refine ih.last ?_
   have:k≠0:=fun e=>ho (.inl e)
   have:=hne (by omega)
   intro e;rw [e] at this;simp at this
theorem A66 (x:List Str) {a b c:Int} (h0:0≤a) (h1:a≤b) (h2:b≤c):sub x a b++sub x b c=sub x a c:=by
 unfold sub
 obtain ⟨u,rfl⟩:∃u:Nat,(u:Int)=a:=⟨a.toNat,by omega⟩
 obtain ⟨v,rfl⟩:∃v:Nat,(v:Int)=b:=⟨b.toNat,by omega⟩
 obtain ⟨w,rfl⟩:∃w:Nat,(w:Int)=c:=⟨c.toNat,by omega⟩
 simp only [J12]
 have h3:x.drop v=(x.drop u).drop (v - u):=by rw [List.drop_drop];congr 1;omega
 rw [h3,show w - u=(v - u)+(w - v) by omega,List.take_add]
theorem H38 (x:List Str) (a:Int):sub x a a=[]:=by simp [sub]
theorem A67 (x:List Str) {a b:Int} (h0:0≤a) (h1:a≤b) (h2:b≤x.length):((sub x a b).length:Int)=b - a:=by
 unfold sub;rw [J20,J22];omega
theorem D69 {x y:List Str} {p q p' q' e:Int} (h:sub x p q=sub y p' q') (h0:0≤p) (h0':0≤p') (he:0≤e) (h1:e≤q - p) (h2:q - p=q' - p'):sub x (q - e) q=sub y (q' - e) q':=by
 have key:∀(z:List Str) (a b:Int),0≤a→e≤b - a→sub z (b - e) b=(sub z a b).drop (b - a - e).toNat:=by
  intro z a b ha hb
  unfold sub
  rw [List.drop_take,List.drop_drop]
  congr 1
  ·omega
  ·congr 1;omega
 rw [key x p q h0 h1,key y p' q' h0' (by omega),h,h2]
theorem G18 {x y:List Str} {p q p' q' e:Int} (h:sub x p q=sub y p' q') (h0:0≤p) (h0':0≤p') (he:0≤e) (h1:e≤q - p) (h2:q - p=q' - p'):sub x p (p+e)=sub y p' (p'+e):=by
 have key:∀(z:List Str) (a b:Int),0≤a→e≤b - a→sub z a (a+e)=(sub z a b).take e.toNat:=by
  intro z a b ha hb
  unfold sub
  rw [List.take_take]
  congr 1
  omega
 rw [key x p q h0 h1,key y p' q' h0' (by omega),h]
theorem A68 (p q:List PatchLine) (k:UInt8):H5 (p++q) k=H5 p k++H5 q k:=by simp [H5]
theorem A69 (k k':UInt8) (ts:List Str):H5 (A17 k ts) k'=if k=k' then [] else ts:=by
 unfold H5 A17
 by_cases h:k=k'
 ·rw [if_pos h];subst h
  simp [List.filter_eq_nil_iff]
 ·rw [if_neg h]
  rw [List.filter_eq_self.2 (by simp [h])]
  simp [Function.comp_def]
structure ScFit (x y:List Str) (l:List Change):Prop where
 lx:(x.length:Int)≤4096
 ly:(y.length:Int)≤4096
 sc:K8 0 0 0 l x.length y.length=true
 eq:C62 x y 0 0 l
section
variable {x y:List Str} {l:List Change}
theorem ScFit.ok (h:ScFit x y l):ScOk 0 0 l x.length y.length:=A16 _ _ _ _ _ _ h.sc
theorem ScFit.check (h:ScFit x y l):check8 l x.length y.length=0:=by
 have h1:=h.lx
 have h2:=h.ly
 unfold check8
 rw [if_neg (by unfold M5;omega),if_pos h.sc]
theorem ScFit.nn (h:ScFit x y l) (k:Nat) (hk:k≤l.length):0≤eoI 0 l k∧0≤enI 0 l k∧eoI 0 l k≤x.length∧enI 0 l k≤y.length:=by
 cases k with
 | zero=>exact ⟨Int.le_refl _,Int.le_refl _,Int.natCast_nonneg _,Int.natCast_nonneg _⟩
 | succ k =>
  obtain ⟨⟨a1,a2⟩,⟨b1,b2⟩,⟨c1,c2⟩,⟨d1,d2⟩,h5,h6⟩:=h.ok.get k (by omega)
  rw [B22,B23];unfold A92 F37
  omega
def eA (l:List Change) (ctx:Int) (a:Nat):Int:=F36 ctx (cAt l a).Old
def eB (l:List Change) (m ctx:Int) (b:Nat):Int:=F36 ctx (m - eoI 0 l b)
theorem H39 {a b:Int} (h:0≤a) (h':0≤b):0≤F36 a b∧F36 a b≤a∧F36 a b≤b:=by unfold F36;split<;>omega
theorem C63 {ctx:Int} {a:Nat} (ho:opens l ctx a) (ha:a≠0):2*ctx < (cAt l a).Old - eoI 0 l a:=by
 rcases ho with h | h
 ·exact absurd h ha
 ·unfold eoI;rw [if_neg ha];unfold A92;omega
theorem ScFit.before (h:ScFit x y l) {ctx:Int} (hc:0≤ctx) {a:Nat} (ha:a < l.length) (ho:opens l ctx a) :
  0≤eA l ctx a∧eA l ctx a≤ctx∧eA l ctx a≤(cAt l a).Old - eoI 0 l a:=by
 obtain ⟨⟨a1,a2⟩,_⟩:=h.ok.get a ha
 have h3:=H39 hc a1
 unfold eA
 by_cases h0:a=0
 ·subst h0
  show _∧_∧_≤(cAt l 0).Old - 0
  omega
 ·have:=C63 ho h0;omega
theorem ScFit.after (h:ScFit x y l) {ctx:Int} (hc:0≤ctx) {b:Nat} (hb:b≤l.length) (ho:b < l.length→opens l ctx b) (hb0:b≠0) :
  0≤eB l x.length ctx b∧eB l x.length ctx b≤ctx∧eoI 0 l b+eB l x.length ctx b≤x.length∧enI 0 l b+eB l x.length ctx b≤y.length ∧
   sub x (eoI 0 l b) (eoI 0 l b+eB l x.length ctx b)=sub y (enI 0 l b) (enI 0 l b+eB l x.length ctx b):=by
 obtain ⟨h1,h2,h3,h4⟩:=h.nn b hb
 have h5:=H39 hc (show 0≤(x.length:Int) - eoI 0 l b by omega)
 unfold eB
 rcases Nat.lt_or_ge b l.length with hlt | hge
 ·obtain ⟨g1,g2,g3,g4,g5,g6,g7,g8⟩:=z8 _ _ _ _ _ _ h.sc b hlt
  obtain ⟨⟨a1,a2⟩,⟨b1,b2⟩,⟨c1,c2⟩,⟨d1,d2⟩,k5,k6⟩:=h.ok.get b hlt
  have hg:=C63 (ho hlt) hb0
  refine ⟨h5.1,h5.2.1,by omega,by omega,G18 (F38 x y l 0 0 h.eq b hlt) h1 h2 h5.1 (by omega) (by omega)⟩
 ·have e:b=l.length:=by omega
  subst e
  obtain ⟨g1,g2⟩:=G95 _ _ _ _ _ _ h.sc
  refine ⟨h5.1,h5.2.1,by omega,by omega,G18 (G96 x y l 0 0 h.eq) h1 h2 h5.1 (by omega) (by omega)⟩
def F39 (l:List Change) (j0:Int) (a t:Nat):Int:=if t=0 then j0 else F37 (cAt l (a+t - 1))
theorem D70 (i0:Int) (a t:Nat) (ht:t≠0):A18 l i0 a t=eoI 0 l (a+t):=by
 unfold A18 eoI;rw [if_neg ht,if_neg (by omega)]
theorem H40 (j0:Int) (a t:Nat) (ht:t≠0):F39 l j0 a t=enI 0 l (a+t):=by
 unfold F39 enI;rw [if_neg ht,if_neg (by omega)]
theorem ScFit.made (h:ScFit x y l) {ctx:Int} (hc:0≤ctx) {a:Nat} (ho:opens l ctx a):∀t,a+t≤l.length→(t=0→a < l.length) →
  H5 (u6 l x y ((cAt l a).Old - eA l ctx a) a t) 43=sub x ((cAt l a).Old - eA l ctx a) (A18 l ((cAt l a).Old - eA l ctx a) a t) ∧
  H5 (u6 l x y ((cAt l a).Old - eA l ctx a) a t) 45=sub y ((cAt l a).New - eA l ctx a) (F39 l ((cAt l a).New - eA l ctx a) a t)
 | 0,_,_=>by
  unfold A18 F39
  rw [if_pos rfl,if_pos rfl,H38,H38]
  exact ⟨rfl,rfl⟩
 | t + 1,hl,_=>by
  have hlt:a+t < l.length:=by omega
  have hla:a < l.length:=by omega
  obtain ⟨ih1,ih2⟩:=ScFit.made h hc ho t (by omega) (fun _=>hla)
  obtain ⟨q1,q2,q3⟩:=h.before hc hla ho
  obtain ⟨p1,p2,p3,p4⟩:=h.nn (a+t) (by omega)
  obtain ⟨r1,r2,r3,r4⟩:=h.nn a (by omega)
  obtain ⟨g1,g2,g3,g4,g5,g6,g7,g8⟩:=z8 _ _ _ _ _ _ h.sc (a+t) hlt
  obtain ⟨k1,⟨k2,k2'⟩,k3,⟨k4,k4'⟩,k5,k6,k7,k8⟩:=z8 _ _ _ _ _ _ h.sc a hla
  obtain ⟨⟨a1,a2⟩,⟨b1,b2⟩,⟨c1,c2⟩,⟨d1,d2⟩,w5,w6⟩:=h.ok.get (a+t) hlt
  have hrun:sub x (A18 l ((cAt l a).Old - eA l ctx a) a t) (cAt l (a+t)).Old=sub y (F39 l ((cAt l a).New - eA l ctx a) a t) (cAt l (a+t)).New ∧
    (cAt l a).Old - eA l ctx a≤A18 l ((cAt l a).Old - eA l ctx a) a t∧A18 l ((cAt l a).Old - eA l ctx a) a t≤(cAt l (a+t)).Old ∧
    (cAt l a).New - eA l ctx a≤F39 l ((cAt l a).New - eA l ctx a) a t∧F39 l ((cAt l a).New - eA l ctx a) a t≤(cAt l (a+t)).New:=by
   have hrun:=F38 x y l 0 0 h.eq (a+t) hlt
   by_cases ht:t=0
   ·subst ht
    unfold A18 F39
    rw [if_pos rfl,if_pos rfl]
    rw [show a+0=a from rfl] at *
    exact ⟨D69 hrun r1 r2 q1 (by omega) (by omega),by omega,by omega,by omega,by omega⟩
   ·rw [D70 _ _ _ ht,H40 _ _ _ ht]
    have m1:=h.ok.mono a (a+t - 1) (by omega) (by omega)
    have m2:eoI 0 l (a+t)=(cAt l (a+t - 1)).Old+(cAt l (a+t - 1)).OldLen:=by unfold eoI;rw [if_neg (by omega)];rfl
    have m4:∀u,u≤t→(cAt l a).New≤enI 0 l (a+u)∨u=0:=by
     intro u
     induction u with
     | zero=>exact fun _=>.inr rfl
     | succ u ihu =>
      intro hu
      obtain ⟨e1,e2,⟨e3,e3'⟩,⟨e4,e4'⟩,e5,e6,e7,e8⟩:=z8 _ _ _ _ _ _ h.sc (a+u) (by omega)
      have e9:enI 0 l (a+(u+1))=(cAt l (a+u)).New+(cAt l (a+u)).NewLen:=rfl
      rcases ihu (by omega) with h' | h'
      ·left;omega
      ·left;subst h';rw [e9];show (cAt l a).New≤(cAt l a).New+(cAt l a).NewLen;exact Int.le_add_of_nonneg_right e4
    have m5:=(m4 t (Nat.le_refl _)).resolve_right ht
    refine ⟨hrun,by omega,by omega,by omega,by omega⟩
  obtain ⟨hr1,hr2,hr3,hr4,hr5⟩:=hrun
  simp (decide:=true) only [u6,A68,A69,ih1,ih2,if_true,if_false,J25]
  have e1:A18 l ((cAt l a).Old - eA l ctx a) a (t+1)=A92 (cAt l (a+t)):=G94 _ _ _ _
  have e2:F39 l ((cAt l a).New - eA l ctx a) a (t+1)=F37 (cAt l (a+t)):=rfl
  rw [e1,e2]
  have s0:0≤(cAt l a).Old - eA l ctx a:=by omega
  have s1:0≤(cAt l a).New - eA l ctx a:=by omega
  refine ⟨?_,?_⟩
  ·rw [A66 x s0 hr2 hr3,A66 x s0 (by omega) (by unfold A92;omega)]
  ·rw [hr1,A66 y s1 hr4 hr5]
   exact A66 y s1 (by omega) (by omega)
end
end Go.AL
namespace Go.AL
open Go
section
variable {x y:List Str} {l:List Change}
structure HunkIs (x y:List Str) (l:List Change) (ctx:Int) (a b:Nat) (h:PatchHunk):Prop where
 old:h.Old=(cAt l a).Old - eA l ctx a
 new:h.New=(cAt l a).New - eA l ctx a
 o0:0≤h.Old
 n0:0≤h.New
 oe:h.Old+B55 h=eoI 0 l b+eB l x.length ctx b
 ne:h.New+B56 h=enI 0 l b+eB l x.length ctx b
 ox:h.Old+B55 h≤x.length
 ny:h.New+B56 h≤y.length
 ol:H5 h.Lines 43=sub x h.Old (h.Old+B55 h)
 nl:H5 h.Lines 45=sub y h.New (h.New+B56 h)
 ch:A25 h.Lines=true
 gl:(∀s∈x,I5 s=true)→(∀s∈y,I5 s=true)→h.Lines.all B87=true
theorem D71 (p q:List PatchLine):A25 (p++q)=(A25 p||A25 q):=by simp [A25]
theorem D72 {k:UInt8} {ts:List Str} (hk:k≠32) (h:ts≠[]):A25 (A17 k ts)=true:=by
 cases ts with
 | nil=>exact absurd rfl h
 | cons t ts=>simp [A25,A17,hk]
theorem A70 {k:UInt8} {ts:List Str} (hk:k=32∨k=45∨k=43) (h:∀t∈ts,I5 t=true):(A17 k ts).all B87=true:=by
 rw [List.all_eq_true]
 intro q hq
 unfold A17 at hq
 obtain ⟨t,ht,rfl⟩:=List.mem_map.1 hq
 unfold B87
 refine decide_eq_true ?_
 rintro (⟨⟨h1,h2⟩,h3⟩ | h1)
 ·rcases hk with e | e | e
  ·exact h1 e
  ·exact h2 e
  ·exact h3 e
 ·rw [show (PatchLine.mk k t).Text=t from rfl,h t ht] at h1;cases h1
theorem C88 (hx:∀s∈x,I5 s=true) (hy:∀s∈y,I5 s=true) (i0:Int) (a:Nat):∀t,(u6 l x y i0 a t).all B87=true
 | 0=>rfl
 | t+1=>by
  simp only [u6,J57,C88 hx hy i0 a t,Bool.true_and,J09]
  exact ⟨⟨A70 (.inl rfl) (fun s hs=>hx s (D16 hs)),A70 (.inr (.inl rfl)) (fun s hs=>hx s (D16 hs))⟩,A70 (.inr (.inr rfl)) (fun s hs=>hy s (D16 hs))⟩
theorem ScFit.hunk (h:ScFit x y l) {ctx:Int} (hc:0≤ctx) {a b:Nat} (hab:a < b) (hb:b≤l.length) (ho:opens l ctx a) (hob:b < l.length→opens l ctx b) :
  HunkIs x y l ctx a b (Y8 l x y (mkH l x.length ctx a b)):=by
 have hla:a < l.length:=by omega
 obtain ⟨q1,q2,q3⟩:=h.before hc hla ho
 obtain ⟨w1,w2,w3,w4,w5⟩:=h.after hc hb hob (by omega)
 obtain ⟨m1,m2⟩:=h.made hc ho (b - a) (by omega) (fun e=>by omega)
 rw [D70 _ _ _ (by omega)] at m1
 rw [H40 _ _ _ (by omega)] at m2
 rw [show a+(b - a)=b by omega] at m1 m2
 obtain ⟨r1,r2,r3,r4⟩:=h.nn a (by omega)
 obtain ⟨s1,s2,s3,s4⟩:=h.nn b hb
 obtain ⟨k1,⟨k2,k2'⟩,k3,⟨k4,k4'⟩,k5,k6,k7,k8⟩:=z8 _ _ _ _ _ _ h.sc a hla
 have hlb:b - 1 < l.length:=by omega
 obtain ⟨g1,⟨g2,g2'⟩,g3,⟨g4,g4'⟩,g5,g6,g7,g8⟩:=z8 _ _ _ _ _ _ h.sc (b - 1) hlb
 have eo:eoI 0 l b=(cAt l (b - 1)).Old+(cAt l (b - 1)).OldLen:=by unfold eoI;rw [if_neg (by omega)];rfl
 have en:enI 0 l b=(cAt l (b - 1)).New+(cAt l (b - 1)).NewLen:=by unfold enI;rw [if_neg (by omega)];rfl
 have mo:=h.ok.mono a (b - 1) (by omega) (by omega)
 have mn:(cAt l a).New≤enI 0 l b:=by
  have m4:∀u,a+u≤l.length→(cAt l a).New≤enI 0 l (a+u)∨u=0:=by
   intro u
   induction u with
   | zero=>exact fun _=>.inr rfl
   | succ u ihu =>
    intro hu
    obtain ⟨e1,e2,⟨e3,e3'⟩,⟨e4,e4'⟩,e5,e6,e7,e8⟩:=z8 _ _ _ _ _ _ h.sc (a+u) (by omega)
    have e9:enI 0 l (a+(u+1))=(cAt l (a+u)).New+(cAt l (a+u)).NewLen:=rfl
    rcases ihu (by omega) with h' | h'
    ·left;omega
    ·left;subst h';rw [e9];show (cAt l a).New≤(cAt l a).New+(cAt l a).NewLen;exact Int.le_add_of_nonneg_right e4
  have:=(m4 (b - a) (by omega)).resolve_right (by omega)
  rwa [show a+(b - a)=b by omega] at this
 have hF:(mkH l x.length ctx a b).First.toNat=a:=by show ((a:Int)).toNat=a;omega
 have hL:(mkH l x.length ctx a b).Last.toNat - (mkH l x.length ctx a b).First.toNat=b - a:=by
  show (((b - 1:Nat):Int)+1).toNat - ((a:Int)).toNat=b - a;omega
 have hOF:(mkH l x.length ctx a b).Old.From=(cAt l a).Old - eA l ctx a:=rfl
 have hNF:(mkH l x.length ctx a b).New.From=(cAt l a).New - eA l ctx a:=rfl
 have hOT:(mkH l x.length ctx a b).Old.To=eoI 0 l b+eB l x.length ctx b:=by
  unfold eB;rw [eo];rfl
 obtain ⟨P,hP⟩:∃P,P=Y8 l x y (mkH l x.length ctx a b):=⟨_,rfl⟩
 have hPl:P.Lines=u6 l x y ((cAt l a).Old - eA l ctx a) a (b - a)++A17 32 (sub x (eoI 0 l b) (eoI 0 l b+eB l x.length ctx b)):=by
  rw [hP];unfold Y8
  show u6 l x y _ (mkH l x.length ctx a b).First.toNat ((mkH l x.length ctx a b).Last.toNat - (mkH l x.length ctx a b).First.toNat)++A17 32 (sub x (A18 l _ (mkH l x.length ctx a b).First.toNat ((mkH l x.length ctx a b).Last.toNat - (mkH l x.length ctx a b).First.toNat)) _)=_
  rw [hL,hF,hOF,hOT,D70 _ _ _ (by omega),show a+(b - a)=b by omega]
 have hPO:P.Old=(cAt l a).Old - eA l ctx a:=by rw [hP];rfl
 have hPN:P.New=(cAt l a).New - eA l ctx a:=by rw [hP];rfl
 have h43:H5 P.Lines 43=sub x ((cAt l a).Old - eA l ctx a) (eoI 0 l b+eB l x.length ctx b):=by
  rw [hPl,A68,A69,if_neg (by decide),m1]
  exact A66 x (by omega) (by omega) (by omega)
 have h45:H5 P.Lines 45=sub y ((cAt l a).New - eA l ctx a) (enI 0 l b+eB l x.length ctx b):=by
  rw [hPl,A68,A69,if_neg (by decide),m2,w5]
  exact A66 y (by omega) (by omega) (by omega)
 have hon:B55 P=eoI 0 l b+eB l x.length ctx b - ((cAt l a).Old - eA l ctx a):=by
  unfold B55;rw [h43];exact A67 x (by omega) (by omega) (by omega)
 have hnn:B56 P=enI 0 l b+eB l x.length ctx b - ((cAt l a).New - eA l ctx a):=by
  unfold B56;rw [h45];exact A67 y (by omega) (by omega) (by omega)
 rw [←hP]
 refine ⟨hPO,hPN,by omega,by omega,by omega,by omega,by omega,by omega,?_,?_,?_,?_⟩
 ·rw [h43];congr 1
  ·exact hPO.symm
  ·omega
 ·rw [h45];congr 1
  ·exact hPN.symm
  ·omega
 ·rw [hPl,D71]
  have e:u6 l x y ((cAt l a).Old - eA l ctx a) a (b - a)=u6 l x y ((cAt l a).Old - eA l ctx a) a (b - 1 - a+1):=by congr 1;omega
  rw [e]
  simp only [u6,D71]
  rw [show a+(b - 1 - a)=b - 1 by omega]
  have key:A25 (A17 45 (sub x (cAt l (b - 1)).Old (A92 (cAt l (b - 1)))))=true∨A25 (A17 43 (sub y (cAt l (b - 1)).New ((cAt l (b - 1)).New+(cAt l (b - 1)).NewLen)))=true:=by
   obtain ⟨g3a,g3b⟩:=g3
   obtain ⟨g1a,g1b⟩:=g1
   by_cases h0:(cAt l (b - 1)).OldLen=0
   ·right
    refine D72 (by decide) fun e0=>?_
    have:=A67 y (a:=(cAt l (b - 1)).New) (b:=(cAt l (b - 1)).New+(cAt l (b - 1)).NewLen) g3a (by omega) (by omega)
    rw [e0] at this;simp at this;omega
   ·left
    refine D72 (by decide) fun e0=>?_
    have:=A67 x (a:=(cAt l (b - 1)).Old) (b:=A92 (cAt l (b - 1))) g1a (by unfold A92;omega) (by unfold A92;omega)
    rw [e0] at this;unfold A92 at this;simp at this;omega
  rcases key with e1 | e1<;>rw [e1]<;>simp
 ·intro hx hy
  rw [hPl,J57,C88 hx hy,Bool.true_and]
  exact A70 (.inl rfl) (fun s hs=>hx s (D16 hs))
theorem ScFit.hunks (h:ScFit x y l) {ctx:Int} (hc:0≤ctx) (hx:∀s∈x,I5 s=true) (hy:∀s∈y,I5 s=true):∀(hs:List Hunk) (a:Nat),GrOk l x.length ctx a hs l.length →
  ∀(i j e:Int),i=eoI 0 l a+e→j=enI 0 l a+e→0≤e→e≤ctx→(a=0→e=0) →
  C60 i j (hs.map (Y8 l x y))=true∧(N0 (hs.map (Y8 l x y)) 43).Sublist (x.drop i.toNat)∧(N0 (hs.map (Y8 l x y)) 45).Sublist (y.drop j.toNat) ∧
   ∀p∈hs.map (Y8 l x y),(p.Old+B55 p≤x.length∧p.New+B56 p≤y.length∧0≤p.Old∧0≤p.New)∧H5 p.Lines 43=sub x p.Old (p.Old+B55 p)∧H5 p.Lines 45=sub y p.New (p.New+B56 p)
 | [],a,_,i,j,e,_,_,_,_,_=>⟨rfl,by simp [N0],by simp [N0],by simp⟩
 | hk::hs,a,⟨b,hab,ho,hE,hr⟩,i,j,e,hi,hj,he,hec,he0=>by
  have hb:=hr.le
  have hob:b < l.length→opens l ctx b:=by
   intro hlt
   cases hs with
   | nil=>exact absurd hr (by show ¬b=l.length;omega)
   | cons h2 hs2=>obtain ⟨_,_,ho2,_⟩:=hr;exact ho2
  obtain ⟨w1,w2,w3,w4,w5⟩:=h.after hc hb hob (by omega)
  obtain ⟨q1,q2,q3⟩:=h.before hc (show a < l.length by omega) ho
  have H:=h.hunk hc hab hb ho hob
  rw [←hE] at H
  obtain ⟨P,hP⟩:∃P,P=Y8 l x y hk:=⟨_,rfl⟩
  rw [←hP] at H
  obtain ⟨i1,i2,i3,i4⟩:=ScFit.hunks h hc hx hy hs b hr (P.Old+B55 P) (P.New+B56 P) (eB l x.length ctx b) H.oe H.ne w1 w2 (by omega)
  obtain ⟨k1,⟨k2,k2'⟩,k3,⟨k4,k4'⟩,k5,k6,k7,k8⟩:=z8 _ _ _ _ _ _ h.sc a (show a < l.length by omega)
  have h1:=H.old
  have h2:=H.new
  have h3:=H.o0
  have h4:=H.n0
  have h5:=H.ox
  have h6:=H.ny
  have h7:=h.lx
  have h8:=h.ly
  have n1:0≤B55 P:=by unfold B55;omega
  have n2:0≤B56 P:=by unfold B56;omega
  have hgap:e+eA l ctx a≤(cAt l a).Old - eoI 0 l a:=by
   by_cases h0:a=0
   ·have:=he0 h0;omega
   ·have:=C63 ho h0;omega
  obtain ⟨r1,r2,r3,r4⟩:=h.nn a (by omega)
  have hij:i≤P.Old∧j≤P.New∧P.Old - i=P.New - j∧0≤i∧0≤j:=by omega
  have hsub:∀(z:List Str) (i f t:Int),0≤i→i≤f→f≤t→∀r:List Str,r.Sublist (z.drop t.toNat)→(sub z f t++r).Sublist (z.drop i.toNat):=by
   intro z i f t h0 h1 h2 r hr
   have e1:z.drop f.toNat=sub z f t++z.drop t.toNat:=by
    unfold sub
    rw [show t.toNat=f.toNat+(t.toNat - f.toNat) by omega,←List.drop_drop,show f.toNat+(t.toNat - f.toNat) - f.toNat=t.toNat - f.toNat by omega,J43]
   have e2:z.drop f.toNat=(z.drop i.toNat).drop (f.toNat - i.toNat):=by rw [List.drop_drop];congr 1;omega
   refine List.Sublist.trans ?_ (List.drop_sublist (f.toNat - i.toNat) (z.drop i.toNat))
   rw [←e2,e1]
   exact List.Sublist.append_left hr _
  have key:∀(k:UInt8),N0 ((hk::hs).map (Y8 l x y)) k=H5 P.Lines k++N0 (hs.map (Y8 l x y)) k:=by
   intro k;rw [hP];simp [N0]
  refine ⟨?_,?_,?_,?_⟩
  ·rw [J16,←hP]
   simp only [C60,H.gl hx hy,i1,Bool.and_true,Bool.true_and,J09,decide_eq_true_eq]
   refine ⟨?_,by omega⟩
   unfold C28
   rw [H.ch]
   rintro (((((e0 | e0) | e0) | e0) | e0) | e0)
   ·cases e0
   all_goals omega
  ·rw [key,H.ol]
   exact hsub x i P.Old (P.Old+B55 P) hij.2.2.2.1 hij.1 (by omega) _ i2
  ·rw [key,H.nl]
   exact hsub y j P.New (P.New+B56 P) hij.2.2.2.2 hij.2.1 (by omega) _ i3
  ·rw [J16,←hP]
   intro p hp
   rcases List.mem_cons.1 hp with rfl | hp
   ·exact ⟨⟨h5,h6,h3,h4⟩,H.ol,H.nl⟩
   ·exact i4 p hp
theorem A71:∀{s z:List Str},s.Sublist z→R2 z=true→R2 s=true:=by
 intro s z hs
 induction hs with
 | slnil=>exact fun h=>h
 | cons a _ ih =>
  intro h
  simp only [R2,J09] at h
  exact ih h.2
 | cons_cons a hs2 ih =>
  intro h
  simp only [R2,J09,J50] at h ⊢
  refine ⟨?_,ih h.2⟩
  rcases h.1 with h1 | h1
  ·left
   rw [List.isEmpty_iff] at h1 ⊢
   rw [h1] at hs2
   exact List.sublist_nil.1 hs2
  ·exact .inr h1
def Y9 (l:List Change) (x y:List Str) (ctx:Int):List PatchHunk:=(W0 l x.length ctx l.length).map (Y8 l x y)
theorem ScFit.good (h:ScFit x y l) {ctx:Int} (hc:0≤ctx) (hx:∀s∈x,I5 s=true) (hy:∀s∈y,I5 s=true) (ex:R2 x=true) (ey:R2 y=true):C61 (Y9 l x y ctx)=true:=by
 obtain ⟨h1,h2,h3,_⟩:=h.hunks hc hx hy _ 0 (A65 l x.length ctx l.length) 0 0 0 rfl rfl (Int.le_refl _) hc (fun _=>rfl)
 unfold C61 G93 Y9
 rw [h1,A71 h2 (by simpa using ex),A71 h3 (by simpa using ey)]
 rfl
theorem ScFit.texts (h:ScFit x y l) {ctx:Int} (hc:0≤ctx) (hx:∀s∈x,I5 s=true) (hy:∀s∈y,I5 s=true):∀p∈Y9 l x y ctx,(p.Old+B55 p≤x.length∧p.New+B56 p≤y.length∧0≤p.Old∧0≤p.New)∧H5 p.Lines 43=sub x p.Old (p.Old+B55 p)∧H5 p.Lines 45=sub y p.New (p.New+B56 p) :=
 (h.hunks hc hx hy _ 0 (A65 l x.length ctx l.length) 0 0 0 rfl rfl (Int.le_refl _) hc (fun _=>rfl)).2.2.2
end
theorem C89 (cur:Str) (c:UInt8) (h:∀z∈cur,z≠10):I5 (cur++[c])=true:=by
 unfold I5
 simp only [List.dropLast_concat,J09]
 refine ⟨List.all_eq_true.2 fun z hz=>by simpa using h z hz,by simp⟩
theorem B24:∀(s cur:Str),(∀z∈cur,z≠10)→(∀t∈I0 cur s,I5 t=true)∧R2 (I0 cur s)=true
 | [],cur,hc=>by
  unfold I0
  split
  ·exact ⟨by simp,rfl⟩
  ·rename_i h
   refine ⟨fun t ht=>?_,rfl⟩
   obtain rfl:t=cur:=by simpa using ht
   obtain ⟨d,r,e⟩:∃d r,t=r++[d]:=⟨t.getLast h,t.dropLast,(List.dropLast_concat_getLast h).symm⟩
   rw [e]
   exact C89 r d fun z hz=>hc z (by rw [e];simp [hz])
 | c::r,cur,hc=>by
  rw [p5]
  by_cases h:c=10
  ·rw [if_pos h]
   obtain ⟨h1,h2⟩:=B24 r [] (by simp)
   refine ⟨fun t ht=>?_,?_⟩
   ·rcases List.mem_cons.1 ht with rfl | ht
    ·exact C89 cur c hc
    ·exact h1 t ht
   ·simp only [R2,h2,Bool.and_true,J50]
    right;unfold ended;subst h;simp
  ·rw [if_neg h]
   refine B24 r (cur++[c]) fun z hz=>?_
   rcases List.mem_append.1 hz with hz | hz
   ·exact hc z hz
   ·simp at hz;subst hz;exact h
theorem A72 (b:Str):(∀t∈C1 b,I5 t=true)∧R2 (C1 b)=true:=B24 b [] (by simp)
end Go.AL
namespace Go.AL
open Go
theorem B47 {m n:Int} (hm:M5 m) (hn:M5 n):∀(p:List Span) (i j i0 j0:Int) (k0:Nat),Asc m n i j p→0≤i0→0≤j0→i0≤i→i - i0=j - j0→(0 < k0→i0 < i)→K8 k0 i0 j0 (L9 i j p m n) m n=true
 | [],i,j,i0,j0,k0,ha,h1,h2,h3,h4,h5=>by
  obtain ⟨a1,a2⟩:i≤m∧j≤n:=ha
  obtain ⟨m1,m2⟩:=hm
  obtain ⟨n1,n2⟩:=hn
  unfold L9
  split
  ·rename_i hc
   simp only [K8,J09,decide_eq_true_eq]
   refine ⟨?_,by omega⟩
   unfold F35 M5
   show ¬(((((((¬(0≤i∧i≤4096)∨¬(0≤m - i∧m - i≤4096))∨¬(0≤j∧j≤4096))∨¬(0≤n - j∧n - j≤4096))∨m - i+(n - j)=0)∨i - i0≠j - j0)∨i < i0)∨(0 < (k0:Int)∧i=i0))
   omega
  ·simp only [K8,decide_eq_true_eq];omega
 | x::r,i,j,i0,j0,k0,ha,h1,h2,h3,h4,h5=>by
  obtain ⟨a1,a2,a3⟩:=ha
  have hle:=a3.le
  unfold L9
  split
  ·rename_i hc
   simp only [J49,J38,K8,J09,decide_eq_true_eq]
   refine ⟨?_,?_⟩
   ·obtain ⟨m1,m2⟩:=hm
    obtain ⟨n1,n2⟩:=hn
    unfold F35 M5
    show ¬(((((((¬(0≤i∧i≤4096)∨¬(0≤x.From - i∧x.From - i≤4096))∨¬(0≤j∧j≤4096))∨¬(0≤x.To - j∧x.To - j≤4096))∨x.From - i+(x.To - j)=0)∨i - i0≠j - j0)∨i < i0)∨(0 < (k0:Int)∧i=i0))
    omega
   ·exact B47 hm hn r _ _ _ _ _ a3 (by omega) (by omega) (by omega) (by omega) (fun _=>by omega)
  ·rw [J38]
   exact B47 hm hn r _ _ _ _ _ a3 h1 h2 (by omega) (by omega) (fun h=>by omega)
def EqAt (X Y:List Str) (s:Span):Prop:=0≤s.From∧0≤s.To∧∃v,X[s.From.toNat]?=some v∧Y[s.To.toNat]?=some v
theorem G19 {X:List Str} {a b:Int} {v:Str} (h0:0≤a) (h1:a≤b) (hv:X[b.toNat]?=some v):sub X a (b+1)=sub X a b++[v]:=by
 rw [←A66 X h0 h1 (by omega:b≤b+1)]
 congr 1
 unfold sub
 obtain ⟨hl,e⟩:=List.getElem?_eq_some_iff.1 hv
 rw [J11 hl,e,show (b+1).toNat - b.toNat=1 by omega]
 rfl
theorem E76:∀(a b:List Int) (p q:Int),∀s∈F3 p q a b,p≤s.From∧q≤s.To∧∃v,a[(s.From - p).toNat]?=some v∧b[(s.To - q).toNat]?=some v:=by
 intro a
 induction a with
 | nil=>intro b p q s hs;simp [F3] at hs
 | cons x a iha =>
  intro b
  induction b with
  | nil=>intro p q s hs;simp [F3] at hs
  | cons y b ihb =>
   intro p q s hs
   unfold F3 at hs
   split at hs
   ·rename_i e
    rcases List.mem_cons.1 hs with rfl | hs
    ·exact ⟨Int.le_refl _,Int.le_refl _,x,by simp,by simp [e]⟩
    ·obtain ⟨h1,h2,v,h3,h4⟩:=iha b (p+1) (q+1) s hs
     refine ⟨by omega,by omega,v,?_,?_⟩
     ·rw [show (s.From - p).toNat=(s.From - (p+1)).toNat+1 by omega];simpa using h3
     ·rw [show (s.To - q).toNat=(s.To - (q+1)).toNat+1 by omega];simpa using h4
   ·split at hs
    ·obtain ⟨h1,h2,v,h3,h4⟩:=iha (y::b) (p+1) q s hs
     refine ⟨by omega,by omega,v,?_,h4⟩
     rw [show (s.From - p).toNat=(s.From - (p+1)).toNat+1 by omega];simpa using h3
    ·obtain ⟨h1,h2,v,h3,h4⟩:=ihb p (q+1) s hs
     refine ⟨by omega,by omega,v,h3,?_⟩
     rw [show (s.To - q).toNat=(s.To - (q+1)).toNat+1 by omega];simpa using h4
theorem E77:∀(ls:List PatchLine),ls.all B87=true→(ls.map szL).sum≤64*((H5 ls 43).length+(H5 ls 45).length)+((H5 ls 43).flatten.length+(H5 ls 45).flatten.length)
 | [],_=>by simp
 | q::ls,h=>by
  rw [List.all_cons,J09] at h
  have ih:=E77 ls h.2
  have hk:q.Kind=32∨q.Kind=45∨q.Kind=43:=by
   have hg:=h.1
   unfold B87 at hg
   have hg:=A0 hg
   by_cases h1:q.Kind=32
   ·exact .inl h1
   by_cases h2:q.Kind=45
   ·exact .inr (.inl h2)
   by_cases h3:q.Kind=43
   ·exact .inr (.inr h3)
   exact absurd (.inl ⟨⟨h1,h2⟩,h3⟩) hg
  have hd:∀k:UInt8,H5 (q::ls) k=if q.Kind≠k then q.Text::H5 ls k else H5 ls k:=by
   intro k
   unfold H5
   by_cases e:q.Kind=k
   ·rw [if_neg (by simpa using e),List.filter_cons_of_neg (by simpa using e)]
   ·rw [if_pos e,List.filter_cons_of_pos (by simpa using e)];rfl
  rw [hd 43,hd 45,J16,J39]
  have hz:szL q=q.Text.length+64:=rfl
  rcases hk with e | e | e<;>rw [e]<;>simp (decide:=true) only [if_true,if_false,ne_eq,not_true_eq_false,not_false_eq_true,J07,J24,J06]<;>omega
theorem C31:∀(hs:List PatchHunk) (i j:Int),C60 i j hs=true→szP hs≤128*((N0 hs 43).length+(N0 hs 45).length)+((N0 hs 43).flatten.length+(N0 hs 45).flatten.length)
 | [],_,_,_=>by simp [szP]
 | h :: hs,i,j,hg=>by
  simp only [C60,J09,decide_eq_true_eq] at hg
  obtain ⟨h1,h2,h3,h4⟩:=hg
  have ih:=C31 hs _ _ h4
  have hl:=E77 h.Lines h1
  have hne:1≤h.Lines.length:=by
   cases hq:h.Lines with
   | nil=>exact absurd (.inl (.inl (.inl (.inl (.inl (by rw [hq];rfl)))))) h2
   | cons a b=>simp
  have hcnt:h.Lines.length≤(H5 h.Lines 43).length+(H5 h.Lines 45).length:=by
   have:64*h.Lines.length≤(h.Lines.map szL).sum:=szL_len h.Lines
   have key:∀ls:List PatchLine,ls.length≤(H5 ls 43).length+(H5 ls 45).length:=by
    intro ls
    induction ls with
    | nil=>simp
    | cons q ls ih =>
     have hd:∀k:UInt8,(H5 (q::ls) k).length=if q.Kind≠k then (H5 ls k).length+1 else (H5 ls k).length:=by
      intro k
      unfold H5
      by_cases e:q.Kind=k
      ·rw [if_neg (by simpa using e),List.filter_cons_of_neg (by simpa using e)]
      ·rw [if_pos e,List.filter_cons_of_pos (by simpa using e)];simp
     rw [hd 43,hd 45,J07]
     by_cases e:q.Kind=43
     ·have e2:q.Kind≠45:=by rw [e];decide
      rw [if_pos e2];split<;>omega
     ·rw [if_pos e];split<;>omega
   exact key h.Lines
  have hsz:szP (h::hs)=szH h+szP hs:=by simp [szP]
  have hszh:szH h=64+(h.Lines.map szL).sum:=rfl
  have hs1:∀k,N0 (h::hs) k=H5 h.Lines k++N0 hs k:=by intro k;simp [N0]
  rw [hsz,hszh,hs1 43,hs1 45]
  simp only [J06,J33]
  omega
theorem C90:∀{s z:List Str},s.Sublist z→s.flatten.length≤z.flatten.length:=by
 intro s z hs
 induction hs with
 | slnil=>exact Nat.le_refl _
 | cons a _ ih=>simp only [J24,J06];omega
 | cons_cons a _ ih=>simp only [J24,J06];omega
theorem ScFit.size {x y:List Str} {l:List Change} (h:ScFit x y l) {ctx:Int} (hc:0≤ctx) (hx:∀s∈x,I5 s=true) (hy:∀s∈y,I5 s=true):szP (Y9 l x y ctx)≤128*(x.length+y.length)+(x.flatten.length+y.flatten.length):=by
 obtain ⟨h1,h2,h3,_⟩:=h.hunks hc hx hy _ 0 (A65 l x.length ctx l.length) 0 0 0 rfl rfl (Int.le_refl _) hc (fun _=>rfl)
 have h4:=C31 _ _ _ h1
 have e:Y9 l x y ctx=(W0 l x.length ctx l.length).map (Y8 l x y):=rfl
 rw [←e] at h2 h3 h4
 have h2':(N0 (Y9 l x y ctx) 43).Sublist x:=by simpa using h2
 have h3':(N0 (Y9 l x y ctx) 45).Sublist y:=by simpa using h3
 have:=h2'.length_le
 have:=h3'.length_le
 have:=C90 h2'
 have:=C90 h3'
 omega
theorem E32 {a:Str} (h:a.length≤4096):B46 a=(C1 a,0):=by
 have:=R1 a
 unfold B46;rw [if_neg (by omega)]
end Go.AL
namespace Go.AL
open Go
end Go.AL
namespace Go.AL
open Go
abbrev B88:Int→Nat→Cell:=fun x _=>.v (.int .u16 x)
abbrev pU16s (l:List Int):PV:=.one (.list Int 1 B88 l)
theorem G97 (n:Int) (h:0≤n∧n < 65536):IntKind.u16.wrap n=n:=by
 simp [IntKind.wrap,IntKind.signed,IntKind.bits];omega
def flat (a b:List Int) (done:Nat→Nat→Bool):List Int :=
 (List.range ((a.length+1)*(b.length+1))).map fun p=>if done (p / (b.length+1)) (p % (b.length+1))=true then (dist (a.drop (p / (b.length+1))) (b.drop (p % (b.length+1))):Int) else 0
theorem C91 (a b:List Int) (done:Nat→Nat→Bool):(flat a b done).length=(a.length+1)*(b.length+1):=by simp [flat]
theorem D17 {a b:List Int} {i j:Nat} (hi:i≤a.length) (hj:j≤b.length):i*(b.length+1)+j < (a.length+1)*(b.length+1)∧(i*(b.length+1)+j) / (b.length+1)=i∧(i*(b.length+1)+j) % (b.length+1)=j:=by
 refine ⟨?_,?_,?_⟩
 ·have:(i+1)*(b.length+1)≤(a.length+1)*(b.length+1):=J18 _ (by omega)
  rw [J28,Nat.one_mul] at this;omega
 ·rw [Nat.mul_comm,Nat.mul_add_div (by omega),Nat.div_eq_of_lt (by omega),Nat.add_zero]
 ·rw [Nat.mul_comm,Nat.mul_add_mod,Nat.mod_eq_of_lt (by omega)]
theorem D73 {a b:List Int} {done:Nat→Nat→Bool} {i j:Nat} (hi:i≤a.length) (hj:j≤b.length):(flat a b done)[i*(b.length+1)+j]?=some (if done i j=true then (dist (a.drop i) (b.drop j):Int) else 0):=by
 obtain ⟨h1,h2,h3⟩:=D17 hi hj
 unfold flat
 rw [x6 _ _ _ h1,h2,h3]
theorem G20 {a b:List Int} {done done':Nat→Nat→Bool} {i j:Nat} {v:Int} (hi:i≤a.length) (hj:j≤b.length) (hv:v=(dist (a.drop i) (b.drop j):Int)) (hd:done' i j=true)
  (ho:∀r q,r≤a.length→q≤b.length→¬(r=i∧q=j)→done' r q=done r q):(flat a b done).set (i*(b.length+1)+j) v=flat a b done':=by
 obtain ⟨h1,h2,h3⟩:=D17 hi hj
 unfold flat
 refine m8 _ _ _ _ _ (fun _=>?_) (fun q hq hne=>?_)
 ·rw [h2,h3,if_pos hd,hv]
 ·have hW:0 < b.length+1:=by omega
  have e:=Nat.div_add_mod q (b.length+1)
  have hr:q / (b.length+1)≤a.length:=by
   have:=(Nat.div_lt_iff_lt_mul hW).2 hq
   omega
  have hm:=Nat.mod_lt q hW
  rw [ho _ _ hr (by omega) (fun ⟨e1,e2⟩=>hne (by rw [e1,e2,Nat.mul_comm] at e;exact e.symm))]
theorem I00 (a b:List Int):List.replicate ((a.length+1)*(b.length+1)) 0=flat a b (fun _ _=>false):=by
 unfold flat
 simp only [Bool.false_eq_true,if_false]
 rw [List.map_const',J54]
theorem A73 {a b:List Int} {done done':Nat→Nat→Bool} (h:∀r q,r≤a.length→q≤b.length→(done r q=done' r q∨dist (a.drop r) (b.drop q)=0)):flat a b done=flat a b done':=by
 unfold flat
 apply List.map_congr_left
 intro p hp
 have hp:=List.mem_range.1 hp
 have hW:0 < b.length+1:=by omega
 have hr:p / (b.length+1)≤a.length:=by have:=(Nat.div_lt_iff_lt_mul hW).2 hp;omega
 have hm:=Nat.mod_lt p hW
 rcases h (p / (b.length+1)) (p % (b.length+1)) hr (by omega) with e | e
 ·rw [e]
 ·rw [e];simp
def T9:List Int→List Int→Nat
 | x::a,y::b=>if x=y then T9 a b+1 else 0
 | _,_=>0
theorem G21:∀(a b:List Int),T9 a b≤a.length∧T9 a b≤b.length
 | [],_=>by simp [T9]
 | _::_,[]=>by simp [T9]
 | x::a,y::b=>by
  have:=G21 a b
  unfold T9
  simp only [J07]
  split<;>omega
theorem D74 (a b:List Int) (k:Nat) (hk:k < a.length) (hk':k < b.length):T9 (a.drop k) (b.drop k)=if a[k]=b[k] then T9 (a.drop (k+1)) (b.drop (k+1))+1 else 0:=by
 rw [J11 hk,J11 hk'];rfl
theorem I01 (a b:List Int) (k:Nat) (h:¬(k < a.length∧k < b.length)):T9 (a.drop k) (b.drop k)=0:=by
 by_cases h1:k < a.length
 ·rw [J14 (as:=b) (by omega)]
  cases a.drop k<;>rfl
 ·rw [J14 (as:=a) (by omega)];rfl
theorem D75:∀(a b:List Int) (p q:Int),F3 p q a b=N2 p q (T9 a b)++F3 (p+T9 a b) (q+T9 a b) (a.drop (T9 a b)) (b.drop (T9 a b))
 | [],b,p,q=>by simp [T9,d9]
 | x::a,[],p,q=>by simp [T9,d9]
 | x::a,y::b,p,q=>by
  unfold T9
  by_cases h:x=y
  ·rw [if_pos h]
   conv=>lhs;unfold F3
   rw [if_pos h,D75 a b (p+1) (q+1),A55]
   simp only [List.drop_succ_cons,J49]
   rw [show p+1+(T9 a b:Int)=p+((T9 a b+1:Nat):Int) by omega,show q+1+(T9 a b:Int)=q+((T9 a b+1:Nat):Int) by omega]
  ·rw [if_neg h]
   simp [d9]
end Go.AL
namespace Go.AL
open Go
def Y2 (l:List Merged) (bit:Int) (a b:Nat):List Merged:=((l.drop a).take (b - a)).map fun y=>⟨y.Line,I8 y.Parents bit⟩
def C32 (list:List Int) (bit:Int) (a n:Nat):List Merged:=((list.drop a).take n).map fun v=>⟨v,bit⟩
def i6 (l:List Merged) (list:List Int) (bit:Int) (k:Nat):List Change→List Merged
 | []=>Y2 l bit k l.length
 | c::r=>Y2 l bit k c.Old.toNat++(l.drop c.Old.toNat).take c.OldLen.toNat++C32 list bit c.New.toNat c.NewLen.toNat++i6 l list bit (c.Old.toNat+c.OldLen.toNat) r
theorem G98 {α:Type} (l:List α) {a b c:Nat} (h1:a≤b) (h2:b≤c):(l.drop a).take (c - a)=(l.drop a).take (b - a)++(l.drop b).take (c - b):=by
 have h:=List.take_add (l:=l.drop a) (i:=b - a) (j:=c - b)
 rw [List.drop_drop,show b - a+(c - b)=c - a by omega,show a+(b - a)=b by omega] at h
 exact h
theorem C92 (l:List Merged) (bit:Int) {a b c:Nat} (h1:a≤b) (h2:b≤c):Y2 l bit a c=Y2 l bit a b++Y2 l bit b c:=by
 unfold Y2;rw [G98 l h1 h2,J19]
theorem C64 (l:List Merged) (bit:Int) (a:Nat):Y2 l bit a a=[]:=by unfold Y2;simp
theorem C65 (l:List Merged) (bit:Int) {a:Nat} (h:a < l.length):Y2 l bit a (a+1)=(l[a]?.map fun y=>(⟨y.Line,I8 y.Parents bit⟩:Merged)).toList:=by
 unfold Y2
 rw [show a+1 - a=1 by omega,J05 h,J11 h]
 rfl
theorem D76 (l:List Merged) (list:List Int) (bit:Int):∀(ps:List Span) (k i j:Nat),k≤i→Asc l.length list.length i j ps →
  i6 l list bit k (L9 i j ps l.length list.length)=Y2 l bit k i++N5 l list bit i j ps
 | [],k,i,j,hk,ha=>by
  have h1:(i:Int)≤l.length∧(j:Int)≤list.length:=ha
  unfold L9 N5
  by_cases h:(l.length:Int) > i∨(list.length:Int) > j
  ·rw [if_pos h]
   simp only [i6]
   rw [show (i:Int).toNat+((l.length:Int) - i).toNat=l.length by omega,C64,J25,J12,J12,show ((l.length:Int) - i).toNat=l.length - i by omega,show ((list.length:Int) - j).toNat=list.length - j by omega,J17]
   rfl
  ·rw [if_neg h]
   have e1:i=l.length:=by omega
   have e2:j=list.length:=by omega
   rw [e1,e2]
   simp [i6]
 | x::r,k,i,j,hk,ha=>by
  obtain ⟨h1,h2,h3⟩:=ha
  have h4:=h3.le
  have e1:((x.From.toNat+1:Nat):Int)=x.From+1:=by omega
  have e2:((x.To.toNat+1:Nat):Int)=x.To+1:=by omega
  have ih:=fun k (hk:k≤x.From.toNat+1)=>D76 l list bit r k (x.From.toNat+1) (x.To.toNat+1) hk (by rw [e1,e2];exact h3)
  rw [e1,e2] at ih
  have hlt:x.From.toNat < l.length:=by omega
  unfold L9 N5
  by_cases h:x.From > i∨x.To > j
  ·rw [if_pos h,J53,i6]
   dsimp only
   rw [show (i:Int).toNat+(x.From - i).toNat=x.From.toNat by omega,ih _ (by omega),C65 l bit hlt,J12,J12,show (x.From - (i:Int)).toNat=x.From.toNat - i by omega,show (x.To - (j:Int)).toNat=x.To.toNat - j by omega]
   unfold C32
   simp only [J17]
  ·rw [if_neg h,J38]
   have e3:x.From.toNat=i:=by omega
   have e4:x.To.toNat=j:=by omega
   rw [ih k (by omega),C92 l bit hk (show i≤x.From.toNat+1 by omega),e3,e4,C65 l bit (by omega)]
   simp
theorem I51 (l:List Merged) (list:List Int) (bit:Int):i6 l list bit 0 (J5 (E9 l) list)=N5 l list bit 0 0 (F3 0 0 (E9 l) list):=by
 have hasc:=T3 (E9 l) list 0 0
 rw [Int.zero_add,Int.zero_add,show (E9 l).length=l.length by simp [E9]] at hasc
 have:=D76 l list bit (F3 0 0 (E9 l) list) 0 0 0 (Nat.le_refl _) hasc
 rw [C64,J38] at this
 unfold J5 X5
 rw [show (E9 l).length=l.length by simp [E9]]
 exact this
def O2 (p:Int) (ms:List Int) (c:Change):List Int:=ms.mapIdx fun k m=>if c.New.toNat≤k∧k < c.New.toNat+c.NewLen.toNat then I8 m (G3 p) else m
theorem p8 (p:Int) (ms:List Int) (c:Change):(O2 p ms c).length=ms.length:=by simp [O2]
theorem A00 (p:Int) (ms:List Int) (c:Change) (k:Nat):(O2 p ms c)[k]?=ms[k]?.map fun m=>if c.New.toNat≤k∧k < c.New.toNat+c.NewLen.toNat then I8 m (G3 p) else m:=by
 unfold O2;rw [List.getElem?_mapIdx]
def R3 (cs:List Change) (k:Nat):Bool:=cs.any fun c=>decide (c.New.toNat≤k∧k < c.New.toNat+c.NewLen.toNat)
def B25 (ps:List Span) (k:Nat):Bool:=ps.any fun x=>decide (x.To.toNat=k)
theorem or_or (m b:Int):I8 (I8 m b) b=I8 m b:=by
 unfold I8
 have h:BitVec.ofInt IntKind.u32.bits (IntKind.u32.wrap ((BitVec.ofInt IntKind.u32.bits m ||| BitVec.ofInt IntKind.u32.bits b).toNat:Int))=BitVec.ofInt IntKind.u32.bits m ||| BitVec.ofInt IntKind.u32.bits b:=by
  rw [show IntKind.u32.wrap ((BitVec.ofInt IntKind.u32.bits m ||| BitVec.ofInt IntKind.u32.bits b).toNat:Int)=((BitVec.ofInt IntKind.u32.bits m ||| BitVec.ofInt IntKind.u32.bits b).toNat:Int) from A15 _ (by
   have:=(BitVec.ofInt IntKind.u32.bits m ||| BitVec.ofInt IntKind.u32.bits b).isLt
   exact this)]
  rw [BitVec.ofInt_natCast,BitVec.ofNat_toNat,BitVec.setWidth_eq]
 rw [h,BitVec.or_assoc,BitVec.or_self]
theorem D77 (p:Int):∀(cs:List Change) (ms:List Int) (k:Nat),(cs.foldl (O2 p) ms)[k]?=ms[k]?.map fun m=>if R3 cs k=true then I8 m (G3 p) else m
 | [],ms,k=>by simp [R3]
 | c::r,ms,k=>by
  rw [J32,D77 p r,A00,Option.map_map]
  congr 1
  funext m
  show (if R3 r k=true then I8 (if c.New.toNat≤k∧k < c.New.toNat+c.NewLen.toNat then I8 m (G3 p) else m) (G3 p) else if c.New.toNat≤k∧k < c.New.toNat+c.NewLen.toNat then I8 m (G3 p) else m)=if R3 (c::r) k=true then I8 m (G3 p) else m
  have e:R3 (c::r) k=(decide (c.New.toNat≤k∧k < c.New.toNat+c.NewLen.toNat)||R3 r k):=rfl
  rw [e]
  by_cases h1:c.New.toNat≤k∧k < c.New.toNat+c.NewLen.toNat
  ·rw [if_pos h1,decide_eq_true h1,Bool.true_or,if_pos rfl]
   cases R3 r k
   ·rw [if_neg (by decide)]
   ·rw [if_pos rfl,or_or]
  ·rw [if_neg h1,decide_eq_false h1,Bool.false_or]
theorem clr_clr (m b:Int):Z4 (Z4 m b) b=Z4 m b:=by
 unfold Z4
 have h:BitVec.ofInt IntKind.u32.bits (IntKind.u32.wrap ((BitVec.ofInt IntKind.u32.bits m &&& ~~~BitVec.ofInt IntKind.u32.bits b).toNat:Int))=BitVec.ofInt IntKind.u32.bits m &&& ~~~BitVec.ofInt IntKind.u32.bits b:=by
  rw [show IntKind.u32.wrap ((BitVec.ofInt IntKind.u32.bits m &&& ~~~BitVec.ofInt IntKind.u32.bits b).toNat:Int)=((BitVec.ofInt IntKind.u32.bits m &&& ~~~BitVec.ofInt IntKind.u32.bits b).toNat:Int) from A15 _ (by
   have:=(BitVec.ofInt IntKind.u32.bits m &&& ~~~BitVec.ofInt IntKind.u32.bits b).isLt
   exact this)]
  rw [BitVec.ofInt_natCast,BitVec.ofNat_toNat,BitVec.setWidth_eq]
 rw [h,BitVec.and_assoc,BitVec.and_self]
theorem E78 (p:Int):∀(ps:List Span) (ms:List Int) (k:Nat),(∀x∈ps,x.To.toNat < ms.length)→(ps.foldl (K0 p) ms)[k]?=ms[k]?.map fun m=>if B25 ps k=true then Z4 m (G3 p) else m
 | [],ms,k,_=>by simp [B25]
 | x::r,ms,k,hp=>by
  have hx:=hp x (by simp)
  have hlen:(K0 p ms x).length=ms.length:=by simp [K0]
  rw [J32,E78 p r _ k (fun y hy=>by rw [hlen];exact hp y (by simp [hy]))]
  have hget:(K0 p ms x)[k]?=ms[k]?.map fun m=>if x.To.toNat=k then Z4 m (G3 p) else m:=by
   unfold K0
   rw [List.getElem?_set]
   by_cases h:x.To.toNat=k
   ·subst h
    rw [if_pos rfl,if_pos hx,J05 hx,J08,J05 hx]
    simp
   ·rw [if_neg h];simp [h]
  rw [hget,Option.map_map]
  congr 1
  funext m
  show (if B25 r k=true then Z4 (if x.To.toNat=k then Z4 m (G3 p) else m) (G3 p) else if x.To.toNat=k then Z4 m (G3 p) else m)=if B25 (x::r) k=true then Z4 m (G3 p) else m
  have e:B25 (x::r) k=(decide (x.To.toNat=k)||B25 r k):=rfl
  rw [e]
  by_cases h1:x.To.toNat=k
  ·rw [if_pos h1,decide_eq_true h1,Bool.true_or,if_pos rfl]
   cases B25 r k
   ·rw [if_neg (by decide)]
   ·rw [if_pos rfl,clr_clr]
  ·rw [if_neg h1,decide_eq_false h1,Bool.false_or]
theorem clr_or (m:Nat) (p:Nat) (hp:p < 32) (hm:m < 2 ^ p):Z4 (I8 m (G3 p)) (G3 p)=m:=by
 have h2:2 ^ p < 2 ^ 32:=Nat.pow_lt_pow_right (by decide) hp
 have hb:G3 (p:Int)=((2 ^ p:Nat):Int):=by
  unfold G3
  rw [A61 (n:=(p:Int)) (by omega),show min ((p:Int)).toNat IntKind.u32.bits=p by rw [J12];exact Nat.min_eq_left (by show p≤32;omega),Int.one_mul]
  rw [show (2:Int) ^ p=((2 ^ p:Nat):Int) by simp]
  exact A15 _ (by omega)
 rw [hb]
 obtain ⟨h3,h4⟩:=B18 m (2 ^ p) (by omega) (by omega)
 rw [h3]
 unfold Z4
 have e1:BitVec.ofInt IntKind.u32.bits (((m ||| 2 ^ p:Nat)):Int)=BitVec.ofNat 32 (m ||| 2 ^ p):=by simp [BitVec.ofInt_natCast];rfl
 have e2:BitVec.ofInt IntKind.u32.bits ((2 ^ p:Nat):Int)=BitVec.ofNat 32 (2 ^ p):=by rw [BitVec.ofInt_natCast];rfl
 rw [e1,e2]
 have h5:(BitVec.ofNat 32 (m ||| 2 ^ p) &&& ~~~BitVec.ofNat 32 (2 ^ p))=BitVec.ofNat 32 m:=by
  apply BitVec.eq_of_getLsbD_eq
  intro i hi
  simp only [BitVec.getLsbD_and,BitVec.getLsbD_not,BitVec.getLsbD_ofNat,hi,decide_true,Bool.true_and,Nat.testBit_or,Nat.testBit_two_pow]
  by_cases hip:p=i
  ·subst hip
   simp [Nat.testBit_lt_two_pow hm]
  ·simp [hip]
 have h6:(BitVec.ofNat 32 m).toNat=m:=by rw [BitVec.toNat_ofNat];exact Nat.mod_eq_of_lt (by omega)
 have h7:((BitVec.ofNat 32 (m ||| 2 ^ p) &&& ~~~BitVec.ofNat 32 (2 ^ p)).toNat:Int)=m:=by rw [h5,h6]
 exact (congrArg IntKind.u32.wrap h7).trans (A15 _ (by omega))
end Go.AL
namespace Go.AL
open Go
theorem G22 (a b:List Span) (k:Nat):B25 (a++b) k=(B25 a k||B25 b k):=by unfold B25;rw [List.any_append]
theorem C33 (i j:Int) (t:Nat) (k:Nat) (hj:0≤j):B25 (N2 i j t) k=decide (j≤k∧(k:Int) < j+t):=by
 unfold B25 N2
 rw [List.any_map,Bool.eq_iff_iff,List.any_eq_true,decide_eq_true_eq]
 constructor
 ·rintro ⟨s,hs,h⟩
  have h1:=List.mem_range.1 hs
  have h2:(j+(s:Int)).toNat=k:=A0 h
  omega
 ·rintro ⟨h1,h2⟩
  refine ⟨((k:Int) - j).toNat,List.mem_range.2 (by omega),?_⟩
  show decide ((j+((((k:Int) - j).toNat:Nat):Int)).toNat=k)=true
  exact decide_eq_true (by omega)
theorem D78 (c:Change) (r:List Change) (k:Nat):R3 (c::r) k=(decide (c.New.toNat≤k∧k < c.New.toNat+c.NewLen.toNat)||R3 r k):=rfl
theorem E79:∀(cs:List Change) (k0:Nat) (i j m n:Int),K8 k0 i j cs m n=true→0≤i→0≤j →
  (∀k:Nat,(k:Int) < j→B25 (J9 i j cs m) k=false∧R3 cs k=false)∧∀k:Nat,j≤k→(k:Int) < n→B25 (J9 i j cs m) k=!R3 cs k
 | [],k0,i,j,m,n,h,h1,h2=>by
  simp only [K8,decide_eq_true_eq] at h
  unfold J9
  refine ⟨fun k hk=>⟨?_,rfl⟩,fun k hk hk2=>?_⟩
  ·rw [C33 _ _ _ _ h2];exact decide_eq_false (by omega)
  ·rw [C33 _ _ _ _ h2]
   show _=true
   exact decide_eq_true (by omega)
 | c :: r,k0,i,j,m,n,h,h1,h2=>by
  simp only [K8,J09,decide_eq_true_eq] at h
  obtain ⟨hb,hr⟩:=h
  have hc:(0≤c.OldLen∧0≤c.NewLen∧i≤c.Old∧c.Old - i=c.New - j):=by
   unfold F35 M5 at hb
   by_cases a2:(0≤c.OldLen∧c.OldLen≤4096)<;>by_cases a4:(0≤c.NewLen∧c.NewLen≤4096)<;>simp [a2,a4] at hb ⊢<;>omega
  obtain ⟨c1,c2,c3,c4⟩:=hc
  obtain ⟨i1,i2⟩:=E79 r (k0+1) (c.Old+c.OldLen) (c.New+c.NewLen) m n hr (by omega) (by omega)
  unfold J9
  rw [show max i c.Old=c.Old by omega,show j+((c.Old - i).toNat:Int)+c.NewLen=c.New+c.NewLen by omega]
  refine ⟨fun k hk=>?_,fun k hk hk2=>?_⟩
  ·obtain ⟨q1,q2⟩:=i1 k (by omega)
   rw [G22,C33 _ _ _ _ h2,D78,q1,q2,decide_eq_false (by omega),decide_eq_false (by omega)]
   exact ⟨rfl,rfl⟩
  ·rw [G22,C33 _ _ _ _ h2,D78]
   by_cases g1:(k:Int) < c.New
   ·obtain ⟨q1,q2⟩:=i1 k (by omega)
    rw [q1,q2,decide_eq_true (by omega),decide_eq_false (by omega)];rfl
   ·rw [decide_eq_false (by omega),Bool.false_or]
    by_cases g2:(k:Int) < c.New+c.NewLen
    ·obtain ⟨q1,q2⟩:=i1 k g2
     rw [q1,decide_eq_true (by omega)];rfl
    ·rw [i2 k (by omega) hk2,decide_eq_false (by omega),Bool.false_or]
theorem H41 {m n:Int}:∀{p:List Span} {i j:Int},Asc m n i j p→∀x∈p,i≤x.From∧x.From < m∧j≤x.To∧x.To < n
 | x::r,i,j,h,y,hy=>by
  obtain ⟨h1,h2,h3⟩:=h
  have h4:=h3.le
  rcases List.mem_cons.1 hy with rfl | hy
  ·omega
  ·have:=H41 h3 y hy;omega
def s7 (ids:List (List Int)) (s:Loom) (p:Nat):Loom :=
 let file:=ids.getD (p+1) []
 let sc:=J5 file (ids.getD 0 [])
 (sc.foldl (O2 p) s.1,sc.foldl (J2 p file) s.2)
def n5 (ids:List (List Int)) (lines n p:Nat):Loom:=(List.range p).foldl (s7 ids) (r9 lines n)
theorem B26 (ids:List (List Int)) (lines n p:Nat):n5 ids lines n (p+1)=s7 ids (n5 ids lines n p) p:=by
 unfold n5;rw [J45,J34];rfl
def LowM (p:Nat) (ms:List Int):Prop:=∀v∈ms,0≤v∧v < ((2 ^ p:Nat):Int)
theorem B48 {p:Nat} (hp:p < 32):G3 (p:Int)=((2 ^ p:Nat):Int):=by
 have h2:2 ^ p < 2 ^ 32:=Nat.pow_lt_pow_right (by decide) hp
 unfold G3
 rw [A61 (n:=(p:Int)) (by omega),show min ((p:Int)).toNat IntKind.u32.bits=p by rw [J12];exact Nat.min_eq_left (by show p≤32;omega),Int.one_mul]
 rw [show (2:Int) ^ p=((2 ^ p:Nat):Int) by simp]
 exact A15 _ (by omega)
theorem or_low {m:Int} {p:Nat} (hp:p < 32) (h:0≤m∧m < ((2 ^ p:Nat):Int)):0≤I8 m (G3 p)∧I8 m (G3 p) < ((2 ^ (p+1):Nat):Int):=by
 have h2:2 ^ p < 2 ^ 32:=Nat.pow_lt_pow_right (by decide) hp
 obtain ⟨q,rfl⟩:∃q:Nat,m=q:=⟨m.toNat,by omega⟩
 have hq:q < 2 ^ p:=by omega
 rw [B48 hp]
 obtain ⟨h3,_⟩:=B18 q (2 ^ p) (by omega) (by omega)
 rw [h3]
 have h4:q ||| 2 ^ p < 2 ^ (p+1):=Nat.or_lt_two_pow (by rw [Nat.pow_succ];omega) (by rw [Nat.pow_succ];omega)
 omega
theorem I02 {ids:List (List Int)} {s:Loom} {p:Nat} {file base:List Int} (hf:file=ids.getD (p+1) []) (hb:base=ids.getD 0 []) (hp:p < 32) (hlow:LowM p s.1) (hlen:s.1.length=base.length) (hfl:file.length≤4096) (hbl:base.length≤4096) :
  s7 ids s p=K6 ids s p∧LowM (p+1) (s7 ids s p).1∧(s7 ids s p).1.length=base.length:=by
 have hasc:=T3 file base 0 0
 rw [Int.zero_add,Int.zero_add] at hasc
 have hsc:=B47 (m:=file.length) (n:=base.length) ⟨by omega,by omega⟩ ⟨by omega,by omega⟩ (F3 0 0 file base) 0 0 0 0 0 hasc (by omega) (by omega) (by omega) (by omega) (by omega)
 obtain ⟨_,hm⟩:=E79 _ 0 0 0 file.length base.length hsc (by omega) (by omega)
 have hmade:=A58 file base
 obtain ⟨sc,hscd⟩:∃sc,sc=J5 file base:=⟨_,rfl⟩
 have hsc2:L9 0 0 (F3 0 0 file base) file.length base.length=sc:=by rw [hscd];rfl
 rw [hsc2] at hm
 have e1:s7 ids s p=(sc.foldl (O2 p) s.1,sc.foldl (J2 p file) s.2):=by rw [hscd,hf,hb];rfl
 have e2:K6 ids s p=((O9 sc file.length).foldl (K0 p) (s.1.map (I8 · (G3 p))),sc.foldl (J2 p file) s.2):=by rw [hscd,hf,hb];rfl
 have hget:=D77 p sc s.1
 have hlen1:(sc.foldl (O2 p) s.1).length=s.1.length:=by
  have key:∀(cs:List Change) (ms:List Int),(cs.foldl (O2 p) ms).length=ms.length:=by
   intro cs
   induction cs with
   | nil=>intro ms;rfl
   | cons c r ih=>intro ms;rw [J32,ih,p8]
  exact key sc s.1
 refine ⟨?_,?_,by rw [e1];dsimp only;rw [hlen1,hlen]⟩
 ·rw [e1,e2,Prod.mk.injEq]
  refine ⟨?_,rfl⟩
  refine List.ext_getElem? fun k=>?_
  have hto:∀x∈O9 sc file.length,x.To.toNat < (s.1.map (I8 · (G3 p))).length:=by
   intro x hx
   rw [J21,hlen]
   rw [hscd,hmade] at hx
   have:=H41 hasc x hx
   omega
  rw [hget,E78 p _ _ k hto,J30,Option.map_map]
  cases hk:s.1[k]? with
  | none=>rfl
  | some v =>
   have hkl:k < base.length:=by have:=(List.getElem?_eq_some_iff.1 hk).1;omega
   have h3:=hm k (by omega) (by omega)
   have hv:=hlow v (J26 hk)
   show some (if R3 sc k=true then I8 v (G3 p) else v)=some (if B25 (O9 sc file.length) k=true then Z4 (I8 v (G3 p)) (G3 p) else I8 v (G3 p))
   have h3:B25 (O9 sc file.length) k=!R3 sc k:=h3
   rw [h3]
   cases R3 sc k
   ·obtain ⟨q,rfl⟩:∃q:Nat,v=q:=⟨v.toNat,by omega⟩
    rw [if_neg (by decide),if_pos (show (!false)=true from rfl),clr_or q p hp (by omega)]
   ·rw [if_pos rfl,if_neg (by decide)]
 ·rw [e1]
  intro v hv
  obtain ⟨k,hk,rfl⟩:=List.mem_iff_getElem.1 hv
  have hkl:k < s.1.length:=by rw [←hlen1];exact hk
  have h4:=hget k
  rw [J05 hk,J05 hkl] at h4
  have h4:(sc.foldl (O2 p) s.1)[k]=if R3 sc k=true then I8 s.1[k] (G3 p) else s.1[k]:=Option.some.inj h4
  show 0≤(sc.foldl (O2 p) s.1)[k]∧(sc.foldl (O2 p) s.1)[k] < _
  rw [h4]
  have hv:=hlow s.1[k] (J15 hkl)
  split
  ·exact or_low hp hv
  ·have:2 ^ p≤2 ^ (p+1):=Nat.pow_le_pow_right (by decide) (by omega)
   omega
theorem B49 {ids:List (List Int)} {base:List Int} {n:Nat} (hb:base=ids.getD 0 []) (hl:∀x∈ids,x.length≤4096) (hbl:base.length≤4096):∀p,p≤32→n5 ids base.length n p=M8 ids base.length n p∧LowM p (n5 ids base.length n p).1∧(n5 ids base.length n p).1.length=base.length
 | 0,_=>by
  refine ⟨rfl,fun v hv=>?_,by simp [n5,r9]⟩
  have:=List.eq_of_mem_replicate (show v∈List.replicate base.length 0 from hv)
  subst this;decide
 | p+1,hp=>by
  obtain ⟨h1,h2,h3⟩:=B49 (n:=n) hb hl hbl p (by omega)
  have hfl:(ids.getD (p+1) []).length≤4096:=by
   rw [J08]
   cases hx:ids[p+1]? with
   | none=>simp
   | some x=>exact hl x (J26 hx)
  obtain ⟨s1,s2,s3⟩:=I02 (ids:=ids) (s:=n5 ids base.length n p) (p:=p) rfl hb (by omega) h2 h3 hfl hbl
  rw [B26,A14,s1,h1]
  rw [s1,h1] at s2 s3
  exact ⟨rfl,s2,s3⟩
theorem G23 (p:Int) (ms:List Int) (a b d:Int):O2 p ms ⟨a,b,d,0⟩=ms:=by
 refine List.ext_getElem? fun k=>?_
 rw [A00]
 cases h:ms[k]? with
 | none=>rfl
 | some v=>simp only [Option.map_some];rw [if_neg (by omega)]
theorem G24 (p:Int) (ms:List Int) (a b:Int) (d t:Nat) (h:d+t < ms.length):(O2 p ms ⟨a,b,d,t⟩)[d+t]?=some (ms.getD (d+t) 0)∧(O2 p ms ⟨a,b,d,t⟩).set (d+t) (I8 (ms.getD (d+t) 0) (G3 p))=O2 p ms ⟨a,b,d,((t+1:Nat):Int)⟩:=by
 have hg:ms[d+t]?=some (ms.getD (d+t) 0):=by rw [J08,J05 h];rfl
 refine ⟨?_,?_⟩
 ·rw [A00,hg]
  simp only [Option.map_some,J12]
  rw [if_neg (by omega)]
 ·refine List.ext_getElem? fun k=>?_
  rw [List.getElem?_set,A00,A00,p8]
  simp only [J12]
  by_cases hk:d+t=k
  ·subst hk
   rw [if_pos rfl,if_pos h,hg]
   simp only [Option.map_some]
   rw [if_pos (by omega)]
  ·rw [if_neg hk]
   cases ms[k]? with
   | none=>rfl
   | some v =>
    simp only [Option.map_some]
    by_cases g:d≤k∧k < d+t
    ·rw [if_pos g,if_pos (by omega)]
    ·rw [if_neg g,if_neg (by omega)]
end Go.AL
namespace Go.AL
open Go
def GrX (l:List Change) (m ctx:Int):Nat→List Hunk→Nat→Prop
 | a,[],k=>a=k
 | a,h::r,k=>∃b,a < b∧opens l ctx a∧(∀c,a < c→c < b→¬opens l ctx c)∧h=mkH l m ctx a b∧GrX l m ctx b r k
theorem GrX.le {l:List Change} {m ctx:Int}:∀{hs:List Hunk} {a k:Nat},GrX l m ctx a hs k→a≤k
 | [],a,k,h=>Nat.le_of_eq h
 | _::_,a,k,⟨b,h1,_,_,_,h2⟩=>by have:=GrX.le h2;omega
theorem GrX.snoc {l:List Change} {m ctx:Int} {k n:Nat} (ho:opens l ctx k) (hk:k < n) (hno:∀c,k < c→c < n→¬opens l ctx c):∀{hs:List Hunk} {a:Nat},GrX l m ctx a hs k→GrX l m ctx a (hs++[mkH l m ctx k n]) n
 | [],a,h=>by
  obtain rfl:a=k:=h
  exact ⟨n,hk,ho,hno,rfl,rfl⟩
 | _::_,a,⟨b,h1,h2,h3,h4,h5⟩=>⟨b,h1,h2,h3,h4,GrX.snoc ho hk hno h5⟩
theorem GrX.last {l:List Change} {m ctx:Int} {k:Nat} (hno:¬opens l ctx k):∀{hs:List Hunk} {a:Nat},GrX l m ctx a hs k→hs≠[]→GrX l m ctx a (hs.set (hs.length - 1) (C27 l m ctx k (hs.getD (hs.length - 1) H36))) (k+1)
 | [],_,_,h0=>absurd rfl h0
 | [h],a,⟨b,h1,h2,h3,h4,h5⟩,_=>by
  obtain rfl:b=k:=h5
  subst h4
  refine ⟨b+1,by omega,h2,fun c hc1 hc2=>?_,rfl,rfl⟩
  by_cases hcb:c=b
  ·rw [hcb];exact hno
  ·exact h3 c hc1 (by omega)
 | h::h'::r,a,⟨b,h1,h2,h3,h4,h5⟩,_=>by
  have ih:=GrX.last hno h5 (by simp)
  refine ⟨b,h1,h2,h3,h4,?_⟩
  simpa using ih
theorem GrX.len {l:List Change} {m ctx:Int}:∀{hs:List Hunk} {a k:Nat},GrX l m ctx a hs k→hs.length≤k - a
 | [],_,_,_=>Nat.zero_le _
 | _::_,a,k,⟨b,h1,_,_,_,h2⟩=>by have:=GrX.len h2;have:=h2.le;simp only [J07];omega
end Go.AL
namespace Go.AL
open Go
def x3:List Str→Int→List (Str × Cell)
 | [],_=>[]
 | s::r,i=>(s,.v (.int .i64 i))::x3 r (i+1)
theorem E80 (s:Str):∀(l:List Str) (i:Int),x3 (l++[s]) i=x3 l i++[(s,.v (.int .i64 (i+l.length)))]
 | [],i=>by simp [x3]
 | x::r,i=>by
  simp only [J49,x3,E80 s r,J07]
  rw [show i+1+(r.length:Int)=i+((r.length+1:Nat):Int) by omega]
theorem E81 (s:Str):∀(l:List Str) (i:Int),s∈l→t8 (x3 l i) s=some (.v (.int .i64 (H1 l s i)))
 | [],_,h=>by simp at h
 | x::r,i,h=>by
  simp only [x3,t8,H1]
  by_cases he:x=s
  ·rw [if_pos he,if_pos he]
  ·rw [if_neg he,if_neg he]
   exact E81 s r (i+1) ((List.mem_cons.1 h).resolve_left (fun q=>he q.symm))
theorem D79 (s:Str):∀(l:List Str) (i:Int),s∉l→t8 (x3 l i) s=none
 | [],_,_=>rfl
 | x::r,i,h=>by
  simp only [x3,t8]
  rw [if_neg (fun q=>h (by simp [q]))]
  exact D79 s r (i+1) (fun q=>h (by simp [q]))
theorem B27 (s:Str) (r:List Str):∀(l:List Str) (i:Int),s∈l→H1 (l++r) s i=H1 l s i
 | [],_,h=>by simp at h
 | x::l,i,h=>by
  simp only [J49,H1]
  by_cases he:x=s
  ·rw [if_pos he,if_pos he]
  ·rw [if_neg he,if_neg he]
   exact B27 s r l (i+1) ((List.mem_cons.1 h).resolve_left (fun q=>he q.symm))
theorem C93 (s:Str):∀(l:List Str) (i:Int),s∉l→H1 (l++[s]) s i=i+l.length
 | [],i,_=>by simp [H1]
 | x::l,i,h=>by
  simp only [J49,H1,J07]
  rw [if_neg (fun q=>h (by simp [q])),C93 s l (i+1) (fun q=>h (by simp [q]))]
  omega
theorem C34:∀(l out:List Str),∃r,l.foldl H8 out=out++r
 | [],out=>⟨[],by simp⟩
 | s::l,out=>by
  obtain ⟨r,hr⟩:=C34 l (H8 out s)
  rw [J32,hr]
  unfold H8
  split
  ·exact ⟨r,rfl⟩
  ·exact ⟨s::r,by simp⟩
def N3 (files:List (List Str)) (k j:Nat):List Str:=((files.take k).flatten++(files.getD k []).take j).foldl H8 []
theorem G25 (files:List (List Str)) (k:Nat):N3 files (k+1) 0=N3 files k (files.getD k []).length:=by
 unfold N3
 rw [List.take_zero,J25,J23]
 by_cases h:k < files.length
 ·rw [V9 files k h]
  congr 2
  simp [h]
 ·rw [J35 (by omega),J35 (by omega)]
  have:files.getD k []=[]:=by simp [show files.length≤k by omega]
  rw [this,J25]
theorem F40 (files:List (List Str)) (k j:Nat) (s:Str) (h:(files.getD k [])[j]?=some s):N3 files k (j+1)=H8 (N3 files k j) s:=by
 unfold N3
 have hj:j < (files.getD k []).length:=(List.getElem?_eq_some_iff.1 h).1
 have he:=(List.getElem?_eq_some_iff.1 h).2
 rw [J13 hj,he,←J17,J34]
 rfl
theorem G26 (files:List (List Str)):N3 files files.length 0=E2 files:=by
 unfold N3 E2
 rw [J23];simp
theorem C94 (files:List (List Str)) (k j:Nat):∃r,E2 files=N3 files k j++r:=by
 have h:∃m,files.flatten=((files.take k).flatten++(files.getD k []).take j)++m:=by
  refine ⟨(files.getD k []).drop j++(files.drop (k+1)).flatten,?_⟩
  by_cases hk:k < files.length
  ·have e:files=files.take k++files.getD k []::files.drop (k+1):=by
    have:files.getD k []=files[k]:=by simp [hk]
    rw [this,List.getElem_cons_drop,J43]
   conv=>lhs;rw [e]
   rw [J33,J24,J17]
   congr 1
   rw [←J17,J43]
  ·have:files.getD k []=[]:=by simp [show files.length≤k by omega]
   rw [this,J35 (by omega:files.length≤k),J14 (by omega:files.length≤k+1)]
   simp
 obtain ⟨m,hm⟩:=h
 unfold E2 N3
 rw [hm,J34]
 obtain ⟨r,hr⟩:=C34 m (((files.take k).flatten++(files.getD k []).take j).foldl H8 [])
 exact ⟨r,hr⟩
theorem D80 (files:List (List Str)) (k j:Nat):(N3 files k j).length≤files.flatten.length:=by
 obtain ⟨r,hr⟩:=C94 files k j
 have:=B14 files
 rw [hr,J06] at this;omega
def O6 (files:List (List Str)) (k:Nat):List TC:=(List.range files.length).map fun r=>if r < k then .p (.list Int 1 G4 (J3 (E2 files) (files.getD r []))) else .p (.v (.slice none 0 0))
theorem I03 {files:List (List Str)} {k:Nat} (h:k < files.length):(O6 files k)[k]?=some (.p (.v (.slice none 0 0))):=by
 simp [O6,h]
theorem F41 (files:List (List Str)) (k m:Nat) (_h:k < files.length):((O6 files k).set k (.buf m Int 1 G4 (J3 (E2 files) (files.getD k [])))).map (TC.forget m)=O6 files (k+1):=by
 have e1:(O6 files k).map (TC.forget m)=O6 files k:=by
  unfold O6
  rw [J36]
  apply List.map_congr_left
  intro r _
  simp only [Function.comp]
  split<;>rfl
 rw [List.map_set,e1]
 have e2:(TC.buf m Int 1 G4 (J3 (E2 files) (files.getD k []))).forget m=.p (.list Int 1 G4 (J3 (E2 files) (files.getD k []))):=by simp [TC.forget]
 rw [e2]
 unfold O6
 refine m8 _ _ _ _ _ (fun _=>by simp) (fun q hq hne=>?_)
 simp only [show (q < k+1)=(q < k) from propext ⟨fun h=>by omega,fun h=>by omega⟩]
theorem G99 (files:List (List Str)):List.replicate files.length (TC.p (.v (.slice none 0 0)))=O6 files 0:=by
 unfold O6
 simp only [Nat.not_lt_zero,if_false,List.map_const',J54]
theorem H00 (files:List (List Str)):O6 files files.length=(files.map (J3 (E2 files))).map fun x=>TC.p (intsC x 0):=by
 unfold O6
 apply List.ext_getElem
 ·simp
 ·intro i h1 h2
  have hi:i < files.length:=by simpa using h1
  simp [hi,intsC]
end Go.AL
namespace Go.AL
open Go
theorem H42 (m n:Int):∀(l:List Change) (k0:Nat) (i j:Int),(∀k,k < l.length→M5 (cAt l k).Old∧M5 (cAt l k).OldLen∧M5 (cAt l k).New∧M5 (cAt l k).NewLen∧(cAt l k).OldLen+(cAt l k).NewLen≠0∧(cAt l k).Old - eoI i l k=(cAt l k).New - enI j l k∧eoI i l k≤(cAt l k).Old∧(0 < k0+k→eoI i l k < (cAt l k).Old)) →
  (m - eoI i l l.length=n - enI j l l.length∧eoI i l l.length≤m)→K8 k0 i j l m n=true
 | [],k0,i,j,_,h=>by
  have h1:m - i=n - j∧i≤m:=h
  simp only [K8,decide_eq_true_eq];omega
 | c::r,k0,i,j,h,he=>by
  simp only [K8,J09,decide_eq_true_eq]
  refine ⟨?_,H42 m n r (k0+1) _ _ (fun k hk=>?_) ?_⟩
  ·obtain ⟨h1,h2,h3,h4,h5,h6,h7,h8⟩:=h 0 (by simp)
   have h1:M5 c.Old:=h1
   have h2:M5 c.OldLen:=h2
   have h3:M5 c.New:=h3
   have h4:M5 c.NewLen:=h4
   have h5:c.OldLen+c.NewLen≠0:=h5
   have h6:c.Old - i=c.New - j:=h6
   have h7:i≤c.Old:=h7
   have h8:0 < k0+0→i < c.Old:=h8
   unfold F35
   rintro (((((((q | q) | q) | q) | q) | q) | q) | ⟨q,q2⟩)
   ·exact q h1
   ·exact q h2
   ·exact q h3
   ·exact q h4
   ·exact h5 q
   ·exact q h6
   ·omega
   ·have:=h8 (by omega);omega
  ·have:=h (k+1) (by simpa using hk)
   rw [C30,s5,s6] at this
   obtain ⟨e1,e2,e3,e4,e5,e6,e7,e8⟩:=this
   exact ⟨e1,e2,e3,e4,e5,e6,e7,fun h0=>e8 (by omega)⟩
  ·rw [J07,s5,s6] at he;exact he
theorem H43 (x y:List Str):∀(l:List Change) (i j:Int),(∀k,k < l.length→sub x (eoI i l k) (cAt l k).Old=sub y (enI j l k) (cAt l k).New)→sub x (eoI i l l.length) x.length=sub y (enI j l l.length) y.length→C62 x y i j l
 | [],_,_,_,h=>h
 | c::r,i,j,h,he=>by
  refine ⟨h 0 (by simp),H43 x y r _ _ (fun k hk=>?_) ?_⟩
  ·have:=h (k+1) (by simpa using hk)
   rw [C30,s5,s6] at this;exact this
  ·rw [J07,s5,s6] at he;exact he
theorem H44 {x:List Str} {p q:Int} {t:Nat} (h0:0≤p) (h:p+t < q):(sub x p q)[t]?=x[(p+t).toNat]?:=by
 unfold sub
 rw [List.getElem?_take,if_pos (by omega),J44]
 congr 1;omega
theorem F42 {x y:List Str} {p q p' q':Int} (h:sub x p q=sub y p' q') (h0:0≤p) (h0':0≤p') (hq:q≤x.length) (he:q - p=q' - p') {t:Nat} (ht:p+t < q):∃v,x[(p+t).toNat]?=some v∧y[(p'+t).toNat]?=some v:=by
 have h1:x[(p+t).toNat]?=some x[(p+t).toNat]:=J05 (by omega)
 refine ⟨_,h1,?_⟩
 rw [←H44 (q:=q') h0' (by omega),←h,H44 h0 ht];exact h1
theorem C95 {i j:Int} {n:Nat} {p:Span} (h:p∈N2 i j n):∃t:Nat,t < n∧p=⟨i+t,j+t⟩:=by
 unfold N2 at h
 obtain ⟨t,h1,h2⟩:=List.mem_map.1 h
 exact ⟨t,List.mem_range.1 h1,h2.symm⟩
theorem D81 {x y:List Str}:∀(l:List Change) (k0:Nat) (i j:Int),K8 k0 i j l x.length y.length=true→C62 x y i j l→0≤i→0≤j→∀p∈J9 i j l x.length,EqAt x y p
 | [],k0,i,j,hs,he,hi,hj,p,hp=>by
  simp only [K8,decide_eq_true_eq] at hs
  unfold J9 at hp
  obtain ⟨t,ht,rfl⟩:=C95 hp
  have he:sub x i x.length=sub y j y.length:=he
  exact ⟨by dsimp only;omega,by dsimp only;omega,F42 he hi hj (by omega) (by omega) (by omega)⟩
 | c::r,k0,i,j,hs,he,hi,hj,p,hp=>by
  have hok:=A16 _ _ _ _ _ _ hs
  have g:=z8 x.length y.length (c::r) k0 i j hs 0 (by simp)
  obtain ⟨g1,g2,g3,g4,g5,g6,g7,_⟩:=g
  have g1:M5 c.Old:=g1
  have g2:M5 c.OldLen:=g2
  have g3:M5 c.New:=g3
  have g4:M5 c.NewLen:=g4
  have g6:c.Old - i=c.New - j:=g6
  have g7:i≤c.Old:=g7
  simp only [K8,J09,decide_eq_true_eq] at hs
  unfold J9 at hp
  unfold M5 at g1 g2 g3 g4
  have hm:=hok.2.2.2.2.2.2.end_le
  rcases List.mem_append.1 hp with hp | hp
  ·obtain ⟨t,ht,rfl⟩:=C95 hp
   exact ⟨by dsimp only;omega,by dsimp only;omega,F42 he.1 hi hj (by omega) (by omega) (by omega)⟩
  ·rw [show max i c.Old+c.OldLen=c.Old+c.OldLen by omega,show j+((c.Old - i).toNat:Int)+c.NewLen=c.New+c.NewLen by omega] at hp
   exact D81 r (k0+1) _ _ hs.2 he.2 (by omega) (by omega) p hp
theorem ScFit.pairs {x y:List Str} {l:List Change} (h:ScFit x y l):∀p∈O9 l x.length,EqAt x y p:=D81 l 0 0 0 h.sc h.eq (Int.le_refl _) (Int.le_refl _)
def C66 (c:Change):Change:=⟨c.Old+1,c.OldLen,c.New+1,c.NewLen⟩
def A74 (l:List Change) (k:Nat):List Change:=l.set k (C66 (cAt l k))
def atI (t:List Int) (i:Int):Int:=t.getD i.toNat 0
def H45 (l:List Change) (k:Nat) (t:List Int) (f n:Int):Prop:=(f+n < t.length∧atI t f=atI t (f+n))∧(k+1=l.length∨(cAt l k).Old+(cAt l k).OldLen+1 < (cAt l (k+1)).Old)
instance (l:List Change) (k:Nat) (t:List Int) (f n:Int):Decidable (H45 l k t f n):=by unfold H45;exact inferInstance
def D18 (l:List Change) (a b:List Int) (k:Nat):Bool :=
 if (cAt l k).NewLen=0 then decide (H45 l k a (cAt l k).Old (cAt l k).OldLen) else if (cAt l k).OldLen=0 then decide (H45 l k b (cAt l k).New (cAt l k).NewLen) else false
theorem i7 (l:List Change) (k:Nat):(A74 l k).length=l.length:=by simp [A74]
theorem B50 (l:List Change) {k:Nat} (hk:k < l.length) (q:Nat):cAt (A74 l k) q=if q=k then C66 (cAt l k) else cAt l q:=by
 unfold A74
 by_cases h:q=k
 ·subst h
  have:∀z,cAt (l.set q z) q=z:=fun z=>by unfold cAt;simp [hk]
  rw [if_pos rfl,this]
 ·rw [if_neg h];unfold cAt
  simp only [J08]
  rw [List.getElem?_set_ne (Ne.symm h)]
theorem C35 (l:List Change) {k:Nat} (hk:k < l.length) (q:Nat):eoI 0 (A74 l k) q=eoI 0 l q+(if q=k+1 then 1 else 0):=by
 cases q with
 | zero=>simp [eoI]
 | succ q =>
  rw [B22,B22,B50 l hk]
  by_cases h:q=k
  ·subst h;rw [if_pos rfl,if_pos rfl];simp only [A92,C66];omega
  ·rw [if_neg h,if_neg (by omega)];omega
theorem C36 (l:List Change) {k:Nat} (hk:k < l.length) (q:Nat):enI 0 (A74 l k) q=enI 0 l q+(if q=k+1 then 1 else 0):=by
 cases q with
 | zero=>simp [enI]
 | succ q =>
  rw [B23,B23,B50 l hk]
  by_cases h:q=k
  ·subst h;rw [if_pos rfl,if_pos rfl];simp only [F37,C66];omega
  ·rw [if_neg h,if_neg (by omega)];omega
structure IdsOf (x:List Str) (a:List Int):Prop where
 len:a.length=x.length
 inj:∀(i j:Nat) (u v:Str) (z:Int),x[i]?=some u→x[j]?=some v→a[i]?=some z→a[j]?=some z→u=v
theorem ScFit.down {x y:List Str} {l:List Change} {a b:List Int} (h:ScFit x y l) (ha:IdsOf x a) (hb:IdsOf y b) {k:Nat} (hk:k < l.length) (hd:D18 l a b k=true):ScFit x y (A74 l k):=by
 have hlx:=h.lx
 have hly:=h.ly
 have hg:=z8 _ _ _ 0 0 0 h.sc
 have hge:=G95 _ _ _ 0 0 0 h.sc
 have hq:=F38 _ _ _ _ _ h.eq
 have hqe:=G96 _ _ _ _ _ h.eq
 have hok:=h.ok
 obtain ⟨c,hc⟩:∃c,c=cAt l k:=⟨_,rfl⟩
 obtain ⟨g1,g2,g3,g4,g5,g6,g7,g8⟩:=hg k hk
 have hb4:=hok.get k hk
 rw [←hc] at g1 g2 g3 g4 g5 g6 g7 g8 hb4
 unfold M5 at g1 g2 g3 g4
 have eo1:eoI 0 l (k+1)=c.Old+c.OldLen:=by rw [B22,←hc];rfl
 have en1:enI 0 l (k+1)=c.New+c.NewLen:=by rw [B23,←hc];rfl
 obtain ⟨E,E',hE1,hE2,hE3,hE4,hE5,hEn⟩:∃E E':Int,sub x (c.Old+c.OldLen) E=sub y (c.New+c.NewLen) E'∧E - (c.Old+c.OldLen)=E' - (c.New+c.NewLen)∧E≤x.length∧E'≤y.length∧(c.Old+c.OldLen < E)∧(k+1 < l.length→E=(cAt l (k+1)).Old∧E'=(cAt l (k+1)).New∧c.Old+c.OldLen+1 < E):=by
  by_cases hl:k+1=l.length
  ·rw [←hl,eo1,en1] at hge hqe
   refine ⟨x.length,y.length,hqe,by omega,by omega,by omega,?_,fun q=>absurd hl (by omega)⟩
   unfold D18 at hd
   rw [←hc] at hd
   split at hd
   ·have:=(A0 hd).1.1;rw [ha.len] at this;omega
   ·split at hd
    ·have:=(A0 hd).1.1;rw [hb.len] at this;omega
    ·cases hd
  ·have hl:k+1 < l.length:=by omega
   obtain ⟨f1,f2,f3,f4,f5,f6,f7,f8⟩:=hg (k+1) hl
   have f9:=hq (k+1) hl
   have f10:=hok.get (k+1) hl
   rw [eo1,en1] at f6 f9
   rw [eo1] at f7
   unfold M5 at f2 f4
   have hroom:c.Old+c.OldLen+1 < (cAt l (k+1)).Old:=by
    unfold D18 at hd
    rw [←hc] at hd
    split at hd
    ·have:=(A0 hd).2;rw [←hc] at this;omega
    ·split at hd
     ·have:=(A0 hd).2;rw [←hc] at this;omega
     ·cases hd
   exact ⟨_,_,f9,by omega,by omega,by omega,by omega,fun _=>⟨rfl,rfl,hroom⟩⟩
 have hv:∃v,x[c.Old.toNat]?=some v∧y[c.New.toNat]?=some v:=by
  obtain ⟨v,v1,v2⟩:=F42 (t:=0) hE1 (by omega) (by omega) (by omega) hE2 (by omega)
  simp only [Int.natCast_zero,Int.add_zero] at v1 v2
  unfold D18 at hd
  rw [←hc] at hd
  split at hd
  ·rename_i hn
   have:=(A0 hd).1.2
   rw [hn,Int.add_zero] at v2
   refine ⟨v,?_,v2⟩
   have l1:c.Old.toNat < a.length:=by rw [ha.len];omega
   have l2:(c.Old+c.OldLen).toNat < a.length:=by rw [ha.len];omega
   have hx:x[c.Old.toNat]?=some x[c.Old.toNat]:=J05 (by omega)
   have ea:a[c.Old.toNat]?=some (atI a c.Old):=by unfold atI;rw [J08,J05 l1];rfl
   have eb:a[(c.Old+c.OldLen).toNat]?=some (atI a (c.Old+c.OldLen)):=by unfold atI;rw [J08,J05 l2];rfl
   rw [←this] at eb
   have:=ha.inj _ _ _ _ _ hx v1 ea eb
   rw [hx,this]
  ·split at hd
   ·rename_i _ hn
    have:=(A0 hd).1.2
    rw [hn,Int.add_zero] at v1
    refine ⟨v,v1,?_⟩
    have l1:c.New.toNat < b.length:=by rw [hb.len];omega
    have l2:(c.New+c.NewLen).toNat < b.length:=by rw [hb.len];omega
    have hx:y[c.New.toNat]?=some y[c.New.toNat]:=J05 (by omega)
    have ea:b[c.New.toNat]?=some (atI b c.New):=by unfold atI;rw [J08,J05 l1];rfl
    have eb:b[(c.New+c.NewLen).toNat]?=some (atI b (c.New+c.NewLen)):=by unfold atI;rw [J08,J05 l2];rfl
    rw [←this] at eb
    have:=hb.inj _ _ _ _ _ hx v2 ea eb
    rw [hx,this]
   ·cases hd
 obtain ⟨v,v1,v2⟩:=hv
 have hen0:0≤eoI 0 l k∧0≤enI 0 l k:=by
  cases k with
  | zero=>simp [eoI,enI]
  | succ k =>
   obtain ⟨f1,f2,f3,f4,_⟩:=hg k (by omega)
   unfold M5 at f1 f2 f3 f4
   rw [B22,B23];unfold A92 F37;omega
 have htail:sub x (c.Old+c.OldLen+1) E=sub y (c.New+c.NewLen+1) E':=by
  have:=D69 (e:=E - (c.Old+c.OldLen) - 1) hE1 (by omega) (by omega) (by omega) (by omega) hE2
  rw [show E - (E - (c.Old+c.OldLen) - 1)=c.Old+c.OldLen+1 by omega,show E' - (E - (c.Old+c.OldLen) - 1)=c.New+c.NewLen+1 by omega] at this
  exact this
 refine ⟨hlx,hly,H42 _ _ _ 0 0 0 (fun q hql=>?_) ?_,H43 _ _ _ 0 0 (fun q hql=>?_) ?_⟩
 ·rw [i7] at hql
  rw [B50 l hk,C35 l hk,C36 l hk]
  by_cases e:q=k
  ·rw [if_pos e,if_neg (show ¬q=k+1 by omega),e,←hc]
   unfold M5
   simp only [C66]
   refine ⟨by omega,g2,by omega,g4,g5,by omega,by omega,fun _=>by omega⟩
  ·rw [if_neg e]
   obtain ⟨f1,f2,f3,f4,f5,f6,f7,f8⟩:=hg q hql
   refine ⟨f1,f2,f3,f4,f5,?_,?_,?_⟩
   ·by_cases e2:q=k+1
    ·rw [if_pos e2];omega
    ·rw [if_neg e2];omega
   ·by_cases e2:q=k+1
    ·rw [if_pos e2];have:=f8 (by omega);omega
    ·rw [if_neg e2];omega
   ·intro h0
    by_cases e2:q=k+1
    ·rw [if_pos e2,e2,eo1]
     have:=(hEn (by omega))
     omega
    ·rw [if_neg e2];have:=f8 h0;omega
 ·rw [i7,C35 l hk,C36 l hk]
  by_cases e2:l.length=k+1
  ·rw [if_pos e2,e2,eo1,en1]
   rw [e2,eo1,en1] at hge
   have h1:E≤x.length:=hE3
   omega
  ·rw [if_neg e2];omega
 ·rw [i7] at hql
  rw [B50 l hk,C35 l hk,C36 l hk]
  by_cases e:q=k
  ·rw [if_pos e,if_neg (show ¬q=k+1 by omega),e,←hc]
   simp only [C66,Int.add_zero]
   have:=hq k hk
   rw [←hc] at this
   rw [G19 hen0.1 g7 v1,G19 hen0.2 (by omega) v2,this]
  ·rw [if_neg e]
   by_cases e2:q=k+1
   ·rw [if_pos e2]
    subst e2
    obtain ⟨q1,q2,_⟩:=hEn hql
    rw [eo1,en1,←q1,←q2];exact htail
   ·rw [if_neg e2,Int.add_zero,Int.add_zero]
    exact hq q hql
 ·rw [i7,C35 l hk,C36 l hk]
  by_cases e2:l.length=k+1
  ·rw [if_pos e2]
   rw [e2,eo1,en1] at hqe hge ⊢
   have:=D69 (e:=x.length - (c.Old+c.OldLen) - 1) hqe (by omega) (by omega) (by omega) (by omega) (by omega)
   rw [show (x.length:Int) - (x.length - (c.Old+c.OldLen) - 1)=c.Old+c.OldLen+1 by omega,show (y.length:Int) - (x.length - (c.Old+c.OldLen) - 1)=c.New+c.NewLen+1 by omega] at this
   exact this
  ·rw [if_neg e2,Int.add_zero,Int.add_zero];exact hqe
section
variable {x y:List Str} {a b:List Int} (ha:IdsOf x a) (hb:IdsOf y b)
include ha hb
omit ha hb in
omit ha hb in
end
end Go.AL
namespace Go.AL
open Go
structure Made12 (on nn a b:Str) (l:List Change) (ctx:Int):Prop where
 chk:C29 ⟨on,nn,Y9 l (C1 a) (C1 b) ctx⟩=0
 wr:(H37 ⟨on,nn,Y9 l (C1 a) (C1 b) ctx⟩).length≤16777216
 fit:PFit ⟨on,nn,Y9 l (C1 a) (C1 b) ctx⟩
 rg:∀h∈Y9 l (C1 a) (C1 b) ctx,(-4611686018427387904≤h.Old∧h.Old≤4611686018427387904)∧(-4611686018427387904≤h.New∧h.New≤4611686018427387904)
 sz:szP (Y9 l (C1 a) (C1 b) ctx)≤268435456
end Go.AL
namespace Go.AL
open Go
section
variable {x y:List Str} {l:List Change}
end
end Go.AL
namespace Go.AL
open Go
theorem A75:∀(y:List Str),(∀s∈y,I5 s=true)→R2 y=true→U3 y=true
 | [],_,_=>rfl
 | s::r,h,he=>by
  simp only [R2,J09] at he
  simp only [U3,J09]
  exact ⟨⟨h s (List.mem_cons_self ..),he.1⟩,A75 r (fun t ht=>h t (List.mem_cons_of_mem _ ht)) he.2⟩
end Go.AL
namespace Go.AL
open Go
end Go.AL
namespace Go.AL
open Go
theorem check12_good {p:Patch} (h:C29 p=0):C61 p.Hunks=true:=by
 unfold C29 at h
 split at h
 ·cases h
 ·split at h
  ·cases h
  ·rename_i h1;simpa using h1
end Go.AL
namespace Go.AL
open Go
structure CHunk where
 At:List Int
 Rows:List Row
 deriving DecidableEq
structure Comb where
 Path:Str
 Dense:Bool
 Parents:Int
 Hunks:List CHunk
 deriving DecidableEq
def Q6:CHunk→Nat→Cell:=fun h j=>match j with
 | 0=>.list Int 1 G4 h.At
 | _=>.list Row 3 rowC h.Rows
abbrev F43 (h:CHunk):PV:=.agg [.list Int 1 G4 h.At,.list Row 3 rowC h.Rows]
abbrev V1 (c:Comb):PV:=.agg [.v (.string ⟨c.Path.toArray⟩),.v (.bool c.Dense),.v (.int .i64 c.Parents),.list CHunk 2 Q6 c.Hunks]
def V2:Comb:=⟨[],false,0,[]⟩
def X6 (n k:Nat):Int:=if k=n then -1 else k
def N7 (rows:List Row) (n k:Nat):Int:=(J0 rows (X6 n k)).length
def F5 (rows:List Row) (n:Nat):List Int:=(List.range (n+1)).map (N7 rows n)
def atS (n:Nat):Str:=List.replicate n 64
def sgnB (n k:Nat):UInt8:=if k=n then 43 else 45
def D82 (n:Nat) (h:CHunk) (k:Nat):Str:=[32,sgnB n k]++U5 (h.At.getD k 0) (N7 h.Rows n k)
def Z5 (n:Nat) (h:CHunk) (k:Nat):Str:=((List.range k).map (D82 n h)).flatten
def B28 (n:Nat) (h:CHunk):Str:=atS (n+1)++Z5 n h (n+1)++[32]++atS (n+1)
def E82 (r:Row) (p:Nat):UInt8:=if V0 r.Marks p=false then 32 else if r.Lost then 45 else 43
def A26 (n:Nat) (r:Row):Str:=(List.range n).map (E82 r)
def A37 (n:Nat) (r:Row):List Str:=if ended r.Text=true then [A26 n r++r.Text] else [A26 n r++r.Text,markS]
def i8 (n:Nat) (h:CHunk):List Str:=(B28 n h++[10])::(h.Rows.map (A37 n)).flatten
def ccS:Str:=[100,105,102,102,32,45,45,99,99,32]
def combS:Str:=[100,105,102,102,32,45,45,99,111,109,98,105,110,101,100,32]
def parS:Str:=[112,97,114,101,110,116,115,32]
def G27 (d:Bool):Str:=if d=true then ccS else combS
def combPs (c:Comb):List Str:=(G27 c.Dense++g9 c.Path++[10])::(parS++A88 c.Parents++[10])::(c.Hunks.map (i8 c.Parents.toNat)).flatten
def A27 (c:Comb):Str:=(combPs c).flatten
def B89 (n:Nat) (ends:List Int) (h:CHunk):Bool:=decide (h.At.length=n+1∧h.Rows≠[])&&(List.range (n+1)).all fun k=>decide ((ends.getD k 0≤h.At.getD k 0∧h.At.getD k 0≤4096)∧h.At.getD k 0+N7 h.Rows n k≤4096)
def T7 (n:Nat) (h:CHunk):List Int:=(List.range (n+1)).map fun k=>h.At.getD k 0+N7 h.Rows n k
def Y3 (n:Nat) (ends:List Int):List CHunk→Bool
 | []=>true
 | h::r=>B89 n ends h&&Y3 n (T7 n h) r
def j4 (hs:List CHunk):List Row:=(hs.map (·.Rows)).flatten
def V3 (n:Nat) (hs:List CHunk):Bool:=Y3 n (List.replicate (n+1) 0) hs&&S7 (j4 hs) n
def n6 (n:Nat) (hs:List CHunk):Bool:=hs.all fun h=>M3 h.Rows n
def M4 (c:Comb):Int:=if S0 c.Path=false then 120 else if c.Parents < 1∨32 < c.Parents then 2 else if n6 c.Parents.toNat c.Hunks=false then 180 else if V3 c.Parents.toNat c.Hunks=false then 121 else if 16777216 < (A27 c).length then 1 else 0
theorem C37 {n:Nat} {r:Row} (h:R8 n r=true):0≤r.Marks∧r.Marks < 2 ^ n∧(r.Lost=true→r.Marks≠0):=by
 unfold R8 at h
 simp only [J09,beq_iff_eq,Bool.not_eq_true',Bool.and_eq_false_iff,beq_eq_false_iff_ne] at h
 obtain ⟨h1,h2⟩:=h
 have hp:(0:Int) < 2 ^ n:=Int.pow_pos (by decide)
 have h3:=Int.emod_add_mul_ediv r.Marks (2 ^ n)
 have h4:=Int.emod_nonneg r.Marks (Int.ne_of_gt hp)
 have h5:=Int.emod_lt_of_pos r.Marks hp
 rw [h1,Int.mul_zero,Int.add_zero] at h3
 rw [h3] at h4 h5
 refine ⟨h4,h5,fun hl=>?_⟩
 rcases h2 with h2 | h2
 ·rw [hl] at h2;cases h2
 ·exact h2
theorem pow32 {n:Nat} (h:n≤32):(2:Int) ^ n≤4294967296:=by
 have h1:(2:Nat) ^ n≤2 ^ 32:=Nat.pow_le_pow_right (by omega) h
 have h2:((2 ^ n:Nat):Int)=2 ^ n:=by simp
 have h3:(2:Nat) ^ 32=4294967296:=rfl
 omega
theorem I52 {n:Nat} (hn:n≤32) {rows:List Row} (h:M3 rows n=true):K4 rows:=by
 intro r hr
 have h1:=C37 (List.all_eq_true.1 h r hr)
 have:=pow32 hn
 omega
def W8 (n:Nat) (ends:List Int) (h:CHunk):Bool:=decide (h.At.length=n+1∧h.Rows≠[])&&(List.range (n+1)).all fun k=>decide (ends.getD k 0≤h.At.getD k 0∧h.At.getD k 0≤4096)
def j5 (res:Bool) (rows:List Row):Bool:=rows.foldl B19 res
def j6 (par:Int) (rows:List Row):Int:=rows.foldl B20 par
def j7 (n:Nat) (ends:List Int) (res:Bool) (par:Int):List CHunk→Bool
 | []=>decide (∀e∈ends,e≤4096)
 | h::r=>W8 n ends h&&(Q4 res par h.Rows&&j7 n (T7 n h) (j5 res h.Rows) (j6 par h.Rows) r)
theorem D83:∀(a b:List Row) (res:Bool) (par:Int),Q4 res par (a++b)=(Q4 res par a&&Q4 (j5 res a) (j6 par a) b)
 | [],b,res,par=>by simp [Q4,j5,j6]
 | x::a,b,res,par=>by
  rw [J49,Q4,Q4,D83 a b]
  simp only [j5,j6,J32,Bool.and_assoc]
theorem A01 (f:Nat→Int) (n k:Nat) (h:k < n):((List.range n).map f).getD k 0=f k:=by
 rw [J08,J30,J37 h];rfl
theorem D84 {n:Nat} {ends:List Int} (hl:ends.length=n+1):(∀e∈ends,e≤4096)↔∀k,k < n+1→ends.getD k 0≤4096:=by
 constructor
 ·intro h k hk
  rw [J08,J05 (by omega)]
  exact h _ (J15 _)
 ·intro h e he
  obtain ⟨k,hk,rfl⟩:=List.getElem_of_mem he
  have:=h k (by omega)
  rwa [J08,J05 hk] at this
theorem B90 (n:Nat) (h:CHunk):(T7 n h).length=n+1:=by unfold T7;simp
theorem C96 (n:Nat):∀(hs:List CHunk) (ends:List Int) (res:Bool) (par:Int),ends.length=n+1 →
  j7 n ends res par hs=(decide (∀e∈ends,e≤4096)&&Y3 n ends hs&&Q4 res par (j4 hs))
 | [],ends,res,par,_=>by simp [j7,Y3,j4,Q4]
 | h::r,ends,res,par,hl=>by
  have ih:=C96 n r (T7 n h) (j5 res h.Rows) (j6 par h.Rows) (B90 n h)
  have e1:j4 (h::r)=h.Rows++j4 r:=by simp [j4]
  rw [j7,ih,Y3,e1,D83]
  have e2:(W8 n ends h&&decide (∀e∈T7 n h,e≤4096))=(decide (∀e∈ends,e≤4096)&&B89 n ends h):=by
   rw [Bool.eq_iff_iff]
   unfold W8 B89
   simp only [J09,decide_eq_true_eq,List.all_eq_true,List.mem_range]
   rw [D84 hl,D84 (B90 n h)]
   have e3:∀k,k < n+1→(T7 n h).getD k 0=h.At.getD k 0+N7 h.Rows n k:=fun k hk=>A01 _ _ _ hk
   constructor
   ·rintro ⟨⟨h1,h2⟩,h3⟩
    exact ⟨fun k hk=>by have:=h2 k hk;omega,h1,fun k hk=>⟨h2 k hk,by have:=h3 k hk;rwa [e3 k hk] at this⟩⟩
   ·rintro ⟨_,h2,h3⟩
    exact ⟨⟨h2,fun k hk=>(h3 k hk).1⟩,fun k hk=>by rw [e3 k hk];exact (h3 k hk).2⟩
  generalize W8 n ends h=A at e2 ⊢
  generalize decide (∀e∈T7 n h,e≤4096)=B at e2 ⊢
  generalize decide (∀e∈ends,e≤4096)=C at e2 ⊢
  generalize B89 n ends h=D at e2 ⊢
  generalize Q4 res par h.Rows=E
  generalize Y3 n (T7 n h) r=F
  generalize Q4 (j5 res h.Rows) (j6 par h.Rows) (j4 r)=G
  cases A<;>cases B<;>cases C<;>cases D<;>first | (cases e2;done) | (cases E<;>cases F<;>cases G<;>rfl)
theorem E83 {n:Nat} {hs:List CHunk} (h:n6 n hs=true):M3 (j4 hs) n=true:=by
 unfold M3 j4
 rw [List.all_eq_true]
 intro r hr
 obtain ⟨l,h1,h2⟩:=List.mem_flatten.1 hr
 obtain ⟨x,hx,rfl⟩:=List.mem_map.1 h1
 exact List.all_eq_true.1 (List.all_eq_true.1 h x hx) r h2
theorem G28 {n:Nat} (hn:n≤32) {hs:List CHunk} (h:n6 n hs=true):j7 n (List.replicate (n+1) 0) false 0 hs=V3 n hs:=by
 rw [C96 n hs _ _ _ (List.length_replicate ..),D66 _ n hn (E83 h) (I52 hn (E83 h))]
 have:∀L:List Int,(∀e∈L,e≤4096)→decide (∀e∈L,e≤4096)=true:=fun L h=>decide_eq_true h
 rw [this _ (fun e he=>by have:=(List.mem_replicate.1 he).2;omega)];rfl
theorem C67 {n:Nat}:∀(hs:List CHunk) (ends:List Int),(∀k,k < n+1→0≤ends.getD k 0)→Y3 n ends hs=true→∀h∈hs,h.At.length=n+1∧h.Rows≠[]∧∀k,k < n+1→0≤h.At.getD k 0∧h.At.getD k 0+N7 h.Rows n k≤4096
 | [],_,_,_,h,hm=>by cases hm
 | x::r,ends,he,hg,h,hm=>by
  rw [Y3,J09] at hg
  obtain ⟨h1,h2⟩:=hg
  unfold B89 at h1
  simp only [J09,decide_eq_true_eq,List.all_eq_true,List.mem_range] at h1
  obtain ⟨⟨h3,h4⟩,h5⟩:=h1
  have hx:∀k,k < n+1→0≤x.At.getD k 0∧x.At.getD k 0+N7 x.Rows n k≤4096:=fun k hk=>by have:=h5 k hk;have:=he k hk;omega
  rcases List.mem_cons.1 hm with rfl | hm
  ·exact ⟨h3,h4,hx⟩
  ·refine C67 r _ (fun k hk=>?_) h2 h hm
   rw [show (T7 n x).getD k 0=x.At.getD k 0+N7 x.Rows n k from A01 _ _ _ hk]
   have:=hx k hk
   have:0≤N7 x.Rows n k:=by unfold N7;omega
   omega
structure CRead (n:Nat) (h:CHunk):Prop where
 len:h.At.length=n+1
 ne:h.Rows≠[]
 at0:∀k,k < n+1→0≤h.At.getD k 0∧h.At.getD k 0+N7 h.Rows n k≤4096
 rows:∀r∈h.Rows,R8 n r=true∧I5 r.Text=true
theorem H01 {c:Comb} (h:M4 c=0):(1≤c.Parents.toNat∧c.Parents.toNat≤32)∧c.Parents=(c.Parents.toNat:Int)∧(∀x∈c.Hunks,CRead c.Parents.toNat x)∧(A27 c).length≤16777216∧S0 c.Path=true:=by
 unfold M4 at h
 split at h
 ·cases h
 ·rename_i h0
  split at h
  ·cases h
  ·rename_i h1
   split at h
   ·cases h
   ·rename_i h2
    split at h
    ·cases h
    ·rename_i h3
     split at h
     ·cases h
     ·rename_i h4
      refine ⟨by omega,by omega,?_,by omega,by simpa using h0⟩
      intro x hx
      have h2:n6 c.Parents.toNat c.Hunks=true:=by simpa using h2
      have h3:V3 c.Parents.toNat c.Hunks=true:=by simpa using h3
      unfold V3 at h3
      rw [J09] at h3
      obtain ⟨a1,a2,a3⟩:=C67 c.Hunks _ (fun k hk=>by rw [J08,List.getElem?_replicate_of_lt hk];exact Int.le_refl _) h3.1 x hx
      refine ⟨a1,a2,a3,fun r hr=>⟨List.all_eq_true.1 (List.all_eq_true.1 h2 x hx) r hr,?_⟩⟩
      have h5:=h3.2
      unfold S7 at h5
      rw [J09] at h5
      exact List.all_eq_true.1 h5.1 r (List.mem_flatten.2 ⟨x.Rows,List.mem_map.2 ⟨x,hx,rfl⟩,hr⟩)
theorem B51 (n:Nat) (r:Row):(A26 n r).length=n:=by simp [A26]
theorem F44 (n:Nat):(atS n).length=n:=by simp [atS]
end Go.AL
namespace Go.AL
open Go
end Go.AL
namespace Go.AL
open Go
def W9 (r:Row):Nat:=r.Text.length+96
def E33 (h:CHunk):Nat:=2048+h.At.length+(h.Rows.map W9).sum
def szC (hs:List CHunk):Nat:=(hs.map E33).sum
theorem x8 (rows:List Row):rows.length*96≤(rows.map W9).sum:=by
 induction rows with
 | nil=>simp
 | cons x r ih=>simp only [J16,J39,J07,W9] at ih ⊢;omega
theorem B91 (rows:List Row):O0 rows≤(rows.map W9).sum:=by
 unfold O0
 induction rows with
 | nil=>simp
 | cons x r ih=>simp only [J16,J24,J06,J39,W9] at ih ⊢;omega
theorem E84 {rows:List Row} {r:Row} (h:r∈rows):W9 r≤(rows.map W9).sum:=by
 induction rows with
 | nil=>cases h
 | cons x l ih =>
  simp only [J16,J39]
  rcases List.mem_cons.1 h with rfl | h
  ·omega
  ·have:=ih h;omega
theorem D19 {hs:List CHunk} {h:CHunk} (hm:h∈hs):E33 h≤szC hs:=by
 unfold szC
 induction hs with
 | nil=>cases hm
 | cons x l ih =>
  simp only [J16,J39]
  rcases List.mem_cons.1 hm with rfl | hm
  ·omega
  ·have:=ih hm;omega
theorem D20 (hs:List CHunk):hs.length*2048≤szC hs:=by
 unfold szC
 induction hs with
 | nil=>simp
 | cons x l ih =>
  have h2:2048≤E33 x:=by unfold E33;exact Nat.le_trans (Nat.le_add_right _ _) (Nat.le_add_right _ _)
  rw [J16,J39,J07,J28,Nat.one_mul,Nat.add_comm]
  exact Nat.add_le_add h2 ih
theorem H02 (rows:List Row) (k:Nat):((rows.take k).map W9).sum≤(rows.map W9).sum:=by
 conv=>rhs;rw [←J43 k rows,J19,J58]
 omega
theorem I53 (hs:List CHunk) (k:Nat):szC (hs.take k)≤szC hs:=by
 unfold szC
 conv=>rhs;rw [←J43 k hs,J19,J58]
 omega
theorem getI {l:List Int} {i:Nat} (h:i < l.length):l[i]?=some (l.getD i 0):=by simp [h]
theorem D85 (rows:List Row) (n k:Nat):0≤N7 rows n k∧N7 rows n k≤rows.length:=by
 have:=B45 rows (X6 n k)
 unfold N7;omega
theorem I54 (rows:List Row) (n k i:Nat) (h:i < rows.length):N7 (rows.take (i+1)) n k=N7 (rows.take i) n k+if U4 rows[i] (X6 n k)=true then 1 else 0:=by
 unfold N7 J0
 rw [J13 h,J48,J19,J06]
 by_cases hv:U4 rows[i] (X6 n k)=true<;>simp [hv]
def l6 (rows:List Row) (n i p:Nat):List Int:=(List.range (n+1)).map fun k=>N7 (rows.take (if k < p then i+1 else i)) n k
theorem I04 (rows:List Row) (n i p:Nat):(l6 rows n i p).length=n+1:=by unfold l6;simp
theorem H03 (rows:List Row) (n:Nat):l6 rows n 0 0=List.replicate (n+1) 0:=by
 unfold l6
 refine List.ext_getElem (by simp) fun k h1 h2=>?_
 simp [N7,J0]
theorem I05 (rows:List Row) (n i p:Nat) (hp:p≤n):(l6 rows n i p)[p]?=some (N7 (rows.take i) n p):=by
 unfold l6
 rw [J30,J37 (by omega)];simp
theorem D86 (f:Nat→Int) (n p:Nat) (v:Int):((List.range n).map f).set p v=(List.range n).map (fun k=>if k=p then v else f k):=by
 refine List.ext_getElem (by simp) fun k h1 h2=>?_
 rw [List.getElem_set,List.getElem_map,List.getElem_map,List.getElem_range]
 by_cases e:p=k
 ·rw [if_pos e,if_pos e.symm]
 ·rw [if_neg e,if_neg (fun h=>e h.symm)]
theorem H04 (rows:List Row) (n i p:Nat) (hi:i < rows.length) (hp:p≤n):l6 rows n i (p+1)=if U4 rows[i] (X6 n p)=true then (l6 rows n i p).set p (N7 (rows.take i) n p+1) else l6 rows n i p:=by
 have hs:=I54 rows n p i hi
 by_cases hv:U4 rows[i] (X6 n p)=true
 ·rw [if_pos hv] at hs ⊢
  unfold l6
  rw [D86]
  refine List.map_congr_left fun k hk=>?_
  by_cases e:k=p
  ·subst e;rw [if_pos rfl,if_pos (by omega),hs]
  ·rw [if_neg e]
   by_cases h3:k < p
   ·rw [if_pos (by omega),if_pos h3]
   ·rw [if_neg (by omega),if_neg h3]
 ·rw [if_neg hv] at hs ⊢
  unfold l6
  refine List.map_congr_left fun k hk=>?_
  by_cases e:k=p
  ·subst e;rw [if_pos (by omega),if_neg (by omega),hs];omega
  ·by_cases h3:k < p
   ·rw [if_pos (by omega),if_pos h3]
   ·rw [if_neg (by omega),if_neg h3]
theorem H05 (rows:List Row) (n i:Nat):l6 rows n i (n+1)=l6 rows n (i+1) 0:=by
 unfold l6
 refine List.map_congr_left fun k hk=>?_
 rw [if_pos (List.mem_range.1 hk),if_neg (by omega)]
theorem H06 (rows:List Row) (n:Nat):l6 rows n rows.length 0=F5 rows n:=by
 unfold l6 F5
 refine List.map_congr_left fun k hk=>?_
 rw [if_neg (by omega),J23]
theorem D87 (rows:List Row) (n:Nat):(F5 rows n).length=n+1:=by unfold F5;simp
theorem H07 (rows:List Row) (n k:Nat) (h:k < n+1):(F5 rows n)[k]?=some (N7 rows n k):=by
 unfold F5
 rw [J30,J37 h];rfl
def u7 (n:Nat) (h:CHunk) (k:Nat):List Int:=(List.range (n+1)).map fun j=>if j < k then h.At.getD j 0+N7 h.Rows n j else N7 h.Rows n j
theorem H08 (n:Nat) (h:CHunk) (k:Nat):(u7 n h k).length=n+1:=by unfold u7;simp
theorem G29 (n:Nat) (h:CHunk):u7 n h 0=F5 h.Rows n:=by
 unfold u7 F5
 refine List.map_congr_left fun k hk=>?_
 rw [if_neg (by omega)]
theorem H09 (n:Nat) (h:CHunk) (k:Nat) (hk:k < n+1):(u7 n h k)[k]?=some (N7 h.Rows n k):=by
 unfold u7
 rw [J30,J37 hk];simp
theorem H10 (n:Nat) (h:CHunk) (k:Nat):(u7 n h k).set k (N7 h.Rows n k+h.At.getD k 0)=u7 n h (k+1):=by
 unfold u7
 rw [D86]
 refine List.map_congr_left fun j hj=>?_
 by_cases e:j=k
 ·subst e;rw [if_pos rfl,if_pos (by omega)];omega
 ·rw [if_neg e]
  by_cases h3:j < k
  ·rw [if_pos h3,if_pos (by omega)]
  ·rw [if_neg h3,if_neg (by omega)]
theorem G30 (n:Nat) (h:CHunk):u7 n h (n+1)=T7 n h:=by
 unfold u7 T7
 refine List.map_congr_left fun k hk=>?_
 rw [if_pos (List.mem_range.1 hk)]
theorem C97 (n:Nat) (ends:List Int) (h:CHunk):W8 n ends h=true↔(h.At.length=n+1∧h.Rows≠[])∧∀k,k < n+1→ends.getD k 0≤h.At.getD k 0∧h.At.getD k 0≤4096:=by
 unfold W8
 simp only [J09,decide_eq_true_eq,List.all_eq_true,List.mem_range]
theorem I06 (n:Nat) (h:CHunk) (k:Nat):(D82 n h k).length≤26:=by
 have:=B21 (h.At.getD k 0) (N7 h.Rows n k)
 unfold D82;simp only [J06,J07,J10];omega
theorem B29 (n:Nat) (h:CHunk) (k:Nat):Z5 n h (k+1)=Z5 n h k++D82 n h k:=by
 unfold Z5
 rw [J45,J19,J33];simp
theorem A76 (n:Nat) (h:CHunk):∀k,(Z5 n h k).length≤26*k
 | 0=>by simp [Z5]
 | k+1=>by
  have:=A76 n h k
  have:=I06 n h k
  rw [B29,J06];omega
theorem C68 {n:Nat} (hn:n≤32) (h:CHunk):(B28 n h).length≤925:=by
 have:=A76 n h (n+1)
 unfold B28
 simp only [J06,F44,J07,J10];omega
theorem E85 {n:Nat} (hn:n≤32) (r:Row):(A37 n r).flatten.length≤W9 r:=by
 have hm:markS.length=29:=rfl
 unfold A37 W9
 split<;>simp only [J24,J55,J06,B51,J10]<;>omega
theorem D88 {n:Nat} (hn:n≤32) (rs:List Row):((rs.map (A37 n)).flatten).flatten.length≤(rs.map W9).sum:=by
 induction rs with
 | nil=>simp
 | cons x r ih =>
  have:=E85 hn x
  simp only [J16,J24,J33,J06,J39];omega
theorem G31 {n:Nat} (hn:n≤32) (h:CHunk):(i8 n h).flatten.length≤E33 h:=by
 have h1:=C68 hn h
 have h2:=D88 hn h.Rows
 unfold i8 E33
 simp only [J24,J06,J07,J10];omega
theorem F45 {n:Nat} (hn:n≤32) (hs:List CHunk):((hs.map (i8 n)).flatten).flatten.length≤szC hs:=by
 unfold szC
 induction hs with
 | nil=>simp
 | cons x r ih =>
  have:=G31 hn x
  simp only [J16,J24,J33,J06,J39];omega
def A77 (c:Comb):Str:=G27 c.Dense++g9 c.Path++[10]++(parS++A88 c.Parents++[10])
def cTo (c:Comb) (k:Nat):Str:=A77 c++(((c.Hunks.take k).map (i8 c.Parents.toNat)).flatten).flatten
theorem D89 (c:Comb):cTo c 0=A77 c:=by simp [cTo]
theorem G32 (c:Comb) (k:Nat) (h:k < c.Hunks.length):cTo c (k+1)=cTo c k++(i8 c.Parents.toNat c.Hunks[k]).flatten:=by
 unfold cTo
 rw [J13 h];simp only [J19,J16,J40,J33,J24,J55,J25,J17]
theorem D90 (c:Comb):cTo c c.Hunks.length=A27 c:=by
 unfold cTo A77 A27 combPs
 rw [J23];simp
def rTo (n:Nat) (rs:List Row) (k:Nat):Str:=(((rs.take k).map (A37 n)).flatten).flatten
theorem G33 (n:Nat) (rs:List Row):rTo n rs 0=[]:=by simp [rTo]
theorem G34 (n:Nat) (rs:List Row) (k:Nat) (h:k < rs.length):rTo n rs (k+1)=rTo n rs k++(A37 n rs[k]).flatten:=by
 unfold rTo
 rw [J13 h];simp only [J19,J16,J40,J33,J24,J55,J25,J17]
theorem H46 {n:Nat} (hn:n≤32) (rs:List Row) (k:Nat):(rTo n rs k).length≤(rs.map W9).sum:=by
 have:=D88 hn (rs.take k)
 have:=H02 rs k
 unfold rTo;omega
theorem E86 (n:Nat) (h:CHunk):(i8 n h).flatten=B28 n h++[10]++rTo n h.Rows h.Rows.length:=by
 unfold i8 rTo
 rw [J23];simp
theorem D91 (p:Str):(g9 p).length≤4*p.length+2:=G11 p
theorem H47 (n:Int):(A88 n).length≤10:=n4 n
theorem D92 (c:Comb):(A77 c).length≤4*c.Path.length+48:=by
 have h1:=D91 c.Path
 have h2:=H47 c.Parents
 have h3:(G27 c.Dense).length≤16:=by cases c.Dense<;>decide
 have h4:parS.length=8:=rfl
 unfold A77
 simp only [J06,J07,J10];omega
theorem H48 (c:Comb) (hn:c.Parents.toNat≤32) (k:Nat):(cTo c k).length≤4*c.Path.length+48+szC c.Hunks:=by
 have h1:=D92 c
 have h2:=F45 hn (c.Hunks.take k)
 have h3:=I53 c.Hunks k
 unfold cTo
 rw [J06];omega
theorem G35 (n:Nat) (r:Row):A26 (n+1) r=A26 n r++[E82 r n]:=by
 unfold A26
 rw [J45,J19];rfl
theorem D93 (n:Nat) (r:Row):(A37 n r).flatten=A26 n r++r.Text++(if ended r.Text=true then [] else markS):=by
 unfold A37
 split<;>simp
end Go.AL
namespace Go.AL
open Go
end Go.AL
namespace Go.AL
open Go
abbrev s8:Bool→Nat→Cell:=fun b _=>.v (.bool b)
abbrev pBools (l:List Bool):PV:=.one (.list Bool 1 s8 l)
def s9 (n:Nat) (rows:List Row):Int→List CHunk→List Span→Option (List CHunk)
 | _,hs,[]=>some hs
 | e,hs,s::r=>if s.From < e∨s.To≤s.From∨(rows.length:Int) < s.To then none else s9 n rows s.To (hs++[⟨F5 (rows.take s.From.toNat) n,(rows.drop s.From.toNat).take (s.To.toNat - s.From.toNat)⟩]) r
def v8 (path:Str) (t:Table) (sp:List Span) (d:Bool):Comb × Int :=
 if S0 path=false then (V2,120) else if I2 t≠0 then (V2,I2 t) else match s9 t.Parents.toNat t.Rows 0 [] sp with
  | none=>(V2,3)
  | some hs=>if M4 ⟨path,d,t.Parents,hs⟩≠0 then (V2,M4 ⟨path,d,t.Parents,hs⟩) else (⟨path,d,t.Parents,hs⟩,0)
theorem F46 (f:Row→Nat) (c n:Nat) (rows:List Row):∀(sp:List Span) (e:Int) (hs hs':List CHunk),0≤e→s9 n rows e hs sp=some hs'→(hs.map fun h=>c+(h.Rows.map f).sum).sum≤c*hs.length+((rows.take e.toNat).map f).sum→hs.length≤e.toNat →
  (hs'.map fun h=>c+(h.Rows.map f).sum).sum≤c*hs'.length+(rows.map f).sum∧hs'.length≤max rows.length hs.length
 | [],e,hs,hs',he,h,hw,hl=>by
  cases h
  refine ⟨?_,by omega⟩
  have:((rows.take e.toNat).map f).sum≤(rows.map f).sum:=by
   conv=>rhs;rw [←J43 e.toNat rows,J19,J58]
   omega
  omega
 | s :: r,e,hs,hs',he,h,hw,hl=>by
  rw [s9] at h
  split at h
  ·cases h
  ·rename_i hc
   simp only [not_or,Int.not_lt,Int.not_le] at hc
   obtain ⟨c1,c2,c3⟩:=hc
   have ih:=F46 f c n rows r s.To _ hs' (by omega) h
   have hsum:((rows.take e.toNat).map f).sum+(((rows.drop s.From.toNat).take (s.To.toNat - s.From.toNat)).map f).sum≤((rows.take s.To.toNat).map f).sum:=by
    have e1:rows.take s.To.toNat=rows.take s.From.toNat++(rows.drop s.From.toNat).take (s.To.toNat - s.From.toNat):=by
     have:=List.take_add (l:=rows) (i:=s.From.toNat) (j:=s.To.toNat - s.From.toNat)
     rw [show s.From.toNat+(s.To.toNat - s.From.toNat)=s.To.toNat by omega] at this
     exact this
    have e2:rows.take s.From.toNat=rows.take e.toNat++(rows.drop e.toNat).take (s.From.toNat - e.toNat):=by
     have:=List.take_add (l:=rows) (i:=e.toNat) (j:=s.From.toNat - e.toNat)
     rw [show e.toNat+(s.From.toNat - e.toNat)=s.From.toNat by omega] at this
     exact this
    rw [e1,J19,J58]
    conv=>rhs;rw [e2,J19,J58]
    omega
   have hih:=ih (by
    rw [J19,J58,J06]
    simp only [J16,J40,J39,List.sum_nil,J07,J10,Nat.mul_add,Nat.mul_one,Nat.mul_zero]
    omega) (by rw [J06];simp;omega)
   refine ⟨hih.1,?_⟩
   have:=hih.2
   rw [J06] at this
   simp only [J07,J10] at this
   have h3:hs.length+1≤rows.length:=by omega
   omega
def CInvA (n:Nat) (hs:List CHunk):Prop:=∀h∈hs,h.At.length=n+1∧K4 h.Rows
theorem D94 {n:Nat} {rows:List Row} (hr:K4 rows):∀(sp:List Span) (e:Int) (hs hs':List CHunk),s9 n rows e hs sp=some hs'→CInvA n hs→CInvA n hs'
 | [],e,hs,hs',h,hi=>by cases h;exact hi
 | s::r,e,hs,hs',h,hi=>by
  rw [s9] at h
  split at h
  ·cases h
  ·refine D94 hr r _ _ hs' h ?_
   intro x hx
   rcases List.mem_append.1 hx with hx | hx
   ·exact hi x hx
   ·simp only [J46,J42,or_false] at hx
    rw [hx]
    exact ⟨D87 _ _,fun y hy=>hr y (List.mem_of_mem_drop (List.mem_of_mem_take hy))⟩
def C69 (n:Nat) (r:Row):Nat:=r.Text.length+n+29
theorem headC_w (n:Nat) (h:CHunk):(B28 n h).length≤28*(n+1)+1:=by
 have:=A76 n h (n+1)
 unfold B28
 simp only [J06,F44,J07,J10];omega
theorem I55 (n:Nat) (rs:List Row):((rs.map (A37 n)).flatten).flatten.length≤(rs.map (C69 n)).sum:=by
 have hm:markS.length=29:=rfl
 induction rs with
 | nil=>simp
 | cons x r ih =>
  have:(A37 n x).flatten.length≤C69 n x:=by
   unfold A37 C69
   split<;>simp only [J24,J55,J06,B51,J10]<;>omega
  simp only [J16,J24,J33,J06,J39];omega
theorem H11 (n:Nat) (hs:List CHunk):((hs.map (i8 n)).flatten).flatten.length≤(hs.map fun h=>(28*(n+1)+2)+(h.Rows.map (C69 n)).sum).sum:=by
 induction hs with
 | nil=>simp
 | cons x r ih =>
  have h1:=headC_w n x
  have h2:=I55 n x.Rows
  have h3:(i8 n x).flatten.length≤(28*(n+1)+2)+(x.Rows.map (C69 n)).sum:=by
   unfold i8
   simp only [J24,J06,J07,J10];omega
  rw [J16,J24,J33,J06,J16,J39]
  exact Nat.add_le_add h3 ih
theorem I56 (c:Comb):(A27 c).length≤4*c.Path.length+48+(c.Hunks.map fun h=>(28*(c.Parents.toNat+1)+2)+(h.Rows.map (C69 c.Parents.toNat)).sum).sum:=by
 have h1:=D92 c
 have h2:=H11 c.Parents.toNat c.Hunks
 rw [←D90]
 unfold cTo
 rw [J23,J06];omega
theorem A78:∀(s cur:Str),(I0 cur s).length≤s.count 10+1
 | [],cur=>by unfold I0;split<;>simp
 | c::r,cur=>by
  rw [p5]
  split
  ·rename_i h
   have:=A78 r []
   rw [J07,List.count_cons,h];simp;omega
  ·have:=A78 r (cur++[c])
   rw [List.count_cons];omega
theorem C98 (s:Str):(C1 s).length≤s.count 10+1:=A78 s []
theorem C38 (result:Str) (parents:List Str) (L B:Nat) (h0:(C1 result).length≤L∧result.length≤B) (h1:∀b∈parents,(C1 b).length≤L∧b.length≤B) :
  K4 (F7 result parents).1.Rows∧(F7 result parents).1.Rows.length≤(L+1)*(parents.length*L+1)∧∀r∈(F7 result parents).1.Rows,r.Text.length≤B:=by
 have hnil:K4 []∧([]:List Row).length≤(L+1)*(parents.length*L+1)∧∀r∈([]:List Row),r.Text.length≤B:=⟨fun r hr=>(by cases hr),(by simp),fun r hr=>(by cases hr)⟩
 by_cases hn:parents.length < 1∨32 < parents.length
 ·rw [F7,if_pos hn];exact hnil
 obtain ⟨fs,hfs⟩:∃fs,fs=C1 result::parents.map C1:=⟨_,rfl⟩
 obtain ⟨names,hnames⟩:∃names,names=E2 fs:=⟨_,rfl⟩
 obtain ⟨s,hs⟩:∃s,s=M8 (fs.map (J3 names)) (C1 result).length parents.length parents.length:=⟨_,rfl⟩
 have hm:F7 result parents=if ∃k,k < (C1 result).length+1∧(E3 (s.2 k)).2≠0 then (⟨0,[]⟩,1) else (⟨parents.length,R9 names (C1 result) s ((C1 result).length+1)⟩,0):=by
  rw [F7,if_neg hn,hs,hnames,hfs]
 rw [hm]
 split
 ·exact hnil
 have hfB:∀f∈fs,f.length≤L∧∀t∈f,t.length≤B:=by
  intro f hf
  rw [hfs] at hf
  rcases List.mem_cons.1 hf with rfl | hf
  ·exact ⟨h0.1,fun t ht=>by have:=G17 _ _ ht;omega⟩
  ·obtain ⟨b,hb,rfl⟩:=List.mem_map.1 hf
   have:=h1 b hb
   exact ⟨this.1,fun t ht=>by have:=G17 _ _ ht;omega⟩
 have hnB:∀t∈names,t.length≤B:=by
  intro t ht
  rw [hnames] at ht
  obtain ⟨f,hf,h2⟩:=List.mem_flatten.1 (C85 fs t ht)
  exact (hfB f hf).2 t h2
 have hid:∀x∈fs.map (J3 names),x.length≤L∧∀v∈x,(fun _:Int=>True) v:=by
  intro x hx
  obtain ⟨f,hf,rfl⟩:=List.mem_map.1 hx
  exact ⟨by rw [J3,J21];exact (hfB f hf).1,fun _ _=>trivial⟩
 have hok:LoomOk (fun _=>True) L (C1 result).length parents.length s:=by rw [hs];exact x7 hid _
 have hL:(C1 result).length≤L:=h0.1
 have hcs:∀k,(E3 (s.2 k)).1.length≤parents.length*L∧∀m∈(E3 (s.2 k)).1,0≤m.Parents∧m.Parents < 4294967296:=fun k=>by
  have h2:=hok.gaps k
  have h3:=p7 (fun _=>True) L (s.2 k) h2.2
  rw [h2.1] at h3
  exact ⟨h3.1,fun m hmem=>(h3.2 m hmem).1⟩
 have hgetD:∀(l:List Str) (k:Nat),(∀t∈l,t.length≤B)→(l.getD k []).length≤B:=by
  intro l k hl
  rw [J08]
  cases h:l[k]? with
  | none=>simp
  | some t=>exact hl t (J26 h)
 have key:∀k,k≤(C1 result).length+1→K4 (R9 names (C1 result) s k)∧(R9 names (C1 result) s k).length≤k*(parents.length*L+1)∧∀r∈R9 names (C1 result) s k,r.Text.length≤B:=by
  intro k
  induction k with
  | zero=>intro _;simp only [R9,List.range_zero,J40,J55];exact ⟨fun r hr=>(by cases hr),by simp,fun r hr=>(by cases hr)⟩
  | succ k ih =>
   intro hk
   obtain ⟨i1,i2,i3⟩:=ih (by omega)
   have hc:=hcs k
   have hgap:∀r∈P0 names (C1 result) s k,(0≤r.Marks∧r.Marks < 4294967296)∧r.Text.length≤B:=by
    intro r hr
    unfold P0 at hr
    rcases List.mem_append.1 hr with h | h
    ·obtain ⟨m,hmem,rfl⟩:=List.mem_map.1 h
     exact ⟨hc.2 m hmem,hgetD _ _ hnB⟩
    ·split at h
     ·rename_i hkl
      simp only [List.mem_singleton] at h
      subst h
      refine ⟨?_,hgetD _ _ (hfB _ (by rw [hfs];simp)).2⟩
      have:k < s.1.length:=by rw [hok.len];exact hkl
      show 0≤s.1.getD k 0∧s.1.getD k 0 < 4294967296
      rw [J08,J05 this]
      exact hok.marks _ (J15 this)
     ·cases h
   have hgl:(P0 names (C1 result) s k).length≤parents.length*L+1:=by
    unfold P0
    rw [J06,J21]
    have:=hc.1
    split<;>simp<;>omega
   rw [Z8]
   refine ⟨fun r hr=>?_,by rw [J06,J28,Nat.one_mul];omega,fun r hr=>?_⟩
   ·rcases List.mem_append.1 hr with h | h
    ·exact i1 r h
    ·exact (hgap r h).1
   ·rcases List.mem_append.1 hr with h | h
    ·exact i3 r h
    ·exact (hgap r h).2
 obtain ⟨k1,k2,k3⟩:=key _ (Nat.le_refl _)
 have:((C1 result).length+1)*(parents.length*L+1)≤(L+1)*(parents.length*L+1):=J18 _ (by omega)
 exact ⟨k1,by simp only;omega,k3⟩
end Go.AL
namespace Go.AL
open Go
def Q7 (r:Row):Bool:=!r.Lost&&decide (r.Marks=0)
def W1 (out:List Span) (v:Int):List Span:=match out.getLast? with
 | some s=>out.dropLast++[⟨s.From,v⟩]
 | none=>out
def B92:List Bool→Nat→Bool→List Span→List Span
 | [],_,_,out=>out
 | b::r,i,p,out=>B92 r (i+1) b (if b=true then W1 (if p=true then out else out++[⟨i,i⟩]) ((i:Int)+1) else out)
def S8 (l:List Bool):List Span:=B92 l 0 false []
def B57 (n:Nat) (out:List Span):Prop:=out.length≤n∧∀s∈out,(0≤s.From∧s.From≤n)∧(0≤s.To∧s.To≤n)
theorem E87 {n:Nat} {out:List Span} (h:B57 n out):B57 (n+1) out:=⟨by have:=h.1;omega,fun s hs=>by have:=h.2 s hs;omega⟩
theorem I57 {n:Nat} {out:List Span} (h:B57 n out):B57 (n+1) (out++[⟨n,n⟩]):=by
 refine ⟨by rw [J06];have:=h.1;simp;omega,fun x hx=>?_⟩
 rcases List.mem_append.1 hx with hx | hx
 ·have:=h.2 x hx;omega
 ·simp only [J46,J42,or_false] at hx
  rw [hx];dsimp only;omega
theorem D95 {n:Nat} {out:List Span} {v:Int} (h:B57 n out) (hv:0≤v∧v≤(n:Int)):B57 n (W1 out v):=by
 unfold W1
 cases hl:out.getLast? with
 | none=>dsimp only;exact h
 | some s =>
  dsimp only
  have hm:=h.2 s (List.mem_of_getLast? hl)
  have hne:out≠[]:=fun e=>by rw [e] at hl;cases hl
  have hp:=List.length_pos_iff.2 hne
  refine ⟨by rw [J06,List.length_dropLast];have:=h.1;simp;omega,fun x hx=>?_⟩
  rcases List.mem_append.1 hx with hx | hx
  ·exact h.2 x ((List.dropLast_sublist _).subset hx)
  ·simp only [J46,J42,or_false] at hx
   rw [hx];dsimp only;omega
theorem F47 {i:Nat} {out:List Span} (b p:Bool) (h:B57 i out):B57 (i+1) (if b=true then W1 (if p=true then out else out++[⟨i,i⟩]) ((i:Int)+1) else out):=by
 split
 ·split
  ·exact D95 (E87 h) (by omega)
  ·exact D95 (I57 h) (by omega)
 ·exact E87 h
theorem H49:∀(l:List Bool) (i:Nat) (p:Bool) (out:List Span),B57 i out→B57 (i+l.length) (B92 l i p out)
 | [],i,p,out,h=>h
 | b::r,i,p,out,h=>by
  rw [B92,J07,show i+(r.length+1)=(i+1)+r.length by omega]
  exact H49 r (i+1) b _ (F47 b p h)
theorem D96 (l:List Bool):B57 l.length (S8 l):=by
 have:=H49 l 0 false [] ⟨Nat.le_refl _,fun s hs=>by cases hs⟩
 rwa [Nat.zero_add] at this
def T4 (t:Table):List Span × Int:=if I2 t≠0 then ([],I2 t) else (S8 (t.Rows.map fun r=>!Q7 r),0)
def w7 (rows:List Row):Int:=rows.foldl (fun a r=>I8 a r.Marks) 0
def W2 (t:Table) (s:Span):Bool:=(List.range t.Parents.toNat).all fun p=>!decide (w7 ((t.Rows.drop s.From.toNat).take (s.To.toNat - s.From.toNat)) / 2 ^ p % 2=0)
def F4 (t:Table) (d:Bool):List Span × Int:=if (T4 t).2≠0 then ([],(T4 t).2) else ((T4 t).1.filter fun s=>!d||W2 t s,0)
def L2 (l:List Span) (ctx:Int) (k:Nat):Bool:=l.any fun s=>decide (s.From - ctx≤k∧(k:Int) < s.To+ctx)
def L6 (t:Table) (ctx:Int) (d:Bool):List Span × Int :=
 if (F4 t d).2≠0 then ([],(F4 t d).2) else if ctx < 0∨1048576 < ctx then ([],3)
 else (S8 ((List.range t.Rows.length).map (L2 (F4 t d).1 ctx)),0)
theorem H50 (t:Table):B57 t.Rows.length (T4 t).1:=by
 unfold T4
 split
 ·exact ⟨Nat.zero_le _,fun s hs=>by cases hs⟩
 ·have:=D96 (t.Rows.map fun r=>!Q7 r)
  rwa [J21] at this
theorem B30 (t:Table) (d:Bool):B57 t.Rows.length (F4 t d).1:=by
 have h:=H50 t
 unfold F4
 split
 ·exact ⟨Nat.zero_le _,fun s hs=>by cases hs⟩
 ·refine ⟨?_,fun s hs=>h.2 s (List.mem_filter.1 hs).1⟩
  have:=List.length_filter_le (fun s=>!d||W2 t s) (T4 t).1
  have:=h.1
  dsimp only;omega
theorem G36 (t:Table) (ctx:Int) (d:Bool):B57 t.Rows.length (L6 t ctx d).1:=by
 unfold L6
 split
 ·exact ⟨Nat.zero_le _,fun s hs=>by cases hs⟩
 ·split
  ·exact ⟨Nat.zero_le _,fun s hs=>by cases hs⟩
  ·have:=D96 ((List.range t.Rows.length).map (L2 (F4 t d).1 ctx))
   rwa [J21,J54] at this
def w8 (l:List Bool) (i:Nat):Bool:=if i=0 then false else l.getD (i - 1) false
theorem E88 {l:List Bool} {i:Nat} {p:Bool} {out:List Span} (h:i < l.length):B92 (l.drop i) i p out=B92 (l.drop (i+1)) (i+1) (l.getD i false) (if l.getD i false=true then W1 (if p=true then out else out++[⟨i,i⟩]) ((i:Int)+1) else out):=by
 rw [J11 h,B92,J08,J05 h];rfl
end Go.AL
namespace Go.AL
open Go
theorem x9 (out:List Span) (a b v:Int):W1 (out++[⟨a,b⟩]) v=out++[⟨a,v⟩]:=by unfold W1;simp
def SpUp (n:Int) (out:List Span):Prop:=(∀s∈out,s.From≤n)∧out.Pairwise fun a b=>a.From≤b.From
theorem I58 {n:Int} {out:List Span} (h:SpUp n out) (v:Int):SpUp n (out++[⟨n,v⟩]):=by
 refine ⟨fun s hs=>?_,?_⟩
 ·rcases List.mem_append.1 hs with hs | hs
  ·exact h.1 s hs
  ·simp only [J46,J42,or_false] at hs
   rw [hs];exact Int.le_refl _
 ·rw [List.pairwise_append]
  refine ⟨h.2,List.pairwise_singleton _ _,fun a ha b hb=>?_⟩
  simp only [J46,J42,or_false] at hb
  rw [hb];exact h.1 a ha
theorem I59 {n:Int} {out:List Span} (h:SpUp n out) (v:Int):SpUp n (W1 out v):=by
 unfold W1
 cases hl:out.getLast? with
 | none=>exact h
 | some s =>
  dsimp only
  have e:out=out.dropLast++[s]:=by
   have hne:out≠[]:=fun e=>by rw [e] at hl;cases hl
   have h2:=List.dropLast_concat_getLast hne
   rw [List.getLast?_eq_some_getLast hne] at hl
   cases hl
   exact h2.symm
  rw [e] at h
  obtain ⟨h1,h2⟩:=h
  rw [List.pairwise_append] at h2
  refine ⟨fun x hx=>?_,?_⟩
  ·rcases List.mem_append.1 hx with hx | hx
   ·exact h1 x (List.mem_append.2 (.inl hx))
   ·simp only [J46,J42,or_false] at hx
    rw [hx];exact h1 s (by simp)
  ·rw [List.pairwise_append]
   refine ⟨h2.1,List.pairwise_singleton _ _,fun a ha b hb=>?_⟩
   simp only [J46,J42,or_false] at hb
   rw [hb];exact h2.2.2 a ha s (by simp)
theorem I07 {n m:Int} {out:List Span} (h:SpUp n out) (hm:n≤m):SpUp m out:=⟨fun s hs=>Int.le_trans (h.1 s hs) hm,h.2⟩
theorem H51:∀(l:List Bool) (i:Nat) (p:Bool) (out:List Span),SpUp i out→∃m,SpUp m (B92 l i p out)
 | [],i,p,out,h=>⟨_,h⟩
 | b::r,i,p,out,h=>by
  rw [B92]
  refine H51 r (i+1) b _ (I07 (n:=(i:Int)) ?_ (by omega))
  split
  ·split
   ·exact I59 h _
   ·rw [x9];exact I58 h _
  ·exact h
theorem I60 (l:List Bool):(S8 l).Pairwise fun a b=>a.From≤b.From:=by
 obtain ⟨m,h⟩:=H51 l 0 false [] ⟨fun s hs=>(by cases hs),List.Pairwise.nil⟩
 exact h.2
theorem D97 (t:Table) (d:Bool):(F4 t d).1.Pairwise fun a b=>a.From≤b.From:=by
 unfold F4 T4
 split
 ·exact List.Pairwise.nil
 ·dsimp only
  split
  ·exact List.Pairwise.nil
  ·exact List.Pairwise.sublist List.filter_sublist (I60 _)
theorem up_get {L:List Span} (h:L.Pairwise fun a b=>a.From≤b.From) {k:Nat} (hk:k+1 < L.length):L[k].From≤L[k+1].From:=(List.pairwise_iff_getElem.1 h) k (k+1) (by omega) hk (by omega)
theorem I61 {n:Int} {out:List Span} (h:∀s∈out,s.From≤s.To∧s.From≤n) (v:Int) (hv:n≤v):∀s∈W1 out v,s.From≤s.To∧s.From≤n:=by
 unfold W1
 cases hl:out.getLast? with
 | none=>exact h
 | some x =>
  dsimp only
  intro s hs
  rcases List.mem_append.1 hs with hs | hs
  ·exact h s ((List.dropLast_sublist _).subset hs)
  ·simp only [J46,J42,or_false] at hs
   rw [hs]
   have:=h x (List.mem_of_getLast? hl)
   exact ⟨by dsimp only;omega,this.2⟩
theorem H52:∀(l:List Bool) (i:Nat) (p:Bool) (out:List Span),(∀s∈out,s.From≤s.To∧s.From≤(i:Int))→∀s∈B92 l i p out,s.From≤s.To
 | [],i,p,out,h=>fun s hs=>(h s hs).1
 | b :: r,i,p,out,h=>by
  rw [B92]
  refine H52 r (i+1) b _ ?_
  have hmore:∀q:List Span,(∀s∈q,s.From≤s.To∧s.From≤(i:Int))→∀s∈q,s.From≤s.To∧s.From≤((i+1:Nat):Int):=fun q hq s hs=>by have:=hq s hs;omega
  split
  ·refine hmore _ (I61 ?_ _ (by omega))
   split
   ·exact h
   ·intro s hs
    rcases List.mem_append.1 hs with hs | hs
    ·exact h s hs
    ·simp only [J46,J42,or_false] at hs
     rw [hs];exact ⟨Int.le_refl _,Int.le_refl _⟩
  ·exact hmore _ h
theorem I62 (l:List Bool):∀s∈S8 l,s.From≤s.To:=H52 l 0 false [] (fun s hs=>by cases hs)
theorem F48 (L:List Span) (ctx:Int) (k:Nat) (h:k < L.length) (i:Nat):L2 (L.take (k+1)) ctx i=(L2 (L.take k) ctx i||decide (L[k].From - ctx≤i∧(i:Int) < L[k].To+ctx)):=by
 unfold L2
 rw [J13 h,List.any_append];simp
theorem E89 {n:Nat} (hn:n≤32):∀(rows:List Row) (a:Int),(0≤a∧a < ((2 ^ n:Nat):Int))→(∀r∈rows,0≤r.Marks∧r.Marks < ((2 ^ n:Nat):Int))→0≤rows.foldl (fun a r=>I8 a r.Marks) a∧rows.foldl (fun a r=>I8 a r.Marks) a < ((2 ^ n:Nat):Int)
 | [],a,h,_=>h
 | x::r,a,h,hr=>by
  have hx:=hr x (by simp)
  have h32:2 ^ n≤2 ^ 32:=Nat.pow_le_pow_right (by decide) hn
  rw [J32]
  refine E89 hn r _ ?_ fun y hy=>hr y (by simp [hy])
  obtain ⟨q,rfl⟩:∃q:Nat,a=q:=⟨a.toNat,by omega⟩
  obtain ⟨m,hm⟩:∃m:Nat,x.Marks=m:=⟨x.Marks.toNat,by omega⟩
  rw [hm] at hx ⊢
  obtain ⟨h3,_⟩:=B18 q m (by omega) (by omega)
  rw [h3]
  have:=Nat.or_lt_two_pow (n:=n) (x:=q) (y:=m) (by omega) (by omega)
  omega
theorem I63 (n A:Nat) (hA:A < 2 ^ n):A=2 ^ n - 1↔((List.range n).all fun p=>!decide ((A:Int) / 2 ^ p % 2=0))=true:=by
 have hbit:∀p,decide ((A:Int) / 2 ^ p % 2=0)=!A.testBit p:=by
  intro p
  have e1:(A:Int) / 2 ^ p % 2=((A / 2 ^ p % 2:Nat):Int):=by simp
  rw [e1,Nat.testBit_eq_decide_div_mod_eq]
  have h2:A / 2 ^ p % 2=0∨A / 2 ^ p % 2=1:=by omega
  rcases h2 with h2 | h2<;>rw [h2]<;>rfl
 rw [List.all_eq_true]
 constructor
 ·rintro rfl p hp
  rw [hbit,Bool.not_not,Nat.testBit_two_pow_sub_one]
  exact decide_eq_true (List.mem_range.1 hp)
 ·intro h
  refine Nat.eq_of_testBit_eq fun p=>?_
  rw [Nat.testBit_two_pow_sub_one]
  by_cases hp:p < n
  ·have:=h p (List.mem_range.2 hp)
   rw [hbit,Bool.not_not] at this
   rw [this,decide_eq_true hp]
  ·rw [decide_eq_false hp]
   exact Nat.testBit_lt_two_pow (Nat.lt_of_lt_of_le hA (Nat.pow_le_pow_right (by decide) (by omega)))
theorem I64 {t:Table} {s:Span} {n:Nat} (hn:t.Parents=n) (hn2:1≤n∧n≤32) (hm:∀r∈t.Rows,0≤r.Marks∧r.Marks < ((2 ^ n:Nat):Int)) (F T:Nat) (hs:s=⟨F,T⟩) :
  decide (w7 ((t.Rows.drop F).take (T - F))=((2 ^ n - 1:Nat):Int))=W2 t s:=by
 obtain ⟨A,hA⟩:∃A,A=w7 ((t.Rows.drop F).take (T - F)):=⟨_,rfl⟩
 have hlow:0≤A∧A < ((2 ^ n:Nat):Int):=by
  rw [hA]
  refine E89 hn2.2 _ 0 ⟨Int.le_refl _,by have:=Nat.pow_pos (n:=n) (show 0 < 2 by decide);omega⟩ fun r hr=>hm r (List.mem_of_mem_drop (List.mem_of_mem_take hr))
 obtain ⟨q,rfl⟩:∃q:Nat,A=q:=⟨A.toNat,by omega⟩
 have hD:W2 t s=(List.range n).all fun p=>!decide ((q:Int) / 2 ^ p % 2=0):=by
  unfold W2;rw [hs,hn];dsimp only;rw [J12,J12,J12,←hA]
 rw [←hA,hD,Bool.eq_iff_iff,decide_eq_true_eq,←I63 n q (by omega)]
 omega
theorem I08 {rows:List Row} {n:Nat} (hr:K4 rows) (h:M3 rows n=true):∀r∈rows,0≤r.Marks∧r.Marks < ((2 ^ n:Nat):Int):=by
 intro r hm
 have h1:=List.all_eq_true.1 h r hm
 unfold R8 at h1
 simp only [J09,beq_iff_eq] at h1
 refine ⟨(hr r hm).1,?_⟩
 have e:(2:Int) ^ n=((2 ^ n:Nat):Int):=by simp
 have h2:=h1.1
 rw [e] at h2
 have hp:(0:Int) < ((2 ^ n:Nat):Int):=by have:=Nat.pow_pos (n:=n) (show 0 < 2 by decide);omega
 have h3:=Int.emod_lt_of_pos r.Marks hp
 have h4:=Int.mul_ediv_add_emod r.Marks ((2 ^ n:Nat):Int)
 rw [h2,Int.mul_zero,Int.zero_add] at h4
 omega
theorem I65 (n:Nat) (hn:1≤n∧n≤32):(4294967295:Int).fdiv (2 ^ (min (32 - (n:Int)).toNat IntKind.u32.bits))=((2 ^ n - 1:Nat):Int):=by
 have h1:min (32 - (n:Int)).toNat IntKind.u32.bits=32 - n:=by
  rw [show (32 - (n:Int)).toNat=32 - n by omega];exact Nat.min_eq_left (by show 32 - n≤32;omega)
 rw [h1,Int.fdiv_eq_ediv_of_nonneg _ (Int.pow_nonneg (by decide))]
 have key:∀k:Fin 33,1≤k.val→(4294967295:Int) / 2 ^ (32 - k.val)=((2 ^ k.val - 1:Nat):Int):=by decide
 exact key ⟨n,by omega⟩ hn.1
end Go.AL
namespace Go.AL
open Go
theorem C39 {p:Nat} (hp:p < 32):2 ^ p < 4294967296:=Nat.pow_lt_pow_right (a:=2) (by decide) hp
theorem C40 {m:Int} {p q:Nat} (hm:0≤m∧m < 4294967296) (hp:p < 32):V0 (I8 m (G3 p)) q=(V0 m q||decide (p=q)):=by
 obtain ⟨k,rfl⟩:∃k:Nat,m=k:=⟨m.toNat,by omega⟩
 have:=C39 hp
 rw [B48 hp,(B18 k (2 ^ p) (by omega) (by omega)).1,m9,m9,Nat.testBit_or,Nat.testBit_two_pow]
theorem E90 {p q:Nat} (hp:p < 32):V0 (G3 p) q=decide (p=q):=by
 rw [B48 hp,m9,Nat.testBit_two_pow]
theorem E91 {m:Int} {p q:Nat} (h:0≤m∧m < ((2 ^ p:Nat):Int)) (hq:p≤q):V0 m q=false:=by
 obtain ⟨k,rfl⟩:∃k:Nat,m=k:=⟨m.toNat,by omega⟩
 rw [m9]
 exact Nat.testBit_lt_two_pow (Nat.lt_of_lt_of_le (by omega) (Nat.pow_le_pow_right (by decide) hq))
def j8 (q:Nat) (l:List Merged):List Int:=E9 (l.filter fun m=>V0 m.Parents q)
theorem Y4 (q:Nat) (a b:List Merged):j8 q (a++b)=j8 q a++j8 q b:=by unfold j8 E9;rw [J48,J19]
theorem C70 {q:Nat} {l:List Merged} (h:∀m∈l,V0 m.Parents q=false):j8 q l=[]:=by
 unfold j8
 rw [List.filter_eq_nil_iff.2 (fun m hm=>by rw [h m hm];decide)];rfl
theorem C41 {p q:Nat} (hp:p < 32) (l:List Int):j8 q (l.map fun v=>(⟨v,G3 p⟩:Merged))=if p=q then l else []:=by
 by_cases h:p=q
 ·rw [if_pos h]
  unfold j8 E9
  rw [List.filter_eq_self.2 (fun m hm=>by obtain ⟨v,_,rfl⟩:=List.mem_map.1 hm;rw [E90 hp];exact decide_eq_true h),J36]
  exact List.map_id _
 ·rw [if_neg h]
  exact C70 fun m hm=>by obtain ⟨v,_,rfl⟩:=List.mem_map.1 hm;rw [E90 hp];exact decide_eq_false h
def LowP (p:Nat) (l:List Merged):Prop:=∀m∈l,0 < m.Parents∧m.Parents < ((2 ^ p:Nat):Int)
theorem LowP.sub {p:Nat} {l l':List Merged} (h:LowP p l) (hs:∀m∈l',m∈l):LowP p l':=fun m hm=>h m (hs m hm)
theorem LowP.up {p:Nat} {l:List Merged} (h:LowP p l):LowP (p+1) l:=fun m hm=>by
 have:=h m hm
 have:2 ^ p≤2 ^ (p+1):=Nat.pow_le_pow_right (by decide) (by omega)
 omega
theorem C42 {p:Nat} {a b:List Merged} (ha:LowP p a) (hb:LowP p b):LowP p (a++b):=fun m hm=>by
 rcases List.mem_append.1 hm with h | h
 ·exact ha m h
 ·exact hb m h
theorem G37 {p:Nat} (hp:p < 32) (l:List Int):LowP (p+1) (l.map fun v=>(⟨v,G3 p⟩:Merged)):=fun m hm=>by
 obtain ⟨v,_,rfl⟩:=List.mem_map.1 hm
 have h1:0 < 2 ^ p:=Nat.pow_pos (by decide)
 have h2:2 ^ (p+1)=2*2 ^ p:=by rw [Nat.pow_succ];omega
 show 0 < G3 p∧G3 p < _
 rw [B48 hp];omega
theorem or_pos {m:Int} {p:Nat} (hp:p < 32) (h:0 < m∧m < ((2 ^ p:Nat):Int)):0 < I8 m (G3 p)∧I8 m (G3 p) < ((2 ^ (p+1):Nat):Int):=by
 have h1:=or_low hp (m:=m) (by omega)
 refine ⟨?_,h1.2⟩
 have h2:=C39 hp
 have h3:=C40 (m:=m) (q:=p) (by omega) hp
 rw [decide_eq_true rfl,Bool.or_true] at h3
 have:I8 m (G3 p)≠0:=fun e=>by rw [e] at h3;simp [V0] at h3
 omega
theorem A02 {α:Type} (l:List α) {a b:Nat} (h:a≤b):l.drop a=(l.drop a).take (b - a)++l.drop b:=by
 have:=J43 (b - a) (l.drop a)
 rw [List.drop_drop,show a+(b - a)=b by omega] at this
 exact this.symm
theorem E92 {l:List Merged} {list:List Int} {p:Nat} (hp:p < 32) (hl:LowP p l):∀(ps:List Span) (i j:Nat),Asc l.length list.length i j ps→(∀x∈ps,(E9 l)[x.From.toNat]?=list[x.To.toNat]?) →
  j8 p (N5 l list (G3 p) i j ps)=list.drop j∧(∀q,q≠p→j8 q (N5 l list (G3 p) i j ps)=j8 q (l.drop i))∧LowP (p+1) (N5 l list (G3 p) i j ps)
 | [],i,j,ha,_=>by
  have e1:(l.drop i).take (l.length - i)=l.drop i:=J35 (by simp)
  have e2:(list.drop j).take (list.length - j)=list.drop j:=J35 (by simp)
  unfold N5
  rw [e1,e2]
  refine ⟨?_,fun q hq=>?_,C42 ((hl.sub fun m hm=>List.mem_of_mem_drop hm).up) (G37 hp _)⟩
  ·rw [Y4,C41 hp,if_pos rfl,C70 fun m hm=>E91 (p:=p) (by have:=hl m (List.mem_of_mem_drop hm);omega) (Nat.le_refl _)];rfl
  ·rw [Y4,C41 hp,if_neg (Ne.symm hq),J25]
 | x :: r,i,j,ha,hx=>by
  obtain ⟨h1,h2,h3⟩:=ha
  have h4:=h3.le
  have e1:((x.From.toNat+1:Nat):Int)=x.From+1:=by omega
  have e2:((x.To.toNat+1:Nat):Int)=x.To+1:=by omega
  obtain ⟨i1,i2,i3⟩:=E92 hp hl r (x.From.toNat+1) (x.To.toNat+1) (by rw [e1,e2];exact h3) (fun y hy=>hx y (List.mem_cons_of_mem _ hy))
  have hF:x.From.toNat < l.length:=by omega
  have hT:x.To.toNat < list.length:=by omega
  have hy:=hl l[x.From.toNat] (J15 hF)
  have hline:l[x.From.toNat].Line=list[x.To.toNat]:=by
   have:=hx x (by simp)
   rw [J05 hT] at this
   unfold E9 at this
   rw [J30,J05 hF] at this
   exact Option.some.inj this
  have h2p:=C39 hp
  have d1:l.drop i=(l.drop i).take (x.From.toNat - i)++l[x.From.toNat]::l.drop (x.From.toNat+1):=by
   rw [←J11 hF];exact A02 l (by omega)
  have d2:list.drop j=(list.drop j).take (x.To.toNat - j)++list[x.To.toNat]::list.drop (x.To.toNat+1):=by
   rw [←J11 hT];exact A02 list (by omega)
  have hM:(l[x.From.toNat]?.map fun y=>(⟨y.Line,I8 y.Parents (G3 p)⟩:Merged)).toList=[⟨l[x.From.toNat].Line,I8 l[x.From.toNat].Parents (G3 p)⟩]:=by rw [J05 hF];rfl
  have hbit:=fun q=>C40 (m:=l[x.From.toNat].Parents) (p:=p) (q:=q) (by omega) hp
  have hA:LowP p ((l.drop i).take (x.From.toNat - i)):=hl.sub fun m hm=>V6 hm
  unfold N5
  rw [hM]
  generalize ha':(l.drop i).take (x.From.toNat - i)=A at hA d1 ⊢
  generalize hb':(list.drop j).take (x.To.toNat - j)=A2 at d2 ⊢
  refine ⟨?_,fun q hq=>?_,?_⟩
  ·rw [Y4,Y4,Y4,i1,C41 hp,if_pos rfl,C70 (l:=A) fun m hm=>E91 (p:=p) (by have:=hA m hm;omega) (Nat.le_refl _),J38,d2]
   have:j8 p [(⟨l[x.From.toNat].Line,I8 l[x.From.toNat].Parents (G3 p)⟩:Merged)]=[list[x.To.toNat]]:=by
    unfold j8
    rw [List.filter_cons_of_pos (by rw [hbit,decide_eq_true rfl,Bool.or_true])]
    show [l[x.From.toNat].Line]=_
    rw [hline]
   rw [this]
   simp
  ·have d3:j8 q (l.drop i)=j8 q A++(j8 q [l[x.From.toNat]]++j8 q (l.drop (x.From.toNat+1))):=by
    rw [d1,←Y4,←Y4];rfl
   rw [Y4,Y4,Y4,i2 q hq,C41 hp,if_neg (Ne.symm hq),J25,d3]
   have:j8 q [(⟨l[x.From.toNat].Line,I8 l[x.From.toNat].Parents (G3 p)⟩:Merged)]=j8 q [l[x.From.toNat]]:=by
    unfold j8
    have hb:V0 (I8 l[x.From.toNat].Parents (G3 p)) q=V0 l[x.From.toNat].Parents q:=by rw [hbit,decide_eq_false (Ne.symm hq),Bool.or_false]
    cases hc:V0 l[x.From.toNat].Parents q
    ·rw [List.filter_cons_of_neg (by rw [hb,hc];decide),List.filter_cons_of_neg (by rw [hc];decide)]
    ·rw [List.filter_cons_of_pos (by rw [hb,hc]),List.filter_cons_of_pos (by rw [hc])]
     rfl
   rw [this]
  ·refine C42 (C42 hA.up (G37 hp _)) (C42 ?_ i3)
   intro m hm
   rw [List.mem_singleton.1 hm]
   exact or_pos hp hy
theorem G38 {l:List Merged} {list:List Int} {p:Nat} (hp:p < 32) (hl:LowP p l) :
  j8 p (O8 l list p)=list∧(∀q,q≠p→j8 q (O8 l list p)=j8 q l)∧LowP (p+1) (O8 l list p):=by
 have hasc:=T3 (E9 l) list 0 0
 rw [Int.zero_add,Int.zero_add,show (E9 l).length=l.length by simp [E9]] at hasc
 have:=E92 (list:=list) hp hl (F3 0 0 (E9 l) list) 0 0 hasc (fun x hx=>by
  obtain ⟨_,_,v,h1,h2⟩:=E76 (E9 l) list 0 0 x hx
  rw [Int.sub_zero] at h1 h2
  rw [h1,h2])
 exact this
theorem B71:∀(ls:List (List Int)) (acc:List Merged) (p:Nat),p+ls.length≤32→LowP p acc→(G6 acc p ls).2=0 →
  LowP (p+ls.length) (G6 acc p ls).1∧(∀q,q < p→j8 q (G6 acc p ls).1=j8 q acc)∧∀t,t < ls.length→j8 (p+t) (G6 acc p ls).1=ls.getD t []
 | [],acc,p,_,ha,_=>⟨ha,fun _ _=>rfl,fun t ht=>absurd ht (Nat.not_lt_zero _)⟩
 | x :: r,acc,p,hp,ha,h=>by
  rw [J07] at hp
  unfold G6 at h ⊢
  split at h
  ·cases h
  ·rename_i hc
   rw [if_neg hc]
   obtain ⟨j1,j2,j3⟩:=G38 (list:=x) (p:=p) (by omega) ha
   obtain ⟨i1,i2,i3⟩:=B71 r (O8 acc x p) (p+1) (by omega) j3 h
   refine ⟨?_,fun q hq=>?_,fun t ht=>?_⟩
   ·rw [J07,show p+(r.length+1)=p+1+r.length by omega];exact i1
   ·exact (i2 q (by omega)).trans (j2 q (by omega))
   ·cases t with
    | zero=>exact (i2 p (by omega)).trans j1
    | succ t =>
     have:=i3 t (by rw [J07] at ht;omega)
     rw [show p+1+t=p+(t+1) by omega] at this
     exact this
theorem D07 {ls:List (List Int)} (h:(E3 ls).2=0):LowP ls.length (E3 ls).1∧∀q,q < ls.length→j8 q (E3 ls).1=ls.getD q []:=by
 unfold E3 at h ⊢
 split at h
 ·cases h
 ·rename_i hc
  rw [if_neg hc]
  obtain ⟨h1,_,h3⟩:=B71 ls [] 0 (by omega) (fun m hm=>by cases hm) h
  rw [Nat.zero_add] at h1
  exact ⟨h1,fun q hq=>by have:=h3 q hq;rwa [Nat.zero_add] at this⟩
theorem B72 (B:Nat):∀(ls:List (List Int)) (acc:List Merged) (p:Nat),(∀x∈ls,x.length≤B)→acc.length+ls.length*B≤4096→(G6 acc p ls).2=0
 | [],acc,p,_,_=>rfl
 | x::r,acc,p,hl,h=>by
  have hx:=hl x (by simp)
  have hj:=A12 acc x p
  rw [J07,J28,Nat.one_mul] at h
  unfold G6
  rw [if_neg (by omega)]
  exact B72 B r (O8 acc x p) (p+1) (fun y hy=>hl y (List.mem_cons_of_mem _ hy)) (by omega)
theorem D08 {B:Nat} {ls:List (List Int)} (hl:∀x∈ls,x.length≤B) (hn:ls.length≤32) (h:ls.length*B≤4096):(E3 ls).2=0:=by
 unfold E3
 rw [if_neg (by omega)]
 exact B72 B ls [] 0 hl (by simpa using h)
end Go.AL
namespace Go.AL
open Go
def n7 {α:Type} (G:Nat→List α) (a b:Nat):List α:=((List.range (b - a)).map fun t=>G (a+t)).flatten
theorem A03 {α:Type} (G:Nat→List α) {a b c:Nat} (h1:a≤b) (h2:b≤c):n7 G a c=n7 G a b++n7 G b c:=by
 unfold n7
 rw [show c - a=(b - a)+(c - b) by omega,List.range_add,J19,J33,J36]
 congr 3
 funext t
 show G (a+(b - a+t))=G (b+t)
 rw [show a+(b - a+t)=b+t by omega]
theorem B31 {α:Type} (G:Nat→List α) (a:Nat):n7 G a (a+1)=G a:=by
 unfold n7
 rw [show a+1 - a=1 by omega]
 simp [J45]
theorem E93 {α:Type} (G:Nat→List α) (a:Nat):n7 G a a=[]:=by unfold n7;simp
theorem A79 {α:Type} {G G':Nat→List α} {a b:Nat} (h:∀k,a≤k→k < b→G k=G' k):n7 G a b=n7 G' a b:=by
 unfold n7
 congr 1
 exact List.map_congr_left fun t ht=>h _ (by omega) (by have:=List.mem_range.1 ht;omega)
theorem D98 {α:Type} {G:Nat→List α} {a b:Nat} (h:∀k,a≤k→k < b→G k=[]):n7 G a b=[]:=by
 rw [A79 (G':=fun _=>[]) h]
 unfold n7
 exact List.flatten_eq_nil_iff.2 fun l hl=>by obtain ⟨t,_,rfl⟩:=List.mem_map.1 hl;rfl
theorem I66 {α β:Type} (f:α→β) (G:Nat→List α) (a b:Nat):n7 (fun k=>(G k).map f) a b=(n7 G a b).map f:=by
 unfold n7
 rw [List.map_flatten,J36];rfl
theorem G39 {α:Type} (l:List α):∀d i,i+d=l.length→n7 (fun k=>(l[k]?).toList) i (l.length+1)=l.drop i
 | 0,i,h=>by
  rw [show l.length+1=i+1 by omega,B31,J31 (by omega),List.drop_of_length_le (by omega)];rfl
 | d+1,i,h=>by
  have hi:i < l.length:=by omega
  rw [A03 _ (show i≤i+1 by omega) (show i+1≤l.length+1 by omega),B31,G39 l d (i+1) (by omega),J05 hi,J11 hi];rfl
def piece (file:List Int) (c:Change):List Int:=(file.drop c.Old.toNat).take ((c.Old+c.OldLen).toNat - c.Old.toNat)
def A19 (file:List Int) (cs:List Change) (k:Nat) (a:List Int):List Int:=cs.foldl (fun a c=>if k=c.New.toNat then piece file c else a) a
theorem E94 {file:List Int} {k:Nat}:∀{cs:List Change} {a:List Int},(∀c∈cs,k≠c.New.toNat)→A19 file cs k a=a
 | [],_,_=>rfl
 | c::r,a,h=>by
  unfold A19
  rw [J32,if_neg (h c (by simp))]
  exact E94 (fun d hd=>h d (List.mem_cons_of_mem _ hd))
theorem E95 (file:List Int) (a b:List Change) (k:Nat) (z:List Int):A19 file (a++b) k z=A19 file b k (A19 file a k z):=by unfold A19;rw [J34]
theorem G40 (p:Nat) (file:List Int) (k:Nat):∀(cs:List Change) (g:Nat→List (List Int)),cs.foldl (J2 p file) g k=(g k).set p (A19 file cs k ((g k).getD p []))
 | [],g=>by
  refine List.ext_getElem? fun q=>?_
  show (g k)[q]?=((g k).set p ((g k).getD p []))[q]?
  rw [List.getElem?_set]
  split
  ·rename_i h;subst h
   split
   ·rename_i h;rw [J08,J05 h];rfl
   ·rename_i h;exact J31 (by omega)
  ·rfl
 | c::r,g=>by
  rw [J32,G40 p file k r]
  have e:J2 p file g c k=if k=c.New.toNat then (g k).set p (piece file c) else g k:=rfl
  rw [e]
  show _=(g k).set p (A19 file r k (if k=c.New.toNat then piece file c else (g k).getD p []))
  split
  ·rw [List.set_set]
   by_cases hp:p < (g k).length
   ·rw [J08,List.getElem?_set_self hp];rfl
   ·rw [List.set_eq_of_length_le (by omega),List.set_eq_of_length_le (by omega)]
  ·rfl
theorem E96 (a b:List Change) (k:Nat):R3 (a++b) k=(R3 a k||R3 b k):=by unfold R3;rw [List.any_append]
theorem I09 {cs:List Change} {k:Nat} (h:∀c∈cs,(k:Int) < c.New):R3 cs k=false:=by
 unfold R3
 rw [List.any_eq_false]
 intro c hc
 have:=h c hc
 rw [decide_eq_true_eq];omega
def D99 (file base:List Int) (cs:List Change) (k:Nat):List Int:=A19 file cs k []++(if R3 cs k=true then [] else (base[k]?).toList)
theorem G41 {file base:List Int}:∀(ps:List Span) (i j:Nat),Asc file.length base.length i j ps→(∀x∈ps,file[x.From.toNat]?=base[x.To.toNat]?) →
  n7 (D99 file base (L9 i j ps file.length base.length)) j (base.length+1)=file.drop i
 | [],i,j,ha,_=>by
  have h1:(i:Int)≤file.length∧(j:Int)≤base.length:=ha
  unfold L9
  rw [A03 _ (show j≤j+1 by omega) (show j+1≤base.length+1 by omega),B31]
  by_cases h:(file.length:Int) > i∨(base.length:Int) > j
  ·rw [if_pos h]
   have e1:∀k,A19 file [⟨i,(file.length:Int) - i,j,(base.length:Int) - j⟩] k []=if k=j then file.drop i else []:=by
    intro k
    show (if k=(j:Int).toNat then piece file _ else [])=_
    rw [J12]
    have e2:piece file ⟨i,(file.length:Int) - i,j,(base.length:Int) - j⟩=file.drop i:=by
     unfold piece
     dsimp only
     rw [J12,J35 (by rw [J22];omega)]
    rw [e2]
   have e3:∀k,j≤k→(if R3 [⟨i,(file.length:Int) - i,j,(base.length:Int) - j⟩] k=true then [] else (base[k]?).toList)=([]:List Int):=by
    intro k hk
    by_cases hk2:k < base.length
    ·rw [if_pos]
     unfold R3
     simp only [List.any_cons,List.any_nil,Bool.or_false,decide_eq_true_eq,J12]
     omega
    ·rw [J31 (by omega)]
     split<;>rfl
   rw [D98 (fun k hk _=>by unfold D99;rw [e1,e3 k (by omega),if_neg (by omega)];rfl)]
   unfold D99
   rw [e1,e3 j (Nat.le_refl _),if_pos rfl];simp
  ·rw [if_neg h,D98 (fun k hk hk2=>by omega)]
   unfold D99
   rw [J31 (by omega),List.drop_of_length_le (by omega)]
   rfl
 | x :: r,i,j,ha,hx=>by
  obtain ⟨h1,h2,h3⟩:=ha
  have h4:=h3.le
  have e1:((x.From.toNat+1:Nat):Int)=x.From+1:=by omega
  have e2:((x.To.toNat+1:Nat):Int)=x.To+1:=by omega
  have ih:=G41 r (x.From.toNat+1) (x.To.toNat+1) (by rw [e1,e2];exact h3) (fun y hy=>hx y (List.mem_cons_of_mem _ hy))
  rw [e1,e2] at ih
  have hbd:=h3.made
  have hv:=hx x (by simp)
  have hF:x.From.toNat < file.length:=by omega
  have hT:x.To.toNat < base.length:=by omega
  have hd:file.drop i=(file.drop i).take (x.From.toNat - i)++(base[x.To.toNat]?.toList++file.drop (x.From.toNat+1)):=by
   rw [←hv,J05 hF]
   show _=_++(file[x.From.toNat]::file.drop (x.From.toNat+1))
   rw [←J11 hF];exact A02 file (by omega)
  unfold L9
  obtain ⟨R,hR⟩:∃R,R=L9 (x.From+1) (x.To+1) r file.length base.length:=⟨_,rfl⟩
  rw [←hR] at hbd ih ⊢
  have outR:∀k:Nat,(k:Int)≤x.To→∀z,A19 file R k z=z:=fun k hk z=>E94 fun c hc=>by have:=hbd c hc;omega
  have outN:∀k:Nat,(k:Int)≤x.To→R3 R k=false:=fun k hk=>I09 fun c hc=>by have:=hbd c hc;omega
  rw [A03 _ (show j≤x.To.toNat by omega) (show x.To.toNat≤base.length+1 by omega),A03 _ (show x.To.toNat≤x.To.toNat+1 by omega) (show x.To.toNat+1≤base.length+1 by omega),B31]
  by_cases h:x.From > i∨x.To > j
  ·rw [if_pos h]
   have l1:∀k,A19 file [⟨i,x.From - i,j,x.To - j⟩] k []=if k=j then (file.drop i).take (x.From.toNat - i) else []:=by
    intro k
    show (if k=(j:Int).toNat then piece file _ else [])=_
    rw [J12]
    have e3:piece file ⟨i,x.From - i,j,x.To - j⟩=(file.drop i).take (x.From.toNat - i):=by
     unfold piece
     dsimp only
     rw [J12,show ((i:Int)+(x.From - i)).toNat=x.From.toNat by omega]
    rw [e3]
   have l2:∀k,R3 [⟨i,x.From - i,j,x.To - j⟩] k=decide (j≤k∧k < x.To.toNat):=by
    intro k
    unfold R3
    simp only [List.any_cons,List.any_nil,Bool.or_false,J12]
    refine decide_eq_decide.2 ?_
    omega
   have hlow:∀k:Nat,(k:Int)≤x.To→D99 file base ([⟨i,x.From - i,j,x.To - j⟩]++R) k=(if k=j then (file.drop i).take (x.From.toNat - i) else [])++(if j≤k∧k < x.To.toNat then [] else (base[k]?).toList):=by
    intro k hk
    unfold D99
    rw [E95,outR k hk,l1,E96,outN k hk,l2,Bool.or_false]
    by_cases hq:j≤k∧k < x.To.toNat
    ·rw [decide_eq_true hq,if_pos (show true=true from rfl),if_pos hq]
    ·rw [decide_eq_false hq,if_neg (show ¬false=true by decide),if_neg hq]
   have hhigh:n7 (D99 file base ([⟨i,x.From - i,j,x.To - j⟩]++R)) (x.To.toNat+1) (base.length+1)=file.drop (x.From.toNat+1):=by
    rw [←ih]
    refine A79 fun k hk hk2=>?_
    unfold D99
    rw [E95,l1,if_neg (by omega),E96,l2,decide_eq_false (by omega),Bool.false_or]
   rw [hhigh,hlow _ (by omega),if_neg (show ¬(j≤x.To.toNat∧x.To.toNat < x.To.toNat) by omega)]
   conv=>rhs;rw [hd]
   by_cases hj:x.To.toNat=j
   ·rw [if_pos hj,hj,E93];simp
   ·rw [if_neg hj,A03 _ (show j≤j+1 by omega) (show j+1≤x.To.toNat by omega),B31,D98 (fun k hk hk2=>by rw [hlow k (by omega),if_neg (by omega),if_pos (by omega)];rfl),hlow j (by omega),if_pos rfl,if_pos (by omega)]
    simp
  ·rw [if_neg h,J38,ih]
   have e3:x.From.toNat=i:=by omega
   have e4:x.To.toNat=j:=by omega
   conv=>rhs;rw [hd]
   rw [e3,e4,E93]
   unfold D99
   rw [outR j (by omega),outN j (by omega),if_neg (by decide)]
   simp
theorem I67 (file base:List Int):n7 (D99 file base (J5 file base)) 0 (base.length+1)=file:=by
 have hasc:=T3 file base 0 0
 rw [Int.zero_add,Int.zero_add] at hasc
 have:=G41 (F3 0 0 file base) 0 0 hasc (fun x hx=>by
  obtain ⟨_,_,v,h1,h2⟩:=E76 file base 0 0 x hx
  rw [Int.sub_zero] at h1 h2
  rw [h1,h2])
 exact this
theorem G42 (ids:List (List Int)) (lines n:Nat):∀p,p≤n→∀k,((M8 ids lines n p).2 k).length=n∧∀q,((M8 ids lines n p).2 k).getD q []=if q < p then A19 (ids.getD (q+1) []) (J5 (ids.getD (q+1) []) (ids.getD 0 [])) k [] else []
 | 0,_,k=>by
  refine ⟨by simp [M8,r9],fun q=>?_⟩
  rw [if_neg (by omega)]
  show (List.replicate n []).getD q []=[]
  rw [J08,List.getElem?_replicate]
  split<;>rfl
 | p+1,hp,k=>by
  obtain ⟨h1,h2⟩:=G42 ids lines n p (by omega) k
  rw [A14]
  have e:(K6 ids (M8 ids lines n p) p).2 k=((M8 ids lines n p).2 k).set p (A19 (ids.getD (p+1) []) (J5 (ids.getD (p+1) []) (ids.getD 0 [])) k (((M8 ids lines n p).2 k).getD p [])):=G40 p _ k _ _
  rw [e,h2 p,if_neg (by omega)]
  refine ⟨by rw [J56,h1],fun q=>?_⟩
  rw [J08,List.getElem?_set]
  by_cases hq:p=q
  ·subst hq
   rw [if_pos rfl,if_pos (by omega),if_pos (by omega)];rfl
  ·rw [if_neg hq,←J08,h2 q]
   by_cases hq2:q < p
   ·rw [if_pos hq2,if_pos (by omega)]
   ·rw [if_neg hq2,if_neg (by omega)]
theorem E97 {ids:List (List Int)} {base:List Int} {n:Nat} (hb:base=ids.getD 0 []) (hl:∀x∈ids,x.length≤4096) (hbl:base.length≤4096):∀p,p≤32→∀(q k:Nat) (v:Int),(n5 ids base.length n p).1[k]?=some v→V0 v q=(decide (q < p)&&R3 (J5 (ids.getD (q+1) []) base) k)
 | 0,_,q,k,v,h=>by
  have:=List.eq_of_mem_replicate (show v∈List.replicate base.length 0 from J26 h)
  subst this
  rw [decide_eq_false (by omega),Bool.false_and]
  simp [V0]
 | p+1,hp,q,k,v,h=>by
  obtain ⟨h1,h2,h3⟩:=B49 (n:=n) hb hl hbl p (by omega)
  rw [B26] at h
  have e:(s7 ids (n5 ids base.length n p) p).1=(J5 (ids.getD (p+1) []) (ids.getD 0 [])).foldl (O2 p) (n5 ids base.length n p).1:=rfl
  rw [e,D77,←hb] at h
  cases hw:(n5 ids base.length n p).1[k]? with
  | none=>rw [hw] at h;cases h
  | some w =>
   rw [hw] at h
   have ih:=E97 (n:=n) hb hl hbl p (by omega) q k w hw
   have hlow:=h2 w (J26 hw)
   have h2p:=C39 (p:=p) (by omega)
   have h:(if R3 (J5 (ids.getD (p+1) []) base) k=true then I8 w (G3 p) else w)=v:=Option.some.inj h
   rw [←h]
   by_cases hq:p=q
   ·subst hq
    rw [decide_eq_false (Nat.lt_irrefl _),Bool.false_and] at ih
    rw [decide_eq_true (by omega),Bool.true_and]
    cases R3 (J5 (ids.getD (p+1) []) base) k
    ·rw [if_neg (by decide),ih]
    ·rw [if_pos rfl,C40 (by omega) (by omega),decide_eq_true rfl,Bool.or_true]
   ·have e2:decide (q < p+1)=decide (q < p):=by by_cases h:q < p<;>simp [h]<;>omega
    rw [e2,←ih]
    split
    ·rw [C40 (by omega) (by omega),decide_eq_false hq,Bool.or_false]
    ·rfl
end Go.AL
namespace Go.AL
open Go
theorem G43 (s:Str):∀(l:List Str) (k:Int),0≤k→s∈l→l[(H1 l s k - k).toNat]?=some s
 | [],_,_,h=>(by cases h)
 | x::r,k,hk,h=>by
  unfold H1
  by_cases hx:x=s
  ·rw [if_pos hx,Int.sub_self,hx];rfl
  ·rw [if_neg hx]
   have hm:s∈r:=by rcases List.mem_cons.1 h with rfl | h;exact absurd rfl hx;exact h
   have h1:=A63 r s (k+1) (by omega) hm
   have h2:=G43 s r (k+1) (by omega) hm
   rw [show (H1 r s (k+1) - k).toNat=(H1 r s (k+1) - (k+1)).toNat+1 by omega,List.getElem?_cons_succ]
   exact h2
def B32 (names:List Str) (v:Int):Str:=names.getD v.toNat []
theorem H53 {names:List Str} {s:Str} (h:s∈names):B32 names (H1 names s 0)=s:=by
 have:=G43 s names 0 (Int.le_refl _) h
 rw [Int.sub_zero] at this
 unfold B32
 rw [J08,this];rfl
theorem H12 {names f:List Str} (h:∀s∈f,s∈names):(J3 names f).map (B32 names)=f:=by
 unfold J3
 rw [J36]
 conv=>rhs;rw [←List.map_id f]
 exact List.map_congr_left fun s hs=>H53 (h s hs)
theorem E98 (G:Nat→List Row) (a b:Nat) (c:Int):J0 (n7 G a b) c=n7 (fun k=>J0 (G k) c) a b:=by
 unfold J0 n7
 rw [List.filter_flatten,List.map_flatten,J36,J36];rfl
theorem C71 (a b:List Row) (c:Int):J0 (a++b) c=J0 a c++J0 b c:=by unfold J0;rw [J48,J19]
theorem E00 (w:Row) {q:Nat} (hq:q < 32):U4 w q=(V0 w.Marks q == w.Lost):=by
 rw [U4,if_neg (by omega),if_neg (by omega),J12]
theorem G44 (f:Int→Str) {q:Nat} (hq:q < 32):∀l:List Merged,J0 (l.map fun m=>(⟨true,m.Parents,f m.Line⟩:Row)) q=(j8 q l).map f
 | []=>rfl
 | m::r=>by
  have ih:=G44 f hq r
  unfold J0 j8 E9 at ih ⊢
  rw [J16,J47,J47,E00 _ hq]
  dsimp only
  rw [show (V0 m.Parents q == true)=V0 m.Parents q by simp]
  cases V0 m.Parents q
  ·rw [if_neg (by decide),if_neg (by decide)];exact ih
  ·rw [if_pos rfl,if_pos rfl,J16,J16,J16,ih]
theorem I10 (f:Int→Str) (l:List Merged):J0 (l.map fun m=>(⟨true,m.Parents,f m.Line⟩:Row)) (-1)=[]:=by
 unfold J0
 rw [List.filter_eq_nil_iff.2]
 ·rfl
 ·intro w hw
  obtain ⟨m,_,rfl⟩:=List.mem_map.1 hw
  simp [U4]
structure Made16 (x:Str) (r:List Str) (rows:List Row):Prop where
 res:J0 rows (-1)=C1 x
 par:∀q,q < r.length→J0 rows q=C1 (r.getD q [])
 marks:M3 rows r.length=true
 texts:∀w∈rows,I5 w.Text=true
theorem C99 {x:Str} {r:List Str} (hx:(C1 x).length≤4096) (hr:∀b∈r,(C1 b).length≤4096) (h:(F7 x r).2=0) :
  (1≤r.length∧r.length≤32)∧(F7 x r).1.Parents=r.length∧Made16 x r (F7 x r).1.Rows:=by
 by_cases hn:r.length < 1∨32 < r.length
 ·rw [F7,if_pos hn] at h;cases h
 obtain ⟨F,hF⟩:∃F,F=C1 x:=⟨_,rfl⟩
 obtain ⟨N,hN⟩:∃N,N=E2 (F::r.map C1):=⟨_,rfl⟩
 obtain ⟨ids,hids⟩:∃ids,ids=(F::r.map C1).map (J3 N):=⟨_,rfl⟩
 obtain ⟨s,hs⟩:∃s,s=M8 ids F.length r.length r.length:=⟨_,rfl⟩
 have hm:F7 x r=if ∃k,k < F.length+1∧(E3 (s.2 k)).2≠0 then (⟨0,[]⟩,1) else (⟨r.length,R9 N F s (F.length+1)⟩,0):=by
  rw [F7,if_neg hn,hs,hids,hN,hF]
 rw [hm] at h ⊢
 split at h
 ·cases h
 rename_i hno
 rw [if_neg hno]
 have hz:∀k,k < F.length+1→(E3 (s.2 k)).2=0:=fun k hk=>Classical.byContradiction fun hc=>hno ⟨k,hk,hc⟩
 refine ⟨by omega,rfl,?_⟩
 dsimp only
 have hrun:R9 N F s (F.length+1)=n7 (P0 N F s) 0 (F.length+1):=by
  unfold R9 n7
  rw [Nat.sub_zero]
  congr 1
  exact List.map_congr_left fun t _=>by rw [Nat.zero_add]
 rw [hrun]
 have hmem:∀f∈F::r.map C1,∀t∈f,t∈N:=fun f hf t ht=>by rw [hN];exact B16 _ t f hf ht
 have hlok:∀f∈F::r.map C1,f.length≤4096∧∀t∈f,I5 t=true:=by
  intro f hf
  rcases List.mem_cons.1 hf with rfl | hf
  ·rw [hF];exact ⟨hx,(A72 x).1⟩
  ·obtain ⟨b,hb,rfl⟩:=List.mem_map.1 hf
   exact ⟨hr b hb,(A72 b).1⟩
 have hil:∀z∈ids,z.length≤4096:=by
  intro z hz
  rw [hids] at hz
  obtain ⟨f,hf,rfl⟩:=List.mem_map.1 hz
  rw [J3,J21];exact (hlok f hf).1
 obtain ⟨base,hb⟩:∃base,base=J3 N F:=⟨_,rfl⟩
 have hb0:base=ids.getD 0 []:=by rw [hb,hids];rfl
 have hbl:base.length=F.length:=by rw [hb,J3,J21]
 have hFl:F.length≤4096:=(hlok F (by simp)).1
 obtain ⟨p1,p2,p3⟩:=B49 (n:=r.length) hb0 hil (by omega) r.length (by omega)
 rw [hbl] at p1 p2 p3
 rw [←hs] at p1
 rw [p1] at p2 p3
 have hmark:=E97 (n:=r.length) hb0 hil (by omega) r.length (by omega)
 rw [hbl,p1] at hmark
 have hgap:=G42 ids F.length r.length r.length (Nat.le_refl _)
 rw [←hs] at hgap
 have hco:=fun k hk=>D07 (hz k hk)
 have hspec:LoomOk (fun v=>0≤v∧v < (N.length:Int)) 4096 F.length r.length s:=by
  rw [hs]
  refine x7 (fun z hz=>⟨hil z hz,fun v hv=>?_⟩) _
  rw [hids,hN] at hz
  rw [hN]
  exact G90 _ z hz v hv
 have hkeep:∀k,k < F.length→∃v,s.1[k]?=some v∧s.1.getD k 0=v∧0≤v∧v < ((2 ^ r.length:Nat):Int):=by
  intro k hk
  refine ⟨s.1[k]'(by omega),J05 _,?_,p2 _ (J15 _)⟩
  rw [J08,J05 (by omega)];rfl
 have hrow:∀w∈n7 (P0 N F s) 0 (F.length+1),R8 r.length w=true∧I5 w.Text=true:=by
  intro w hw
  unfold n7 at hw
  obtain ⟨l,hl,hwl⟩:=List.mem_flatten.1 hw
  obtain ⟨k,hk,rfl⟩:=List.mem_map.1 hl
  have hk:=List.mem_range.1 hk
  rw [Nat.zero_add] at hwl
  have hpw:((2 ^ r.length:Nat):Int)=2 ^ r.length:=by simp
  unfold P0 at hwl
  rcases List.mem_append.1 hwl with hwl | hwl
  ·obtain ⟨m,hmm,rfl⟩:=List.mem_map.1 hwl
   have h1:=(hco k (by omega)).1 m hmm
   rw [(hgap k).1] at h1
   have h2:=((p7 _ 4096 (s.2 k) (hspec.gaps k).2).2 m hmm).2
   refine ⟨?_,?_⟩
   ·unfold R8
    dsimp only
    rw [Int.ediv_eq_zero_of_lt (by omega) (by omega)]
    have:(m.Parents == 0)=false:=by rw [beq_eq_false_iff_ne];omega
    rw [this];decide
   ·show I5 (N.getD m.Line.toNat [])=true
    have h3:m.Line.toNat < N.length:=by omega
    rw [J08,J05 h3]
    have h4:N[m.Line.toNat]∈E2 (F::r.map C1):=by rw [←hN];exact J15 h3
    obtain ⟨f,hf,ht⟩:=List.mem_flatten.1 (C85 _ _ h4)
    exact (hlok f hf).2 _ ht
  ·split at hwl
   ·rename_i hkF
    rw [List.mem_singleton] at hwl
    subst hwl
    obtain ⟨v,_,g2,g3,g4⟩:=hkeep k hkF
    refine ⟨?_,?_⟩
    ·unfold R8
     dsimp only
     rw [g2,Int.ediv_eq_zero_of_lt g3 (by omega)];rfl
    ·show I5 (F.getD k [])=true
     rw [J08,J05 hkF]
     exact (hlok F (by simp)).2 _ (J15 hkF)
   ·cases hwl
 have hid:∀(z:List Str) (k:Nat) (h:k < z.length),z.getD k []=z[k]:=fun z k h=>by rw [J08,J05 h];rfl
 refine ⟨?_,fun q hq=>?_,List.all_eq_true.2 fun w hw=>(hrow w hw).1,fun w hw=>(hrow w hw).2⟩
 ·rw [E98,←hF]
  have:=G39 F F.length 0 (by omega)
  rw [List.drop_zero] at this
  conv=>rhs;rw [←this]
  refine A79 fun k _ hk=>?_
  unfold P0
  rw [C71,show (fun m:Merged=>(⟨true,m.Parents,N.getD m.Line.toNat []⟩:Row))=fun m=>⟨true,m.Parents,B32 N m.Line⟩ from rfl,I10,J38]
  by_cases hkF:k < F.length
  ·rw [if_pos hkF,J05 hkF,hid F k hkF];rfl
  ·rw [if_neg hkF,J31 (by omega)];rfl
 ·obtain ⟨file,hfile⟩:∃file,file=ids.getD (q+1) []:=⟨_,rfl⟩
  have hfq:file=J3 N (C1 (r.getD q [])):=by
   rw [hfile,hids,hid r q hq,J08,J16,List.getElem?_cons_succ,J30,J30,J05 hq];rfl
  have hback:file.map (B32 N)=C1 (r.getD q []):=by
   rw [hfq]
   refine H12 fun t ht=>hmem _ (List.mem_cons_of_mem _ (List.mem_map_of_mem ?_)) t ht
   rw [hid r q hq];exact J15 hq
  have hcol:=I67 file base
  rw [E98,←hback]
  conv=>rhs;rw [←hcol,←I66,hbl]
  refine A79 fun k _ hk=>?_
  have hgk:=(hgap k).2 q
  rw [if_pos hq,←hfile,←hb0] at hgk
  have hck:=(hco k hk).2 q (by rw [(hgap k).1];exact hq)
  unfold P0 D99
  rw [C71,show (fun m:Merged=>(⟨true,m.Parents,N.getD m.Line.toNat []⟩:Row))=fun m=>⟨true,m.Parents,B32 N m.Line⟩ from rfl,G44 (B32 N) (by omega),hck,hgk,J19]
  congr 1
  by_cases hkF:k < F.length
  ·obtain ⟨v,g1,g2,_⟩:=hkeep k hkF
   have hmk:=hmark q k v g1
   rw [decide_eq_true hq,Bool.true_and,←hfile] at hmk
   rw [if_pos hkF,g2]
   unfold J0
   rw [J47,E00 _ (by omega)]
   dsimp only
   rw [hmk]
   cases R3 (J5 file base) k
   ·rw [if_pos (show (false == false)=true from rfl),if_neg (show ¬false=true by decide)]
    have hbk:base[k]?=some (H1 N F[k] 0):=by rw [hb,J3,J30,J05 hkF];rfl
    rw [hbk,hid F k hkF]
    show [F[k]]=[B32 N (H1 N F[k] 0)]
    rw [H53 (hmem F (by simp) _ (J15 hkF))]
   ·rw [if_neg (show ¬(true == false)=true by decide),if_pos (show true=true from rfl)];rfl
  ·rw [if_neg hkF,J31 (by omega)]
   split<;>rfl
theorem Made16.texts16 {x:Str} {r:List Str} {rows:List Row} (h:Made16 x r rows):S7 rows r.length=true:=by
 unfold S7
 rw [J09]
 refine ⟨List.all_eq_true.2 h.texts,List.all_eq_true.2 fun k hk=>?_⟩
 have hk:=List.mem_range.1 hk
 have hl:=fun b=>A75 (C1 b) (A72 b).1 (A72 b).2
 cases k with
 | zero=>rw [show ((0:Nat):Int) - 1 = -1 from rfl,h.res];exact hl x
 | succ q =>
  rw [show ((q+1:Nat):Int) - 1=(q:Int) by omega,h.par q (by omega)];exact hl _
theorem F49 {x:Str} {r:List Str} (hx:(C1 x).length≤4096) (hr:∀b∈r,(C1 b).length≤4096) (h:(F7 x r).2=0):I2 (F7 x r).1=0:=by
 obtain ⟨h1,h2,h3⟩:=C99 hx hr h
 unfold I2
 rw [h2,if_neg (by omega),J12,h3.marks,if_neg (by decide),h3.texts16,if_neg (by decide)]
theorem G45 {x:Str} {r:List Str} {B:Nat} (hn:1≤r.length∧r.length≤32) (hx:(C1 x).length≤B) (hr:∀b∈r,(C1 b).length≤B) (h:r.length*B≤4096):(F7 x r).2=0:=by
 unfold F7
 rw [if_neg (by omega)]
 dsimp only
 rw [if_neg]
 rintro ⟨k,_,hk⟩
 refine hk ?_
 have hok:=(x7 (Q:=fun _=>True) (B:=B) (lines:=(C1 x).length) (n:=r.length) (ids:=(C1 x::r.map C1).map (J3 (E2 (C1 x::r.map C1)))) (fun z hz=>by
  obtain ⟨f,hf,rfl⟩:=List.mem_map.1 hz
  refine ⟨?_,fun _ _=>trivial⟩
  rw [J3,J21]
  rcases List.mem_cons.1 hf with rfl | hf
  ·exact hx
  ·obtain ⟨b,hb,rfl⟩:=List.mem_map.1 hf
   exact hr b hb) r.length).gaps k
 exact D08 (B:=B) (fun z hz=>(hok.2 z hz).1) (by rw [hok.1];exact hn.2) (by rw [hok.1];exact h)
end Go.AL
namespace Go.AL
open Go
def CutSp (m:Nat):Int→List Span→Prop
 | _,[]=>True
 | e,s::r=>e≤s.From∧s.From < s.To∧s.To≤m∧CutSp m s.To r
def endOf (e:Int):List Span→Int
 | []=>e
 | s::r=>endOf s.To r
theorem CutSp.mono {m m':Nat} (hm:m≤m'):∀{sp:List Span} {e:Int},CutSp m e sp→CutSp m' e sp
 | [],_,_=>trivial
 | s::r,e,h=>⟨h.1,h.2.1,by have:=h.2.2.1;omega,CutSp.mono hm h.2.2.2⟩
theorem CutSp.end_le {m:Nat}:∀{sp:List Span} {e:Int},CutSp m e sp→e≤m→endOf e sp≤m
 | [],_,_,he=>he
 | s::r,_,h,_=>CutSp.end_le (sp:=r) (e:=s.To) h.2.2.2 h.2.2.1
theorem cutSp_snoc {m:Nat} {s:Span}:∀{sp:List Span} {e:Int},CutSp m e (sp++[s])↔CutSp m e sp∧endOf e sp≤s.From∧s.From < s.To∧s.To≤m
 | [],e=>⟨fun h=>⟨trivial,h.1,h.2.1,h.2.2.1⟩,fun h=>⟨h.2.1,h.2.2.1,h.2.2.2,trivial⟩⟩
 | x::r,e=>by
  have ih:=cutSp_snoc (m:=m) (s:=s) (sp:=r) (e:=x.To)
  constructor
  ·intro h
   obtain ⟨h1,h2⟩:=ih.1 h.2.2.2
   exact ⟨⟨h.1,h.2.1,h.2.2.1,h1⟩,h2⟩
  ·rintro ⟨h1,h2⟩
   exact ⟨h1.1,h1.2.1,h1.2.2.1,ih.2 ⟨h1.2.2.2,h2⟩⟩
theorem G46:∀(l:List Bool) (i:Nat) (p:Bool) (out:List Span),CutSp i 0 out→(p=true→∃o a,out=o++[⟨a,i⟩])→CutSp (i+l.length) 0 (B92 l i p out)
 | [],i,p,out,h,_=>h
 | b :: r,i,p,out,h,hp=>by
  rw [B92,J07,show i+(r.length+1)=i+1+r.length by omega]
  have key:(b=true→∃o a,(if b=true then W1 (if p=true then out else out++[⟨i,i⟩]) ((i:Int)+1) else out)=o++[⟨a,((i+1:Nat):Int)⟩])∧CutSp (i+1) 0 (if b=true then W1 (if p=true then out else out++[⟨i,i⟩]) ((i:Int)+1) else out):=by
   cases b
   ·exact ⟨fun hb=>(by cases hb),h.mono (by omega)⟩
   ·rw [if_pos rfl]
    cases p
    ·rw [if_neg (by decide),x9]
     refine ⟨fun _=>⟨out,i,by rw [show ((i+1:Nat):Int)=(i:Int)+1 by omega]⟩,?_⟩
     have:=h.end_le (by omega)
     exact cutSp_snoc.2 ⟨h.mono (by omega),this,by dsimp only;omega,by dsimp only;omega⟩
    ·obtain ⟨o,a,rfl⟩:=hp rfl
     rw [if_pos rfl,x9]
     refine ⟨fun _=>⟨o,a,by rw [show ((i+1:Nat):Int)=(i:Int)+1 by omega]⟩,?_⟩
     obtain ⟨h1,h2,h3,h4⟩:=cutSp_snoc.1 h
     dsimp only at h2 h3 h4
     exact cutSp_snoc.2 ⟨h1.mono (by omega),h2,by dsimp only;omega,by dsimp only;omega⟩
  exact G46 r (i+1) b _ key.2 key.1
theorem I11 (l:List Bool):CutSp l.length 0 (S8 l):=by
 have:=G46 l 0 false [] trivial (fun h=>by cases h)
 rwa [Nat.zero_add] at this
def cutH (n:Nat) (rows:List Row) (s:Span):CHunk:=⟨F5 (rows.take s.From.toNat) n,(rows.drop s.From.toNat).take (s.To.toNat - s.From.toNat)⟩
def X0 (n:Nat) (rows:List Row) (sp:List Span):List CHunk:=sp.map (cutH n rows)
theorem E01 (n:Nat) (rows:List Row):∀(sp:List Span) (e:Int) (hs:List CHunk),CutSp rows.length e sp→s9 n rows e hs sp=some (hs++X0 n rows sp)
 | [],_,hs,_=>by simp [s9,X0]
 | s::r,e,hs,h=>by
  obtain ⟨h1,h2,h3,h4⟩:=h
  rw [s9,if_neg (by omega),E01 n rows r _ _ h4]
  simp [X0,cutH]
theorem E02 (a b:List Row) (n k:Nat):N7 (a++b) n k=N7 a n k+N7 b n k:=by
 unfold N7;rw [C71,J06];omega
theorem F50 (a:List Row) (n k:Nat):0≤N7 a n k∧N7 a n k≤a.length:=by
 have:=B45 a (X6 n k)
 unfold N7;omega
theorem C72 (rows:List Row) (n k:Nat) (h:k < n+1):(F5 rows n).getD k 0=N7 rows n k:=A01 _ _ _ h
theorem B93 {α:Type} (rows:List α) {a b:Nat} (h:a≤b):rows.take b=rows.take a++(rows.drop a).take (b - a):=by
 have:=List.take_add (l:=rows) (i:=a) (j:=b - a)
 rwa [show a+(b - a)=b by omega] at this
theorem I68 (n:Nat) (rows:List Row) {s:Span} (h1:0≤s.From) (h2:s.From < s.To):T7 n (cutH n rows s)=F5 (rows.take s.To.toNat) n:=by
 unfold T7 F5
 refine List.map_congr_left fun k hk=>?_
 have hk:=List.mem_range.1 hk
 show (F5 (rows.take s.From.toNat) n).getD k 0+N7 ((rows.drop s.From.toNat).take (s.To.toNat - s.From.toNat)) n k=_
 rw [C72 _ _ _ hk,←E02,←B93 rows (by omega)]
theorem E03 (n:Nat) {rows:List Row} (hl:rows.length≤4096):∀(sp:List Span) (e:Int),0≤e→CutSp rows.length e sp→Y3 n (F5 (rows.take e.toNat) n) (X0 n rows sp)=true
 | [],_,_,_=>rfl
 | s::r,e,he,h=>by
  obtain ⟨h1,h2,h3,h4⟩:=h
  show (B89 n (F5 (rows.take e.toNat) n) (cutH n rows s)&&Y3 n (T7 n (cutH n rows s)) (X0 n rows r))=true
  rw [I68 n rows (by omega) h2,E03 n hl r s.To (by omega) h4,Bool.and_true]
  unfold B89
  rw [J09]
  refine ⟨decide_eq_true ⟨D87 _ _,fun hc=>?_⟩,List.all_eq_true.2 fun k hk=>decide_eq_true ?_⟩
  ·have:((rows.drop s.From.toNat).take (s.To.toNat - s.From.toNat)).length=0:=by
    rw [show (rows.drop s.From.toNat).take (s.To.toNat - s.From.toNat)=[] from hc];rfl
   rw [J20,J22] at this
   omega
  ·have hk:=List.mem_range.1 hk
   show ((F5 (rows.take e.toNat) n).getD k 0≤(F5 (rows.take s.From.toNat) n).getD k 0∧(F5 (rows.take s.From.toNat) n).getD k 0≤4096)∧(F5 (rows.take s.From.toNat) n).getD k 0+N7 ((rows.drop s.From.toNat).take (s.To.toNat - s.From.toNat)) n k≤4096
   rw [C72 _ _ _ hk,C72 _ _ _ hk,←E02,←B93 rows (by omega)]
   have g1:=E02 (rows.take e.toNat) ((rows.drop e.toNat).take (s.From.toNat - e.toNat)) n k
   rw [←B93 rows (by omega)] at g1
   have g2:=F50 ((rows.drop e.toNat).take (s.From.toNat - e.toNat)) n k
   have g3:=F50 (rows.take s.From.toNat) n k
   have g4:=F50 (rows.take s.To.toNat) n k
   rw [J20] at g3 g4
   omega
theorem D00 (n:Nat) (rows:List Row):∀(sp:List Span) (e:Int),0≤e→CutSp rows.length e sp→(j4 (X0 n rows sp)).Sublist (rows.drop e.toNat)
 | [],_,_,_=>List.nil_sublist _
 | s::r,e,he,h=>by
  obtain ⟨h1,h2,h3,h4⟩:=h
  have ih:=D00 n rows r s.To (by omega) h4
  show ((rows.drop s.From.toNat).take (s.To.toNat - s.From.toNat)++j4 (X0 n rows r)).Sublist _
  have e1:rows.drop e.toNat=(rows.drop e.toNat).take (s.From.toNat - e.toNat)++((rows.drop s.From.toNat).take (s.To.toNat - s.From.toNat)++rows.drop s.To.toNat):=by
   rw [←A02 rows (show s.From.toNat≤s.To.toNat by omega)]
   exact A02 rows (by omega)
  rw [e1]
  exact (List.Sublist.append (List.Sublist.refl _) ih).trans (List.sublist_append_right _ _)
theorem E04:∀{l:List Str},U3 l=true→(∀s∈l,I5 s=true)∧R2 l=true
 | [],_=>⟨fun s hs=>(by cases hs),rfl⟩
 | x::r,h=>by
  rw [C86,J09,J09] at h
  obtain ⟨⟨h1,h2⟩,h3⟩:=h
  obtain ⟨i1,i2⟩:=E04 h3
  refine ⟨fun s hs=>?_,?_⟩
  ·rcases List.mem_cons.1 hs with rfl | hs
   ·exact h1
   ·exact i1 s hs
  ·show ((r.isEmpty||ended x)&&R2 r)=true
   rw [h2,i2];rfl
theorem I12 {a b:List Row} {n:Nat} (hs:a.Sublist b) (h:S7 b n=true):S7 a n=true:=by
 unfold S7 at h ⊢
 rw [J09] at h ⊢
 obtain ⟨h1,h2⟩:=h
 refine ⟨List.all_eq_true.2 fun r hr=>List.all_eq_true.1 h1 r (hs.subset hr),List.all_eq_true.2 fun k hk=>?_⟩
 have h3:=E04 (List.all_eq_true.1 h2 k hk)
 have h4:(J0 a ((k:Int) - 1)).Sublist (J0 b ((k:Int) - 1)):=by unfold J0;exact (hs.filter _).map _
 exact A75 _ (fun s hs=>h3.1 s (h4.subset hs)) (A71 h4 h3.2)
theorem E34 {t:Table} (h:I2 t=0):(1≤t.Parents∧t.Parents≤32)∧M3 t.Rows t.Parents.toNat=true∧S7 t.Rows t.Parents.toNat=true:=by
 unfold I2 at h
 split at h
 ·cases h
 ·rename_i h1
  split at h
  ·cases h
  ·rename_i h2
   split at h
   ·cases h
   ·rename_i h3
    exact ⟨by omega,by simpa using h2,by simpa using h3⟩
theorem H13 {path:Str} {t:Table} {sp:List Span} {d:Bool} (hn:S0 path=true) (hc:I2 t=0) (hl:t.Rows.length≤4096) (hsp:CutSp t.Rows.length 0 sp)
  (hW:4*path.length+48+926*t.Rows.length+(t.Rows.map (C69 t.Parents.toNat)).sum≤16777216) :
  v8 path t sp d=(⟨path,d,t.Parents,X0 t.Parents.toNat t.Rows sp⟩,0)∧M4 ⟨path,d,t.Parents,X0 t.Parents.toNat t.Rows sp⟩=0∧(A27 ⟨path,d,t.Parents,X0 t.Parents.toNat t.Rows sp⟩).length≤4*path.length+48+926*t.Rows.length+(t.Rows.map (C69 t.Parents.toNat)).sum:=by
 obtain ⟨h1,h2,h3⟩:=E34 hc
 have hgo:=E01 t.Parents.toNat t.Rows sp 0 [] hsp
 rw [J38] at hgo
 have hsub:=D00 t.Parents.toNat t.Rows sp 0 (Int.le_refl _) hsp
 rw [show (0:Int).toNat=0 from rfl,List.drop_zero] at hsub
 have hw:=I56 ⟨path,d,t.Parents,X0 t.Parents.toNat t.Rows sp⟩
 have hg:=F46 (C69 t.Parents.toNat) (28*(t.Parents.toNat+1)+2) t.Parents.toNat t.Rows sp 0 [] _ (Int.le_refl _) hgo (by simp) (by simp)
 have hlen:(X0 t.Parents.toNat t.Rows sp).length≤t.Rows.length:=by have:=hg.2;simpa using this
 have hmul:(28*(t.Parents.toNat+1)+2)*(X0 t.Parents.toNat t.Rows sp).length≤926*t.Rows.length:=Nat.mul_le_mul (by omega) hlen
 have hsz:(A27 ⟨path,d,t.Parents,X0 t.Parents.toNat t.Rows sp⟩).length≤4*path.length+48+926*t.Rows.length+(t.Rows.map (C69 t.Parents.toNat)).sum:=by
  have:=hg.1
  dsimp only at hw
  omega
 have hck:M4 ⟨path,d,t.Parents,X0 t.Parents.toNat t.Rows sp⟩=0:=by
  unfold M4
  dsimp only
  have m1:n6 t.Parents.toNat (X0 t.Parents.toNat t.Rows sp)=true:=by
   unfold n6
   refine List.all_eq_true.2 fun h hh=>List.all_eq_true.2 fun r hr=>List.all_eq_true.1 h2 r (hsub.subset ?_)
   exact List.mem_flatten.2 ⟨h.Rows,List.mem_map_of_mem hh,hr⟩
  have m2:V3 t.Parents.toNat (X0 t.Parents.toNat t.Rows sp)=true:=by
   unfold V3
   have e0:List.replicate (t.Parents.toNat+1) 0=F5 (t.Rows.take (0:Int).toNat) t.Parents.toNat:=by
    unfold F5
    refine List.ext_getElem (by simp) fun k h1 h2=>?_
    simp [N7,J0]
   rw [e0,E03 _ hl sp 0 (Int.le_refl _) hsp,I12 hsub h3];rfl
  rw [if_neg (by rw [hn];decide),if_neg (by omega),m1,if_neg (by decide),m2,if_neg (by decide),if_neg (by omega)]
 refine ⟨?_,hck,hsz⟩
 unfold v8
 rw [if_neg (by rw [hn];decide),hc,if_neg (by decide),hgo]
 dsimp only
 rw [hck,if_neg (by decide)]
theorem C43 {t:Table} {ctx:Int} (d:Bool) (hc:I2 t=0) (h:0≤ctx∧ctx≤1048576):(L6 t ctx d).2=0∧CutSp t.Rows.length 0 (L6 t ctx d).1:=by
 have hi:(F4 t d).2=0:=by
  unfold F4 T4
  rw [hc,if_neg (show ¬(0:Int)≠0 by decide)]
  rfl
 unfold L6
 rw [hi,if_neg (by decide),if_neg (by omega)]
 refine ⟨rfl,?_⟩
 have:=I11 ((List.range t.Rows.length).map (L2 (F4 t d).1 ctx))
 rwa [J21,J54] at this
end Go.AL
namespace Go.AL
open Go
end Go.AL
namespace Go.AL
open Go
def A38 (f:Nat→Nat):Nat→Nat
 | 0=>0
 | m+1=>A38 f m+f m
theorem E05 {f g:Nat→Nat}:∀{m:Nat},(∀k,f k≤g k)→A38 f m≤A38 g m
 | 0,_=>Nat.le_refl _
 | m+1,h=>by
  have h1:=E05 (f:=f) (g:=g) (m:=m) h
  have h2:=h m
  show A38 f m+f m≤A38 g m+g m
  omega
theorem E99 {f g:Nat→Nat} {k0:Nat} (h:∀k,f k≤g k) (h0:f k0+1≤g k0):∀{m:Nat},k0 < m→A38 f m+1≤A38 g m
 | 0,hm=>absurd hm (Nat.not_lt_zero _)
 | m+1,hm=>by
  show A38 f m+f m+1≤A38 g m+g m
  by_cases hk:k0=m
  ·subst hk
   have:=E05 (f:=f) (g:=g) (m:=k0) h
   omega
  ·have h1:=E99 h h0 (m:=m) (by omega)
   have h2:=h m
   omega
theorem I13 {n:Nat} (hn:n≤32) {r:Row} (h:R8 n r=true):∃k,k < n+1∧U4 r ((k:Int) - 1)=true:=by
 obtain ⟨h1,h2,h3⟩:=C37 h
 cases hl:r.Lost
 ·exact ⟨0,by omega,by rw [show ((0:Nat):Int) - 1 = -1 from rfl,U4,if_pos rfl,hl];rfl⟩
 ·have h4:=h3 hl
  obtain ⟨m,hm⟩:∃m:Nat,r.Marks=m:=⟨r.Marks.toNat,by omega⟩
  have h5:((2 ^ n:Nat):Int)=2 ^ n:=by simp
  have hm0:m≠0:=by omega
  obtain ⟨q,hq⟩:=Nat.exists_testBit_of_ne_zero hm0
  have hqn:q < n:=by
   refine Classical.byContradiction fun hc=>?_
   have:m < 2 ^ n:=by omega
   rw [Nat.testBit_lt_two_pow (Nat.lt_of_lt_of_le this (Nat.pow_le_pow_right (by decide) (by omega)))] at hq
   cases hq
  refine ⟨q+1,by omega,?_⟩
  rw [show ((q+1:Nat):Int) - 1=(q:Int) by omega,E00 _ (by omega),hm,m9,hq,hl];rfl
theorem F00 {f:Nat→Nat} {B:Nat}:∀{m:Nat},(∀k,k < m→f k≤B)→A38 f m≤m*B
 | 0,_=>by simp [A38]
 | m+1,h=>by
  have h1:=F00 (f:=f) (B:=B) (m:=m) fun k hk=>h k (by omega)
  have h2:=h m (by omega)
  show A38 f m+f m≤(m+1)*B
  rw [J28,Nat.one_mul];omega
theorem G47 {n:Nat} (hn:n≤32):∀{rows:List Row},(∀r∈rows,R8 n r=true)→rows.length≤A38 (fun k=>(J0 rows ((k:Int) - 1)).length) (n+1)
 | [],_=>Nat.zero_le _
 | r::rs,h=>by
  have ih:=G47 hn (rows:=rs) fun x hx=>h x (by simp [hx])
  obtain ⟨k,hk,hv⟩:=I13 hn (h r (by simp))
  have:=E99 (f:=fun k=>(J0 rs ((k:Int) - 1)).length) (g:=fun k=>(J0 (r::rs) ((k:Int) - 1)).length) (k0:=k) (fun q=>by
   unfold J0
   simp only [J21,J47]
   split
   ·rw [J07];omega
   ·exact Nat.le_refl _) (by
   unfold J0
   simp only [J21,J47]
   rw [hv,if_pos rfl,J07]
   exact Nat.le_refl _) hk
  rw [J07];omega
theorem Made16.few {x:Str} {r:List Str} {rows:List Row} (h:Made16 x r rows) (hn:r.length≤32) {L:Nat} (hx:(C1 x).length≤L) (hr:∀b∈r,(C1 b).length≤L):rows.length≤(r.length+1)*L:=by
 refine Nat.le_trans (G47 hn (List.all_eq_true.1 h.marks)) (F00 fun k hk=>?_)
 cases k with
 | zero=>rw [show ((0:Nat):Int) - 1 = -1 from rfl,h.res];exact hx
 | succ q =>
  rw [show ((q+1:Nat):Int) - 1=(q:Int) by omega,h.par q (by omega)]
  refine hr _ ?_
  rw [J08,J05 (by omega)]
  exact J15 _
end Go.AL
