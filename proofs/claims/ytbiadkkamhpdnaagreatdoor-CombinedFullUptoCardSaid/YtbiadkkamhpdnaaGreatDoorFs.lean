/- Plain facts about data; no project text. -/
import Derived.Test.YtbiadkkamhpdnaaGreatDoorD
import Derived.Lib.Strings
import Derived.Lib.Bytealg
import Derived.Lib.Join
import Derived.Lib.ItoaNum
import Derived.Test.YtbiadkkamhpdnaaGreatDoorAn
set_option linter.unusedSimpArgs false
namespace Go.AL
open Go
theorem u8_lf (c:UInt8):((c.toNat:Int)=10)↔c=10:=by
 constructor
 ·intro h
  have:c.toNat=10:=by omega
  exact UInt8.toNat_inj.1 (by simpa using this)
 ·rintro rfl;rfl
def H9 (cur:Str):Str→List Str
 | []=>if cur=[] then [] else [cur]
 | c::r=>if c=10 then (cur++[c])::H9 [] r else H9 (cur++[c]) r
def B8 (b:Str):List Str:=H9 [] b
theorem A95 (cur:Str) (s:Str):(H9 cur s).length≤s.length+1:=by
 induction s generalizing cur with
 | nil=>unfold H9;split<;>simp
 | cons c r ih=>unfold H9;split<;>simp<;>(have:=ih [];have:=ih (cur++[c]);omega)
theorem B57 (s:Str):(H9 [] s).length≤s.length:=by
 have key:∀(s cur:Str),cur≠[]→(H9 cur s).length≤s.length+1:=fun s cur _=>A95 cur s
 induction s with
 | nil=>simp [H9]
 | cons c r ih=>unfold H9;split<;>simp<;>(have:=A95 ([]++[c]) r;simp at this;omega)
theorem R5 (b:Str):(B8 b).length≤b.length:=B57 b
theorem s5 (cur r:Str) (c:UInt8):H9 cur (c::r)=if c=10 then (cur++[c])::H9 [] r else H9 (cur++[c]) r:=rfl
theorem F35 (cur:Str) (h:cur≠[]):H9 cur []=[cur]:=by simp [H9,h]
theorem or_pick {p q:Prop} [Decidable p] [Decidable q]:(if decide p=true then true else decide q)=decide (p∨q):=by by_cases p<;>simp [*]
theorem Q2 {p q:Prop} [Decidable p] [Decidable q]:(if decide p=true then decide q else false)=decide (p∧q):=by by_cases p<;>simp [*]
theorem W3 {α:Type} (l:List (List α)) (i:Nat) (h:i < l.length):(l.take (i+1)).flatten=(l.take i).flatten++l[i]:=by
 rw [List.take_add_one,J14 h,Option.toList_some,J42];simp
theorem Z0 {α:Type} (l:List (List α)) (i:Nat):(l.take i).flatten.length≤l.flatten.length:=by
 conv=>rhs;rw [←J50 i l,J42,J15]
 omega
theorem G99 (i:Nat):((i:Int)+1).toNat=i+1:=by omega
theorem E79 {α:Type} (b:List α) (f i:Nat) (hf:f≤i) (hi:i < b.length):(b.drop f).take (i - f)++[b[i]]=(b.drop f).take (i+1 - f):=by
 rw [show i+1 - f=(i - f)+1 by omega,List.take_add_one,J56,show f+(i - f)=i by omega,J14 hi]
 rfl
def ended (s:Str):Bool:=s.getLast? == some 10
def G9:List Str→Str→Int→Int
 | [],_,_ => -1
 | x::r,s,i=>if x=s then i else G9 r s (i+1)
theorem F36 (l:List Str) (s:Str) (k:Nat) (h:k < l.length):G9 (l.drop k) s k=if l[k]=s then (k:Int) else G9 (l.drop (k+1)) s ((k:Int)+1):=by
 rw [J20 h]
 simp [G9]
theorem G14 (l:List Str) (s:Str):∀(k:Int),0≤k→((G9 l s k < 0)↔s∉l):=by
 induction l with
 | nil=>intro k _;simp [G9]
 | cons x r ih =>
  intro k hk
  unfold G9
  by_cases h:x=s
  ·simp [h];omega
  ·have:=ih (k+1) (by omega)
   simp [h,this,Ne.symm h]
def K3 (s:Str):Bool:=s.dropLast.all (·≠10)&&s != []
def B21:List Str→Bool
 | []=>true
 | s::r=>K3 s&&(r.isEmpty||ended s)&&B21 r
def X8 (b:Str):Int:=if b.length > 1048576∨(B8 b).length > 4096 then 1 else 0
def H7 (out:List Str) (s:Str):List Str:=if s∈out then out else out++[s]
def D8 (files:List (List Str)):List Str:=files.flatten.foldl H7 []
def J6 (names:List Str) (file:List Str):List Int:=file.map (fun s=>G9 names s 0)
theorem C64 (out:List Str) (s:Str):(H7 out s).length≤out.length+1:=by unfold H7;split<;>simp
theorem A02 (l out:List Str):(l.foldl H7 out).length≤out.length+l.length:=by
 induction l generalizing out with
 | nil=>simp
 | cons s r ih=>have h1:=ih (H7 out s);have h2:=C64 out s;simp only [J41,J16];omega
theorem B22 (fs:List (List Str)):(D8 fs).length≤fs.flatten.length:=by have:=A02 fs.flatten [];simpa [D8] using this
end Go.AL
namespace Go.AL
open Go
def L9 (i j:Int):List Span→Int→Int→List Change
 | [],m,n=>if m > i∨n > j then [⟨i,m - i,j,n - j⟩] else []
 | x::r,m,n=>(if x.From > i∨x.To > j then [⟨i,x.From - i,j,x.To - j⟩] else [])++L9 (x.From+1) (x.To+1) r m n
def Y0 (p:List Span) (m n:Int):List Change:=L9 0 0 p m n
theorem s6 (p:List Span) (i j m n:Int):(L9 i j p m n).length≤p.length+1:=by
 induction p generalizing i j with
 | nil=>unfold L9;split<;>simp
 | cons x r ih=>unfold L9;have:=ih (x.From+1) (x.To+1);split<;>simp<;>omega
def N4 (i j:Int) (n:Nat):List Span:=(List.range n).map fun (t:Nat)=>⟨i+(t:Int),j+(t:Int)⟩
theorem A03 (i j:Int) (n:Nat):(N4 i j n).length=n:=by simp [N4]
theorem A64 (i j:Int) (n:Nat):N4 i j (n+1)=⟨i,j⟩::N4 (i+1) (j+1) n:=by
 unfold N4
 rw [List.range_succ_eq_map,J24,J44]
 congr 1
 ·simp
 ·refine List.map_congr_left fun t _=>?_
  simp only [Function.comp,Span.mk.injEq]
  omega
def K0 (i j:Int):List Change→Int→List Span
 | [],m=>N4 i j (m - i).toNat
 | c::r,m=>N4 i j (c.Old - i).toNat++K0 (max i c.Old+c.OldLen) (j+(c.Old - i).toNat+c.NewLen) r m
def O9 (l:List Change) (m:Int):List Span:=K0 0 0 l m
def dist:List Int→List Int→Nat
 | [],b=>b.length
 | x::a,[]=>(x::a).length
 | x::a,y::b=>if x=y then dist a b else 1+min (dist a (y::b)) (dist (x::a) b)
theorem A04 (a:List Int):dist a []=a.length:=by cases a<;>simp [dist]
theorem B48 (a b:List Int):dist a b≤a.length+b.length:=by
 induction a generalizing b with
 | nil=>simp [dist]
 | cons x a iha =>
  induction b with
  | nil=>simp [dist]
  | cons y b ihb =>
   unfold dist
   split
   ·have:=iha b;simp;omega
   ·have:=iha (y::b);have:=ihb;simp only [J16] at *;omega
def F0 (i j:Int):List Int→List Int→List Span
 | [],_=>[]
 | _::_,[]=>[]
 | x::a,y::b=>if x=y then ⟨i,j⟩::F0 (i+1) (j+1) a b else if dist a (y::b)+1=dist (x::a) (y::b) then F0 (i+1) j a (y::b) else F0 i (j+1) (x::a) b
def J7 (a b:List Int):List Change:=Y0 (F0 0 0 a b) a.length b.length
theorem E80 (a b:List Int) (i j:Nat) (hi:i < a.length) (hj:j < b.length) :
  dist (a.drop i) (b.drop j)=if a[i]=b[j] then dist (a.drop (i+1)) (b.drop (j+1)) else 1+min (dist (a.drop (i+1)) (b.drop j)) (dist (a.drop i) (b.drop (j+1))):=by
 rw [J20 hi,J20 hj]
 conv=>lhs;rw [dist]
theorem u0 (a b:List Int) (i j:Nat) (hi:i < a.length) (hj:j < b.length) (p q:Int) :
  F0 p q (a.drop i) (b.drop j)=if a[i]=b[j] then ⟨p,q⟩::F0 (p+1) (q+1) (a.drop (i+1)) (b.drop (j+1)) else
   if dist (a.drop (i+1)) (b.drop j)+1=dist (a.drop i) (b.drop j) then F0 (p+1) q (a.drop (i+1)) (b.drop j) else F0 p (q+1) (a.drop i) (b.drop (j+1)):=by
 rw [J20 hi,J20 hj]
 conv=>lhs;rw [F0]
theorem V4 (p q:Int) (b:List Int):F0 p q [] b=[]:=by simp [F0]
theorem X9 (p q:Int) (a:List Int):F0 p q a []=[]:=by cases a<;>simp [F0]
theorem T4 (p q:Int) (a b:List Int):(F0 p q a b).length≤a.length:=by
 induction a generalizing p q b with
 | nil=>simp [F0]
 | cons x a iha =>
  induction b generalizing p q with
  | nil=>simp [F0]
  | cons y b ihb =>
   unfold F0
   split
   ·have:=iha (p+1) (q+1) b;simp;omega
   ·split
    ·have:=iha (p+1) q (y::b);simp;omega
    ·exact ihb p (q+1)
universe u
theorem y4 {α:Type u} (n k:Nat) (f g:Nat→α) (v:α) (hv:k < n→g k=v) (h:∀q,q < n→q≠k→g q=f q):((List.range n).map f).set k v=(List.range n).map g:=by
 refine List.ext_getElem (by simp) fun q h1 h2=>?_
 have hq:q < n:=by simpa using h2
 rw [List.getElem_set]
 by_cases he:k=q
 ·subst he;simp [hv hq]
 ·rw [if_neg he];simp [h q hq (Ne.symm he)]
theorem A45 {α:Type u} (n k:Nat) (f:Nat→α) (h:k < n):((List.range n).map f)[k]?=some (f k):=by simp [h]
def P5 (a b:List Int) (i q:Nat):List Int:=(List.range (b.length+1)).map fun j=>if q≤j then (dist (a.drop i) (b.drop j):Int) else 0
def N8 (a b:List Int) (i:Nat):List (List Int):=(List.range (a.length+1)).map fun r=>if i≤r then P5 a b r 0 else []
def B49 (a b:List Int):List (List Int):=N8 a b 0
theorem D76 (a b:List Int) (i q:Nat):(P5 a b i q).length=b.length+1:=by simp [P5]
theorem w7 (a b:List Int) (i:Nat):(N8 a b i).length=a.length+1:=by simp [N8]
theorem F37 (a b:List Int) (i:Nat):List.replicate (b.length+1) 0=P5 a b i (b.length+1):=by
 refine List.ext_getElem (by simp [P5]) fun q h1 h2=>?_
 have:¬(b.length+1≤q):=by simp at h1;omega
 simp [P5,this]
theorem E41 (a b:List Int):List.replicate (a.length+1) []=N8 a b (a.length+1):=by
 refine List.ext_getElem (by simp [N8]) fun q h1 h2=>?_
 have:¬(a.length+1≤q):=by simp at h1;omega
 simp [N8,this]
theorem G15 (a b:List Int) (i j:Nat):(P5 a b i (j+1)).set j (dist (a.drop i) (b.drop j):Int)=P5 a b i j:=by
 unfold P5
 refine y4 _ _ _ _ _ (fun _=>by simp) fun q hq hne=>?_
 by_cases h:j≤q
 ·rw [if_pos h,if_pos (by omega)]
 ·rw [if_neg h,if_neg (by omega)]
theorem u5 (a b:List Int) (i q j:Nat) (h:q≤j) (hj:j≤b.length):(P5 a b i q)[j]?=some (dist (a.drop i) (b.drop j):Int):=by
 unfold P5
 rw [A45 _ _ _ (by omega),if_pos h]
theorem F38 (a b:List Int) (i:Nat):(N8 a b (i+1)).set i (P5 a b i 0)=N8 a b i:=by
 unfold N8
 refine y4 _ _ _ _ _ (fun _=>by simp) fun q hq hne=>?_
 by_cases h:i≤q
 ·rw [if_pos h,if_pos (by omega)]
 ·rw [if_neg h,if_neg (by omega)]
theorem A65 (a b:List Int) (i r:Nat) (h:i≤r) (hr:r≤a.length):(N8 a b i)[r]?=some (P5 a b r 0):=by
 unfold N8
 rw [A45 _ _ _ (by omega),if_pos h]
def E6 (l:List Merged):List Int:=l.map (·.Line)
theorem j6 (i j:Int):N4 i j 0=[]:=rfl
theorem A66 (i j:Int) (n:Nat):N4 i j (n+1)=N4 i j n++[⟨i+n,j+n⟩]:=by simp [N4,J52]
def Asc (m n:Int):Int→Int→List Span→Prop
 | i,j,[]=>i≤m∧j≤n
 | i,j,x::r=>i≤x.From∧j≤x.To∧Asc m n (x.From+1) (x.To+1) r
theorem Asc.le {m n:Int}:∀{p:List Span} {i j:Int},Asc m n i j p→i≤m∧j≤n
 | [],i,j,h=>h
 | x::r,i,j,h=>by have:=Asc.le h.2.2;have:=h.1;have:=h.2.1;omega
theorem Asc.weaken {m n:Int} {p:List Span} {i j i' j':Int} (h:Asc m n i j p) (hi:i'≤i) (hj:j'≤j):Asc m n i' j' p:=by
 cases p with
 | nil=>exact ⟨by have:=h.1;omega,by have:=h.2;omega⟩
 | cons x r=>exact ⟨by have:=h.1;omega,by have:=h.2.1;omega,h.2.2⟩
theorem T5 (a b:List Int):∀(p q:Int),Asc (p+a.length) (q+b.length) p q (F0 p q a b):=by
 induction a generalizing b with
 | nil=>intro p q;rw [V4];simp only [Asc,J19];omega
 | cons x a iha =>
  induction b with
  | nil=>intro p q;rw [X9];simp only [Asc,J19];omega
  | cons y b ihb =>
   intro p q
   rw [F0]
   split
   ·have:=iha b (p+1) (q+1)
    refine ⟨Int.le_refl _,Int.le_refl _,?_⟩
    simp only [J16]
    rwa [show p+((a.length+1:Nat):Int)=p+1+a.length by omega,show q+((b.length+1:Nat):Int)=q+1+b.length by omega]
   ·split
    ·have:=(iha (y::b) (p+1) q).weaken (i':=p) (j':=q) (by omega) (Int.le_refl _)
     rwa [show p+((x::a).length:Int)=p+1+a.length by simp;omega]
    ·have:=(ihb p (q+1)).weaken (i':=p) (j':=q) (Int.le_refl _) (by omega)
     rwa [show q+((y::b).length:Int)=q+1+b.length by simp;omega]
theorem Asc.made {m n:Int}:∀{p:List Span} {i j:Int},Asc m n i j p→∀c∈L9 i j p m n,i≤c.Old∧j≤c.New∧0≤c.OldLen∧0≤c.NewLen∧c.Old+c.OldLen≤m∧c.New+c.NewLen≤n
 | [],i,j,h,c,hc=>by
  unfold L9 at hc
  split at hc
  ·simp only [List.mem_singleton] at hc;subst hc
   have:=h.1;have:=h.2
   simp only;omega
  ·cases hc
 | x::r,i,j,h,c,hc=>by
  unfold L9 at hc
  obtain ⟨h1,h2,h3⟩:=h
  have h4:=h3.le
  rcases List.mem_append.1 hc with hc | hc
  ·split at hc
   ·simp only [List.mem_singleton] at hc;subst hc
    simp only;omega
   ·cases hc
  ·have:=Asc.made h3 c hc;omega
theorem D77 (i j m:Int) (l:List Change) (h:∀c∈l,i+1≤c.Old) (hm:l=[]→i+1≤m):K0 i j l m=⟨i,j⟩::K0 (i+1) (j+1) l m:=by
 cases l with
 | nil =>
  have:=hm rfl
  rw [K0,K0,show (m - i).toNat=(m - (i+1)).toNat+1 by omega,A64]
 | cons c r =>
  have:=h c (List.mem_cons_self ..)
  rw [K0,K0,show (c.Old - i).toNat=(c.Old - (i+1)).toNat+1 by omega,A64]
  rw [show max (i+1) c.Old=max i c.Old by omega,show (j+1+((c.Old - (i+1)).toNat:Int))=j+(((c.Old - (i+1)).toNat+1:Nat):Int) by omega]
  rfl
theorem C27 {m n:Int}:∀{p:List Span} {i j:Int},Asc m n i j p→K0 i j (L9 i j p m n) m=p
 | [],i,j,h=>by
  have h1:=h.1;have h2:=h.2
  unfold L9
  split
  ·rw [K0,K0,show (i - i).toNat=0 by omega,show (m - (max i i+(m - i))).toNat=0 by omega];rfl
  ·rw [K0,show (m - i).toNat=0 by omega];rfl
 | x::r,i,j,h=>by
  obtain ⟨h1,h2,h3⟩:=h
  have ih:=C27 h3
  have hm:=h3.le
  have hd:=D77 x.From x.To m (L9 (x.From+1) (x.To+1) r m n) (fun c hc=>(h3.made c hc).1) (fun _=>hm.1)
  rw [ih] at hd
  unfold L9
  split
  ·rw [J62,K0,show (i - i).toNat=0 by omega,show max i i+(x.From - i)=x.From by omega,show j+((0:Nat):Int)+(x.To - j)=x.To by omega,hd];rfl
  ·have e1:i=x.From:=by omega
   have e2:j=x.To:=by omega
   rw [J43,e1,e2,hd]
theorem A67 (a b:List Int):O9 (J7 a b) a.length=F0 0 0 a b:=by
 have:=T5 a b 0 0
 rw [Int.zero_add,Int.zero_add] at this
 exact C27 this
theorem A68 (a b:List Int):∀c∈J7 a b,0≤c.Old∧0≤c.New∧0≤c.OldLen∧0≤c.NewLen∧c.Old+c.OldLen≤a.length∧c.New+c.NewLen≤b.length:=by
 have:=T5 a b 0 0
 rw [Int.zero_add,Int.zero_add] at this
 exact this.made
def G4 (p:Int):Int:=IntKind.u32.wrap (1*2 ^ (min (IntKind.u64.wrap p).toNat IntKind.u32.bits))
def I8 (a b:Int):Int:=IntKind.u32.wrap ((BitVec.ofInt IntKind.u32.bits a ||| BitVec.ofInt IntKind.u32.bits b).toNat:Int)
def N6 (l:List Merged) (list:List Int) (bit:Int) (i j:Nat):List Span→List Merged
 | []=>(l.drop i).take (l.length - i)++((list.drop j).take (list.length - j)).map fun v=>⟨v,bit⟩
 | x::r=>(l.drop i).take (x.From.toNat - i)++(((list.drop j).take (x.To.toNat - j)).map fun v=>⟨v,bit⟩)++((l[x.From.toNat]?.map fun y=>(⟨y.Line,I8 y.Parents bit⟩:Merged)).toList++N6 l list bit (x.From.toNat+1) (x.To.toNat+1) r)
def O7 (l:List Merged) (list:List Int) (p:Int):List Merged:=N6 l list (G4 p) 0 0 (F0 0 0 (E6 l) list)
theorem A05 {α:Type} (l:List α) (i t:Nat) (h:i+t < l.length):(l.drop i).take (t+1)=(l.drop i).take t++[l[i+t]]:=by
 rw [List.take_add_one,J56,J14 h];rfl
theorem B74 (l:List Merged) (list:List Int) (bit:Int):∀(p:List Span) (i j:Nat),(N6 l list bit i j p).length≤l.length*(p.length+1)+list.length*(p.length+1)+p.length
 | [],i,j=>by simp [N6];omega
 | x::r,i,j=>by
  have:=B74 l list bit r (x.From.toNat+1) (x.To.toNat+1)
  have h1:((l.drop i).take (x.From.toNat - i)).length≤l.length:=by simp;omega
  have h2:((list.drop j).take (x.To.toNat - j)).length≤list.length:=by simp;omega
  have h3:((l[x.From.toNat]?.map fun y=>(⟨y.Line,I8 y.Parents bit⟩:Merged)).toList).length≤1:=by cases l[x.From.toNat]?<;>simp
  simp only [N6,J15,J29,J16,Nat.mul_add,Nat.mul_one] at *
  omega
end Go.AL
namespace Go.AL
open Go
def V5 (m:Int) (c:Nat):Bool:=m / 2 ^ c % 2 == 1
def b9 (r:Row) (c:Int):Bool:=if c = -1 then !r.Lost else if c < -1∨32≤c then false else V5 r.Marks c.toNat == r.Lost
def M8 (rows:List Row) (c:Int):List Str:=(rows.filter (b9 · c)).map (·.Text)
def T6 (n:Nat) (r:Row):Bool:=r.Marks / 2 ^ n == 0&&!(r.Lost&&r.Marks == 0)
def P6 (rows:List Row) (n:Nat):Bool:=rows.all (T6 n)
def j7 (rows:List Row) (n:Nat):Bool:=rows.all (fun r=>K3 r.Text)&&(List.range (n+1)).all fun k=>B21 (M8 rows ((k:Int) - 1))
def J2 (t:Table):Int:=if t.Parents < 1∨32 < t.Parents then 2 else if P6 t.Rows t.Parents.toNat=false then 180 else if j7 t.Rows t.Parents.toNat=false then 4 else 0
theorem C28 (r:Row) (rs:List Row) (n:Nat):P6 (r::rs) n=(T6 n r&&P6 rs n):=rfl
def L3 (rows:List Row):Prop:=∀r∈rows,0≤r.Marks∧r.Marks < 4294967296
def V6 (rows:List Row):Nat:=(rows.map (·.Text)).flatten.length
theorem C65 (rows:List Row) (c:Int):(M8 rows c).length≤rows.length:=by unfold M8;rw [J29];exact List.length_filter_le _ _
theorem G16 (rows:List Row):∀r∈rows,r.Text.length≤V6 rows:=by
 intro r hr
 unfold V6
 exact (List.sublist_flatten_of_mem (List.mem_map_of_mem hr)).length_le
theorem G17 (x:Int) (h:0≤x∧x < 4294967296):IntKind.u32.wrap ((BitVec.ofInt IntKind.u32.bits x &&& BitVec.ofInt IntKind.u32.bits 1).toNat:Int)=x % 2:=by
 have h1:(BitVec.ofInt IntKind.u32.bits x &&& BitVec.ofInt IntKind.u32.bits 1).toNat=x.toNat % 2:=by
  rw [BitVec.toNat_and,BitVec.toNat_ofInt,BitVec.toNat_ofInt]
  have e1:(x % ((2 ^ IntKind.u32.bits:Nat):Int)).toNat=x.toNat:=by
   rw [show ((2 ^ IntKind.u32.bits:Nat):Int)=4294967296 by rfl];omega
  have e2:((1:Int) % ((2 ^ IntKind.u32.bits:Nat):Int)).toNat=1:=by rfl
  rw [e1,e2,Nat.and_one_is_mod]
 rw [h1]
 have h2:IntKind.u32.wrap ((x.toNat % 2:Nat):Int)=((x.toNat % 2:Nat):Int):=by
  simp [IntKind.wrap,IntKind.signed,IntKind.bits];omega
 rw [h2];omega
theorem H00 {n:Int} (h:0≤n∧n < 18446744073709551616):IntKind.u64.wrap n=n:=by simp [IntKind.wrap,IntKind.signed,IntKind.bits];omega
theorem H47 (m c:Int) (hc:0≤c∧c≤32):m.fdiv (2 ^ (min c.toNat IntKind.u32.bits))=m / 2 ^ c.toNat:=by
 rw [show min c.toNat IntKind.u32.bits=c.toNat from Nat.min_eq_left (by show c.toNat≤32;omega),Int.fdiv_eq_ediv_of_nonneg _ (Int.pow_nonneg (by decide))]
theorem shr_eq (m c:Int) (b:Nat) (hc:0≤c∧c≤b):m.fdiv (2 ^ (min c.toNat b))=m / 2 ^ c.toNat:=by
 rw [show min c.toNat b=c.toNat by omega,Int.fdiv_eq_ediv_of_nonneg _ (Int.pow_nonneg (by decide))]
end Go.AL
namespace Go.AL
open Go
theorem F39 (n:Int):0≤IntKind.u32.wrap n∧IntKind.u32.wrap n < 4294967296:=by simp [IntKind.wrap,IntKind.signed,IntKind.bits];omega
def Z8 (a b:Int):Int:=IntKind.u32.wrap ((BitVec.ofInt IntKind.u32.bits a &&& ~~~BitVec.ofInt IntKind.u32.bits b).toNat:Int)
def G5 (acc:List Merged) (p:Nat):List (List Int)→List Merged × Int
 | []=>(acc,0)
 | x::r=>if 4096 < acc.length∨4096 < x.length then ([],1) else G5 (O7 acc x p) (p+1) r
def D9 (lists:List (List Int)):List Merged × Int:=if 32 < lists.length then ([],1) else G5 [] 0 lists
theorem C95 (l:List Merged) (list:List Int) (bit:Int):∀(ps:List Span) (i j:Nat),i≤l.length→j≤list.length→Asc l.length list.length i j ps→(N6 l list bit i j ps).length≤(l.length - i)+(list.length - j)
 | [],i,j,hi,hj,_=>by simp [N6]
 | x::r,i,j,hi,hj,ha=>by
  obtain ⟨h1,h2,h3⟩:=ha
  have h4:=h3.le
  have e1:((x.From.toNat+1:Nat):Int)=x.From+1:=by omega
  have e2:((x.To.toNat+1:Nat):Int)=x.To+1:=by omega
  have ih:=C95 l list bit r (x.From.toNat+1) (x.To.toNat+1) (by omega) (by omega) (by rw [e1,e2];exact h3)
  have h5:((l[x.From.toNat]?.map fun y=>(⟨y.Line,I8 y.Parents bit⟩:Merged)).toList).length≤1:=by cases l[x.From.toNat]?<;>simp
  simp only [N6,J15,J29,J36,J31]
  omega
theorem A21 (l:List Merged) (list:List Int) (p:Int):(O7 l list p).length≤l.length+list.length:=by
 have hasc:=T5 (E6 l) list 0 0
 rw [Int.zero_add,Int.zero_add,show (E6 l).length=l.length by simp [E6]] at hasc
 have:=C95 l list (G4 p) (F0 0 0 (E6 l) list) 0 0 (Nat.zero_le _) (Nat.zero_le _) hasc
 simpa [O7] using this
theorem W0 {α:Type} {l:List α} {i n:Nat} {x:α} (h:x∈(l.drop i).take n):x∈l:=List.mem_of_mem_drop (List.mem_of_mem_take h)
theorem D78 (l:List Merged) (list:List Int) (bit:Int) (hb:0≤bit∧bit < 4294967296) (hl:∀m∈l,0≤m.Parents∧m.Parents < 4294967296) (Q:Int→Prop) (hq1:∀m∈l,Q m.Line) (hq2:∀v∈list,Q v) :
  ∀(ps:List Span) (i j:Nat),∀m∈N6 l list bit i j ps,(0≤m.Parents∧m.Parents < 4294967296)∧Q m.Line
 | [],i,j,m,hm=>by
  rcases List.mem_append.1 hm with h | h
  ·have:=W0 h;exact ⟨hl _ this,hq1 _ this⟩
  ·obtain ⟨v,hv,rfl⟩:=List.mem_map.1 h
   exact ⟨hb,hq2 _ (W0 hv)⟩
 | x :: r,i,j,m,hm=>by
  unfold N6 at hm
  rcases List.mem_append.1 hm with h | h
  ·rcases List.mem_append.1 h with h | h
   ·have:=W0 h;exact ⟨hl _ this,hq1 _ this⟩
   ·obtain ⟨v,hv,rfl⟩:=List.mem_map.1 h
    exact ⟨hb,hq2 _ (W0 hv)⟩
  ·rcases List.mem_append.1 h with h | h
   ·cases hx:l[x.From.toNat]? with
    | none=>simp [hx] at h
    | some y =>
     simp [hx] at h
     subst h
     exact ⟨F39 _,hq1 y (J30 hx)⟩
   ·exact D78 l list bit hb hl Q hq1 hq2 r _ _ m h
theorem A22 (Q:Int→Prop) (B:Nat):∀(ls:List (List Int)) (acc:List Merged) (p:Nat),(∀x∈ls,x.length≤B∧∀v∈x,Q v)→(∀m∈acc,(0≤m.Parents∧m.Parents < 4294967296)∧Q m.Line) →
  (G5 acc p ls).1.length≤acc.length+ls.length*B∧∀m∈(G5 acc p ls).1,(0≤m.Parents∧m.Parents < 4294967296)∧Q m.Line
 | [],acc,p,_,ha=>by simp only [G5];exact ⟨by simp,ha⟩
 | x::r,acc,p,hl,ha=>by
  unfold G5
  split
  ·exact ⟨by simp,by simp⟩
  ·have hx:=hl x (List.mem_cons_self ..)
   have hj:=A21 acc x p
   have hm:=D78 acc x (G4 p) (F39 _) (fun m hm=>(ha m hm).1) Q (fun m hm=>(ha m hm).2) hx.2 (F0 0 0 (E6 acc) x) 0 0
   have ih:=A22 Q B r (O7 acc x p) (p+1) (fun y hy=>hl y (List.mem_cons_of_mem _ hy)) hm
   refine ⟨?_,ih.2⟩
   have h1:=ih.1
   have h2:=hx.1
   simp only [J16,J37,Nat.one_mul]
   omega
theorem s7 (Q:Int→Prop) (B:Nat) (ls:List (List Int)) (h:∀x∈ls,x.length≤B∧∀v∈x,Q v):(D9 ls).1.length≤ls.length*B∧∀m∈(D9 ls).1,(0≤m.Parents∧m.Parents < 4294967296)∧Q m.Line:=by
 unfold D9
 split
 ·exact ⟨by simp,by simp⟩
 ·have:=A22 Q B ls [] 0 h (by simp)
  simpa using this
def K1 (p:Int) (ms:List Int) (x:Span):List Int:=ms.set x.To.toNat (Z8 (ms.getD x.To.toNat 0) (G4 p))
def J3 (p:Nat) (file:List Int) (g:Nat→List (List Int)) (c:Change):Nat→List (List Int):=fun k =>
 if k=c.New.toNat then (g k).set p ((file.drop c.Old.toNat).take ((c.Old+c.OldLen).toNat - c.Old.toNat)) else g k
abbrev Loom:=List Int × (Nat→List (List Int))
def K7 (ids:List (List Int)) (s:Loom) (p:Nat):Loom :=
 let file:=ids.getD (p+1) []
 let sc:=J7 file (ids.getD 0 [])
 ((O9 sc file.length).foldl (K1 p) (s.1.map (I8 · (G4 p))),sc.foldl (J3 p file) s.2)
def u6 (lines n:Nat):Loom:=(List.replicate lines 0,fun _=>List.replicate n [])
def M9 (ids:List (List Int)) (lines n p:Nat):Loom:=(List.range p).foldl (K7 ids) (u6 lines n)
def P0 (names:List Str) (file:List Str) (s:Loom) (k:Nat):List Row :=
 (D9 (s.2 k)).1.map (fun m=>(⟨true,m.Parents,names.getD m.Line.toNat []⟩:Row))++(if k < file.length then [⟨false,s.1.getD k 0,file.getD k []⟩] else [])
def S3 (names:List Str) (file:List Str) (s:Loom) (k:Nat):List Row:=((List.range k).map (P0 names file s)).flatten
def F3 (result:Str) (parents:List Str):Table × Int :=
 if parents.length < 1∨32 < parents.length then (⟨0,[]⟩,2) else
 let fs:=B8 result::parents.map B8
 let names:=D8 fs
 let s:=M9 (fs.map (J6 names)) (B8 result).length parents.length parents.length
 if ∃k,k < (B8 result).length+1∧(D9 (s.2 k)).2≠0 then (⟨0,[]⟩,1) else (⟨parents.length,S3 names (B8 result) s ((B8 result).length+1)⟩,0)
theorem a8 (names file:List Str) (s:Loom) (k:Nat):S3 names file s (k+1)=S3 names file s k++P0 names file s k:=by
 unfold S3;rw [J52,J28,J42];simp
structure LoomOk (Q:Int→Prop) (B lines n:Nat) (s:Loom):Prop where
 len:s.1.length=lines
 marks:∀m∈s.1,0≤m∧m < 4294967296
 gaps:∀k,(s.2 k).length=n∧∀x∈s.2 k,x.length≤B∧∀v∈x,Q v
theorem I54 (Q:Int→Prop) (B lines n:Nat):LoomOk Q B lines n (u6 lines n) where
 len:=by simp [u6]
 marks:=fun m hm=>by have:=List.eq_of_mem_replicate hm;subst this;decide
 gaps:=fun k=>⟨by simp [u6],fun x hx=>by have:=List.eq_of_mem_replicate hx;subst this;simp⟩
theorem I02 {Q:Int→Prop} {B n p:Nat} {file:List Int} (hf:file.length≤B∧∀v∈file,Q v) {g:Nat→List (List Int)} (hg:∀k,(g k).length=n∧∀x∈g k,x.length≤B∧∀v∈x,Q v) (c:Change) :
  ∀k,(J3 p file g c k).length=n∧∀x∈J3 p file g c k,x.length≤B∧∀v∈x,Q v:=by
 intro k
 unfold J3
 split
 ·refine ⟨by rw [J67];exact (hg k).1,fun x hx=>?_⟩
  rcases List.mem_or_eq_of_mem_set hx with h | rfl
  ·exact (hg k).2 x h
  ·exact ⟨by simp;omega,fun v hv=>hf.2 v (W0 hv)⟩
 ·exact hg k
theorem A69 {Q:Int→Prop} {B n p:Nat} {file:List Int} (hf:file.length≤B∧∀v∈file,Q v):∀(sc:List Change) {g:Nat→List (List Int)},(∀k,(g k).length=n∧∀x∈g k,x.length≤B∧∀v∈x,Q v) →
  ∀k,(sc.foldl (J3 p file) g k).length=n∧∀x∈sc.foldl (J3 p file) g k,x.length≤B∧∀v∈x,Q v
 | [],_,hg=>hg
 | c::r,_,hg=>A69 hf r (I02 hf hg c)
theorem G18 {p:Int} {ms:List Int} {x:Span} (h:∀m∈ms,0≤m∧m < 4294967296):(K1 p ms x).length=ms.length∧∀m∈K1 p ms x,0≤m∧m < 4294967296:=by
 refine ⟨by simp [K1],fun m hm=>?_⟩
 rcases List.mem_or_eq_of_mem_set hm with h' | rfl
 ·exact h m h'
 ·exact F39 _
theorem B23 {p:Int}:∀(ps:List Span) {ms:List Int},(∀m∈ms,0≤m∧m < 4294967296)→(ps.foldl (K1 p) ms).length=ms.length∧∀m∈ps.foldl (K1 p) ms,0≤m∧m < 4294967296
 | [],ms,h=>⟨rfl,h⟩
 | x::r,ms,h=>by
  have h1:=G18 (p:=p) (x:=x) h
  have h2:=B23 (p:=p) r h1.2
  exact ⟨h2.1.trans h1.1,h2.2⟩
theorem E42 {Q:Int→Prop} {B lines n:Nat} {ids:List (List Int)} (hids:∀x∈ids,x.length≤B∧∀v∈x,Q v) {s:Loom} (h:LoomOk Q B lines n s) (p:Nat):LoomOk Q B lines n (K7 ids s p):=by
 have hf:(ids.getD (p+1) []).length≤B∧∀v∈ids.getD (p+1) [],Q v:=by
  rw [J17]
  cases hx:ids[p+1]? with
  | none=>simp
  | some x=>exact hids x (J30 hx)
 have hr:∀m∈s.1.map (I8 · (G4 p)),0≤m∧m < 4294967296:=fun m hm=>by
  obtain ⟨v,_,rfl⟩:=List.mem_map.1 hm;exact F39 _
 have hc:=B23 (p:=p) (O9 (J7 (ids.getD (p+1) []) (ids.getD 0 [])) (ids.getD (p+1) []).length) hr
 exact { len:=by rw [K7];simp only;rw [hc.1,J29];exact h.len,marks:=hc.2,gaps:=A69 hf _ h.gaps }
theorem A23 (ids:List (List Int)) (lines n p:Nat):M9 ids lines n (p+1)=K7 ids (M9 ids lines n p) p:=by
 unfold M9;rw [J52,J45];rfl
theorem y5 {Q:Int→Prop} {B lines n:Nat} {ids:List (List Int)} (hids:∀x∈ids,x.length≤B∧∀v∈x,Q v):∀p,LoomOk Q B lines n (M9 ids lines n p)
 | 0=>I54 Q B lines n
 | p+1=>by rw [A23];exact E42 hids (y5 hids p) p
theorem A70 (l:List Str) (s:Str):∀k:Int,0≤k→s∈l→k≤G9 l s k∧G9 l s k < k+l.length:=by
 induction l with
 | nil=>intro k _ h;cases h
 | cons x r ih =>
  intro k hk h
  unfold G9
  by_cases hx:x=s
  ·rw [if_pos hx];simp;omega
  ·rw [if_neg hx]
   have:=ih (k+1) (by omega) (by rcases List.mem_cons.1 h with rfl | h;exact absurd rfl hx;exact h)
   simp only [J16];omega
theorem D18 (l:List Str):∀(out:List Str) (s:Str),s∈out∨s∈l→s∈l.foldl H7 out:=by
 induction l with
 | nil=>intro out s h;rcases h with h | h;exact h;cases h
 | cons x r ih =>
  intro out s h
  apply ih
  rcases h with h | h
  ·left;unfold H7;split;exact h;exact List.mem_append_left _ h
  ·rcases List.mem_cons.1 h with rfl | h
   ·left;unfold H7;split;assumption;simp
   ·exact .inr h
theorem B24 (fs:List (List Str)) (s:Str) (f:List Str) (hf:f∈fs) (hs:s∈f):s∈D8 fs:=D18 _ _ _ (.inr (List.mem_flatten.2 ⟨f,hf,hs⟩))
theorem H01 (fs:List (List Str)):∀x∈fs.map (J6 (D8 fs)),∀v∈x,0≤v∧v < (D8 fs).length:=by
 intro x hx v hv
 obtain ⟨f,hf,rfl⟩:=List.mem_map.1 hx
 obtain ⟨s,hs,rfl⟩:=List.mem_map.1 hv
 have:=A70 (D8 fs) s 0 (Int.le_refl _) (B24 fs s f hf hs)
 omega
theorem D19 (l:List Str):∀(out:List Str) (s:Str),s∈l.foldl H7 out→s∈out∨s∈l:=by
 induction l with
 | nil=>intro out s h;exact .inl h
 | cons x r ih =>
  intro out s h
  rcases ih _ _ h with h | h
  ·unfold H7 at h
   split at h
   ·exact .inl h
   ·rcases List.mem_append.1 h with h | h
    ·exact .inl h
    ·simp at h;subst h;exact .inr (by simp)
  ·exact .inr (List.mem_cons_of_mem _ h)
theorem C96 (fs:List (List Str)) (s:Str) (h:s∈D8 fs):s∈fs.flatten:=by
 rcases D19 _ _ _ h with h | h
 ·cases h
 ·exact h
end Go.AL
namespace Go.AL
open Go
theorem C29 (s:Str):Lib.hasSuffix s [10]=ended s:=by
 unfold Lib.hasSuffix ended
 rw [Bool.eq_iff_iff,List.isSuffixOf_iff_suffix,beq_iff_eq]
 constructor
 ·rintro ⟨t,rfl⟩;simp
 ·intro h
  obtain ⟨hne,h2⟩:=List.getLast?_eq_some_iff.1 h
  exact ⟨hne,h2.symm⟩
def B25 (s:Str):Str:=if ended s then s.dropLast else s
theorem E43 (s:Str):Lib.trimSuffix s [10]=B25 s:=by
 unfold Lib.trimSuffix B25
 rw [C29,List.dropLast_eq_take];rfl
theorem w8 (c:UInt8):∀l:Str,(c∉l∧Lib.indexByte l c = -1)∨∃a b,l=a++c::b∧c∉a∧Lib.indexByte l c=a.length
 | []=>.inl ⟨by simp,rfl⟩
 | x::l=>by
  unfold Lib.indexByte
  by_cases hx:x=c
  ·exact .inr ⟨[],l,by rw [hx];rfl,by simp,by simp [hx]⟩
  ·rcases w8 c l with ⟨h1,h2⟩ | ⟨a,b,h1,h2,h3⟩
   ·exact .inl ⟨by simp [h1,Ne.symm hx],by simp [hx,h2]⟩
   ·refine .inr ⟨x::a,b,by rw [h1];rfl,by simp [h2,Ne.symm hx],?_⟩
    have h4:¬((a.length:Int) = -1):=by omega
    simp [hx,h3,h4]
theorem E44 (c:UInt8) (l:Str):0≤Lib.indexByte l c↔c∈l:=by
 rcases w8 c l with ⟨h1,h2⟩ | ⟨a,b,h1,h2,h3⟩
 ·rw [h2];simp [h1]
 ·rw [h3,h1];simp
theorem H02 (s:Str):K3 s=true↔s≠[]∧10∉s.dropLast:=by
 unfold K3
 rw [J18,List.all_eq_true]
 constructor
 ·rintro ⟨h1,h2⟩
  exact ⟨by simpa using h2,fun h=>by have:=h1 10 h;simp at this⟩
 ·rintro ⟨h1,h2⟩
  exact ⟨fun x hx=>by simpa using fun e:x=10=>h2 (e ▸ hx),by simpa using h1⟩
theorem I55 (s:Str):10∈B25 s↔10∈s.dropLast:=by
 unfold B25
 split
 ·exact Iff.rfl
 ·rename_i h
  by_cases hs:s=[]
  ·subst hs;simp
  ·constructor
   ·intro h2
    have e:=(List.dropLast_concat_getLast hs).symm
    rw [e] at h2
    rcases List.mem_append.1 h2 with h3 | h3
    ·exact h3
    ·exfalso
     refine h ?_
     unfold ended
     rw [List.getLast?_eq_some_getLast hs]
     simp at h3;simp [←h3]
   ·exact fun h2=>List.dropLast_subset s h2
theorem I03 (s:Str):(if decide (s≠[])=true then !decide (0≤Lib.indexByte (B25 s) 10) else false)=K3 s:=by
 rw [Bool.eq_iff_iff,H02]
 have h:=I55 s
 have h2:=E44 10 (B25 s)
 by_cases hs:s=[]
 ·simp [hs]
 ·simp [hs,h2,h]
theorem C97 (s:Str) (r:List Str):B21 (s::r)=(K3 s&&(r.isEmpty||ended s)&&B21 r):=rfl
def G19 (a b:Int):Int:=IntKind.u32.wrap ((BitVec.ofInt IntKind.u32.bits a &&& BitVec.ofInt IntKind.u32.bits b).toNat:Int)
def not32 (a:Int):Int:=IntKind.u32.wrap ((BitVec.ofInt IntKind.u32.bits IntKind.u32.max ^^^ BitVec.ofInt IntKind.u32.bits a).toNat:Int)
theorem p8 (n c:Nat):V5 (n:Int) c=n.testBit c:=by
 unfold V5
 rw [Nat.testBit_eq_decide_div_mod_eq]
 have:((n:Int) / 2 ^ c % 2 == 1)=decide (n / 2 ^ c % 2=1):=by
  rw [Bool.eq_iff_iff,beq_iff_eq,decide_eq_true_iff]
  have e:(n:Int) / 2 ^ c % 2=((n / 2 ^ c % 2:Nat):Int):=by simp
  rw [e];omega
 exact this
theorem A24 (n:Nat) (h:n < 4294967296):IntKind.u32.wrap (n:Int)=n:=by simp [IntKind.wrap,IntKind.signed,IntKind.bits];omega
theorem C66 (n:Nat):BitVec.ofInt IntKind.u32.bits (n:Int)=BitVec.ofNat 32 n:=BitVec.ofInt_natCast 32 n
theorem I04 (n m:Nat) (hn:n < 4294967296) (hm:m < 4294967296):G19 n m=((n &&& m:Nat):Int):=by
 unfold G19
 rw [C66,C66]
 have e:(BitVec.ofNat 32 n &&& BitVec.ofNat 32 m).toNat=n &&& m:=by
  rw [BitVec.toNat_and,BitVec.toNat_ofNat,BitVec.toNat_ofNat,Nat.mod_eq_of_lt (by omega),Nat.mod_eq_of_lt (by omega)]
 have h2:n &&& m < 2 ^ 32:=Nat.and_lt_two_pow n (by omega)
 show IntKind.u32.wrap ((BitVec.ofNat 32 n &&& BitVec.ofNat 32 m).toNat:Int)=_
 rw [e,A24 _ (by omega)]
theorem B26 (n m:Nat) (hn:n < 4294967296) (hm:m < 4294967296):I8 n m=((n ||| m:Nat):Int)∧n ||| m < 4294967296:=by
 unfold I8
 rw [C66,C66]
 have e:(BitVec.ofNat 32 n ||| BitVec.ofNat 32 m).toNat=n ||| m:=by
  rw [BitVec.toNat_or,BitVec.toNat_ofNat,BitVec.toNat_ofNat,Nat.mod_eq_of_lt (by omega),Nat.mod_eq_of_lt (by omega)]
 have h2:n ||| m < 2 ^ 32:=Nat.or_lt_two_pow (by omega) (by omega)
 refine ⟨?_,by omega⟩
 show IntKind.u32.wrap ((BitVec.ofNat 32 n ||| BitVec.ofNat 32 m).toNat:Int)=_
 rw [e,A24 _ (by omega)]
theorem I05 (n:Nat) (hn:n < 4294967296):not32 n=((4294967295 ^^^ n:Nat):Int)∧4294967295 ^^^ n < 4294967296:=by
 unfold not32
 rw [C66,show IntKind.u32.max=((4294967295:Nat):Int) from rfl,C66]
 have e:(BitVec.ofNat 32 4294967295 ^^^ BitVec.ofNat 32 n).toNat=4294967295 ^^^ n:=by
  rw [BitVec.toNat_xor,BitVec.toNat_ofNat,BitVec.toNat_ofNat,Nat.mod_eq_of_lt (by omega),Nat.mod_eq_of_lt (by omega)]
 have h2:4294967295 ^^^ n < 2 ^ 32:=Nat.xor_lt_two_pow (by omega) (by omega)
 refine ⟨?_,by omega⟩
 show IntKind.u32.wrap ((BitVec.ofNat 32 4294967295 ^^^ BitVec.ofNat 32 n).toNat:Int)=_
 rw [e,A24 _ (by omega)]
theorem I56 (c:Nat) (h:c < 32):(4294967295:Nat).testBit c=true:=by
 have:(4294967295:Nat)=2 ^ 32 - 1:=rfl
 rw [this,Nat.testBit_two_pow_sub_one];simpa using h
def E45 (r:Row):Int:=if r.Lost then r.Marks else not32 r.Marks
def B75 (res:Bool) (par:Int) (r:Row):Bool:=decide (G19 par (E45 r)=0)&&(r.Lost||!res)
def B27 (res:Bool) (r:Row):Bool:=if ended r.Text then res else res||!r.Lost
def B28 (par:Int) (r:Row):Int:=if ended r.Text then par else I8 par (E45 r)
def Q6:Bool→Int→List Row→Bool
 | _,_,[]=>true
 | res,par,r::rs=>K3 r.Text&&B75 res par r&&Q6 (B27 res r) (B28 par r) rs
theorem G20 (r:Row) (hr:0≤r.Marks∧r.Marks < 4294967296):∃m:Nat,m < 4294967296∧E45 r=m∧∀c,c < 32→m.testBit c=b9 r c:=by
 obtain ⟨k,hk⟩:∃k:Nat,r.Marks=k:=⟨r.Marks.toNat,by omega⟩
 have hv:∀c:Nat,c < 32→b9 r c=(k.testBit c == r.Lost):=by
  intro c hc
  rw [b9,if_neg (by omega),if_neg (by omega),hk,J21,p8]
 unfold E45
 cases hl:r.Lost
 ·have:=I05 k (by omega)
  refine ⟨4294967295 ^^^ k,this.2,by rw [if_neg (by simp),hk];exact this.1,fun c hc=>?_⟩
  rw [hv c hc,hl,Nat.testBit_xor,I56 c hc]
  cases k.testBit c<;>rfl
 ·refine ⟨k,by omega,by rw [if_pos rfl];exact hk,fun c hc=>?_⟩
  rw [hv c hc,hl]
  cases k.testBit c<;>rfl
theorem A71 (r:Row):b9 r (-1)=!r.Lost:=by rw [b9,if_pos rfl]
def Z1:Bool→List Str→Bool
 | _,[]=>true
 | b,s::r=>!b&&K3 s&&Z1 (!ended s) r
theorem F40 (l:List Str):Z1 true l=l.isEmpty:=by cases l<;>simp [Z1]
theorem G21 (l:List Str):B21 l=Z1 false l:=by
 induction l with
 | nil=>rfl
 | cons s r ih =>
  rw [C97,ih,Z1]
  cases he:ended s
  ·rw [show (!false)=true from rfl,F40]
   cases r<;>simp [Z1]
  ·simp
structure EndsAt (res:Bool) (par:Int) (bad:Int→Bool):Prop where
 res:res=bad (-1)
 par:∃p:Nat,p < 4294967296∧par=p∧∀c:Nat,c < 32→p.testBit c=bad c
theorem I57 (n m:Nat) (hm:m < 4294967296):n &&& m=0↔∀c,c < 32→m.testBit c=true→n.testBit c=false:=by
 constructor
 ·intro h c hc hm1
  have:(n &&& m).testBit c=false:=by rw [h];simp
  rw [Nat.testBit_and,hm1] at this
  simpa using this
 ·intro h
  refine Nat.eq_of_testBit_eq fun c=>?_
  rw [Nat.testBit_and,Nat.zero_testBit]
  by_cases hc:c < 32
  ·cases hm1:m.testBit c
   ·simp
   ·rw [h c hc hm1];rfl
  ·have:m.testBit c=false:=Nat.testBit_lt_two_pow (Nat.lt_of_lt_of_le (by omega:m < 2 ^ 32) (Nat.pow_le_pow_right (by omega) (by omega)))
   rw [this];simp
theorem I06 {res:Bool} {par:Int} {bad:Int→Bool} (h:EndsAt res par bad) (r:Row) (hr:0≤r.Marks∧r.Marks < 4294967296):B75 res par r=true↔∀c:Int,-1≤c→c < 32→b9 r c=true→bad c=false:=by
 obtain ⟨m,hm,he,hb⟩:=G20 r hr
 obtain ⟨p,hp,hpe,hpb⟩:=h.par
 unfold B75
 rw [he,hpe,I04 p m hp hm,J18,decide_eq_true_iff,show (((p &&& m:Nat):Int)=0)↔p &&& m=0 by omega,I57 p m hm]
 constructor
 ·rintro ⟨h1,h2⟩ c hc1 hc2 hv
  by_cases hc:c = -1
  ·subst hc
   rw [A71] at hv
   rw [←h.res]
   simpa [show r.Lost=false by simpa using hv] using h2
  ·obtain ⟨k,rfl⟩:∃k:Nat,c=k:=⟨c.toNat,by omega⟩
   rw [←hpb k (by omega)]
   exact h1 k (by omega) (by rw [hb k (by omega)];exact hv)
 ·intro h1
  refine ⟨fun c hc hm1=>?_,?_⟩
  ·rw [hpb c hc]
   exact h1 c (by omega) (by omega) (by rw [←hb c hc];exact hm1)
  ·cases hl:r.Lost
   ·have:=h1 (-1) (by omega) (by omega) (by rw [A71,hl];rfl)
    rw [h.res,this];rfl
   ·rfl
theorem I07 {res:Bool} {par:Int} {bad:Int→Bool} (h:EndsAt res par bad) (r:Row) (hr:0≤r.Marks∧r.Marks < 4294967296):EndsAt (B27 res r) (B28 par r) (fun c=>bad c||(b9 r c&&!ended r.Text)):=by
 obtain ⟨m,hm,he,hb⟩:=G20 r hr
 obtain ⟨p,hp,hpe,hpb⟩:=h.par
 unfold B27 B28
 cases hen:ended r.Text
 ·have ho:=B26 p m hp hm
  refine ⟨?_,p ||| m,ho.2,?_,fun c hc=>?_⟩
  ·rw [if_neg (by simp),h.res,A71];simp
  ·rw [if_neg (by simp),he,hpe];exact ho.1
  ·rw [Nat.testBit_or,hpb c hc,hb c hc];simp
 ·refine ⟨?_,p,hp,?_,fun c hc=>?_⟩
  ·rw [if_pos rfl,h.res];simp
  ·rw [if_pos rfl];exact hpe
  ·rw [hpb c hc];simp
theorem B93 (r:Row) (rs:List Row) (c:Int):M8 (r::rs) c=if b9 r c then r.Text::M8 rs c else M8 rs c:=by
 unfold M8
 cases hv:b9 r c<;>simp [hv]
theorem D79:∀(rows:List Row) (res:Bool) (par:Int) (bad:Int→Bool),EndsAt res par bad→L3 rows→(Q6 res par rows=true↔(∀r∈rows,K3 r.Text=true)∧∀c:Int,-1≤c→c < 32→Z1 (bad c) (M8 rows c)=true)
 | [],res,par,bad,_,_=>by simp [Q6,M8,Z1]
 | r :: rs,res,par,bad,h,hr=>by
  have hr1:=hr r (by simp)
  have ih:=D79 rs _ _ _ (I07 h r hr1) (fun x hx=>hr x (by simp [hx]))
  rw [Q6,J18,J18,I06 h r hr1,ih]
  constructor
  ·rintro ⟨⟨h1,h2⟩,h3,h4⟩
   refine ⟨fun x hx=>?_,fun c hc1 hc2=>?_⟩
   ·rcases List.mem_cons.1 hx with rfl | hx
    ·exact h1
    ·exact h3 x hx
   ·have h5:=h4 c hc1 hc2
    rw [B93]
    cases hv:b9 r c
    ·rw [if_neg (by simp)];simpa [hv] using h5
    ·rw [if_pos rfl,Z1,h2 c hc1 hc2 hv,h1]
     rw [h2 c hc1 hc2 hv,hv] at h5
     simpa using h5
  ·rintro ⟨h1,h2⟩
   refine ⟨⟨h1 r (by simp),fun c hc1 hc2 hv=>?_⟩,fun x hx=>h1 x (by simp [hx]),fun c hc1 hc2=>?_⟩
   ·have h3:=h2 c hc1 hc2
    rw [B93,hv,if_pos rfl,Z1] at h3
    simp only [J18,Bool.not_eq_true'] at h3
    exact h3.1.1
   ·have h3:=h2 c hc1 hc2
    rw [B93] at h3
    cases hv:b9 r c
    ·rw [hv,if_neg (by simp)] at h3;simpa using h3
    ·rw [hv,if_pos rfl,Z1] at h3
     simp only [J18,Bool.not_eq_true'] at h3
     rw [h3.1.1];simpa using h3.2
theorem ends0:EndsAt false 0 (fun _=>false):=⟨rfl,0,by omega,rfl,fun c _=>by simp⟩
theorem F41 (m:Int) (n c:Nat) (h0:0≤m) (h:m / 2 ^ n=0) (hc:n≤c):V5 m c=false:=by
 obtain ⟨k,rfl⟩:∃k:Nat,m=k:=⟨m.toNat,by omega⟩
 rw [p8]
 have h1:(k:Int) / 2 ^ n=((k / 2 ^ n:Nat):Int):=by simp
 rw [h1] at h
 have h2:k / 2 ^ n=0:=by omega
 have h3:k < 2 ^ n:=by
  rcases Nat.div_eq_zero_iff.1 h2 with h3 | h3
  ·have:=Nat.two_pow_pos n;omega
  ·exact h3
 exact Nat.testBit_lt_two_pow (Nat.lt_of_lt_of_le h3 (Nat.pow_le_pow_right (by omega) hc))
theorem F42 (rows:List Row) (n:Nat) (hm:P6 rows n=true) (hr:L3 rows) (c:Int) (h1:(n:Int)≤c) (h2:c < 32):M8 rows c=M8 rows (-1):=by
 unfold M8
 have:rows.filter (b9 · c)=rows.filter (b9 · (-1)):=by
  refine List.filter_congr fun r hmem=>?_
  have h3:T6 n r=true:=List.all_eq_true.1 hm r hmem
  unfold T6 at h3
  simp only [J18,beq_iff_eq] at h3
  have h4:=F41 r.Marks n c.toNat (hr r hmem).1 h3.1 (by omega)
  rw [A71,b9,if_neg (by omega),if_neg (by omega),h4]
  cases r.Lost<;>rfl
 rw [this]
theorem D80 (rows:List Row) (n:Nat) (hn:n≤32) (hm:P6 rows n=true) (hr:L3 rows):Q6 false 0 rows=j7 rows n:=by
 rw [Bool.eq_iff_iff,D79 rows false 0 _ ends0 hr,j7,J18,List.all_eq_true,List.all_eq_true]
 refine and_congr Iff.rfl ?_
 constructor
 ·intro h k hk
  have hk:=List.mem_range.1 hk
  rw [G21]
  exact h _ (by omega) (by omega)
 ·intro h c hc1 hc2
  have key:∀c:Int,-1≤c→c < n→Z1 false (M8 rows c)=true:=by
   intro c h1 h2
   have:=h (c+1).toNat (List.mem_range.2 (by omega))
   rw [show (((c+1).toNat:Nat):Int) - 1=c by omega,G21] at this
   exact this
  by_cases hcn:c < n
  ·exact key c hc1 hcn
  ·rw [F42 rows n hm hr c (by omega) hc2]
   exact key (-1) (by omega) (by omega)
end Go.AL
namespace Go.AL
open Go
def C67 (c:UInt8):Bool:=decide (33≤c.toNat∧c.toNat≤126∧c.toNat≠34∧c.toNat≠92)
def digs8:Str:=[48,49,50,51,52,53,54,55]
def G22 (c:UInt8):Str:=(digs8.drop (c.toNat / 64)).take 1++(digs8.drop (c.toNat / 8 % 8)).take 1++(digs8.drop (c.toNat % 8)).take 1
def A46 (c:UInt8):Str:=if c.toNat=34∨c.toNat=92 then [92,c] else if c.toNat=10 then [92,110] else if c.toNat=9 then [92,116] else if c.toNat < 32∨126 < c.toNat then 92::G22 c else [c]
def j8 (s:Str):Str:=if s≠[]∧s.all C67=true then s else 34::((s.map A46).flatten++[34])
theorem I08 (c:UInt8):(G22 c).length≤3:=by unfold G22;simp only [J15,J36];omega
theorem E81 (c:UInt8):(A46 c).length≤4:=by
 have:=I08 c
 unfold A46;split
 ·simp
 ·split
  ·simp
  ·split
   ·simp
   ·split
    ·simp only [J16];omega
    ·simp
theorem C30 (s:Str):((s.map A46).flatten).length≤4*s.length:=by
 induction s with
 | nil=>simp
 | cons c r ih=>have:=E81 c;simp only [J24,J33,J15,J16];omega
theorem G23 (s:Str):(j8 s).length≤4*s.length+2:=by
 unfold j8;have:=C30 s
 split
 ·omega
 ·simp only [J16,J15,J19];omega
def A96 (n:Int):Str:=if n < 0∨2147483647 < n then [] else Lib.itoa n
def U9 (a n:Int):Str:=if a < 0∨n < 0∨2147483647 < a∨2147483647 - a < n then [] else if n=0 then A96 a++[44,48] else if n=1 then A96 (a+1) else A96 (a+1)++[44]++A96 n
theorem B76:∀(k u:Nat),u < 10 ^ (k+1)→(Lib.decDigits u).length≤k+1
 | 0,u,h=>by rw [Lib.decDigits,dif_pos (by omega)];simp
 | k+1,u,h=>by
  rw [Lib.decDigits]
  split
  ·simp
  ·have:=B76 k (u / 10) (by rw [Nat.div_lt_iff_lt_mul (by omega)];rw [Nat.pow_succ] at h;omega)
   simp only [J15,J16,J19];omega
theorem p9 (n:Int):(A96 n).length≤10:=by
 unfold A96;split
 ·simp
 ·unfold Lib.itoa
  rw [if_neg (by omega)]
  exact B76 9 n.toNat (by omega)
theorem B29 (a n:Int):(U9 a n).length≤21:=by
 have:=p9 a;have:=p9 (a+1);have:=p9 n
 unfold U9
 split
 ·simp
 ·split
  ·simp only [J15,J16,J19];omega
  ·split
   ·omega
   ·simp only [J15,J16,J19];omega
theorem dig8 (k:Nat) (h:k < 8):(digs8.drop k).take 1=[UInt8.ofNat (48+k)]:=by
 have:∀k:Fin 8,(digs8.drop k.1).take 1=[UInt8.ofNat (48+k.1)]:=by decide
 exact this ⟨k,h⟩
theorem G24 (c:UInt8):G22 c=[UInt8.ofNat (48+c.toNat / 64),UInt8.ofNat (48+c.toNat / 8 % 8),UInt8.ofNat (48+c.toNat % 8)]:=by
 have:=c.toNat_lt
 unfold G22
 rw [dig8 _ (by omega),dig8 _ (by omega),dig8 _ (by omega)];rfl
def escs (s:Str) (i:Nat):Str:=((s.take i).map A46).flatten
theorem I09 (s:Str) (i:Nat) (h:i < s.length):escs s (i+1)=escs s i++A46 s[i]:=by
 unfold escs;rw [J22 h,J28,J42];simp only [J24,J51,J33,J63,J35]
theorem I58 (s:Str) (i:Nat) (h:i≤s.length):(escs s i).length≤4*i:=by
 have:=C30 (s.take i);unfold escs;rw [J36] at this;omega
def plains (s:Str) (i:Nat):Bool:=decide (s≠[])&&(s.take i).all C67
theorem G25 (s:Str):plains s 0=decide (s≠[]):=by simp [plains]
theorem G26 (s:Str) (i:Nat) (h:i < s.length):plains s (i+1)=(plains s i&&C67 s[i]):=by
 unfold plains;rw [J22 h,J65];simp only [List.all_cons,List.all_nil,Bool.and_true,Bool.and_assoc]
theorem D81 (s:Str):j8 s=if plains s s.length=true then s else (34::escs s s.length)++[34]:=by
 unfold j8 plains escs
 rw [J32]
 simp only [J18,decide_eq_true_eq,J57]
end Go.AL
namespace Go.AL
open Go
def N9 (cur:Str):Str→List Str
 | []=>[cur]
 | c::r=>if c=10 then (cur++[c])::N9 [] r else N9 (cur++[c]) r
def Q7 (b:Str):List Str:=N9 [] b
theorem E46 (a cur:Str) (h:(10:UInt8)∉a):N9 cur a=[cur++a]:=by
 induction a generalizing cur with
 | nil=>simp [N9]
 | cons c r ih =>
  simp only [J53,not_or] at h
  rw [N9,if_neg (fun e=>h.1 e.symm),ih _ h.2];simp
theorem F43 (a b cur:Str) (h:(10:UInt8)∉a):N9 cur (a++10::b)=(cur++a++[10])::N9 [] b:=by
 induction a generalizing cur with
 | nil=>simp [N9]
 | cons c r ih =>
  simp only [J53,not_or] at h
  rw [J57,N9,if_neg (fun e=>h.1 e.symm),ih _ h.2];simp
theorem X3 (s cur:Str):(N9 cur s).length=s.count 10+1:=by
 induction s generalizing cur with
 | nil=>rfl
 | cons c r ih =>
  by_cases hc:c=10
  ·subst hc;rw [N9,if_pos rfl,J16,ih,List.count_cons_self]
  ·rw [N9,if_neg hc,ih,List.count_cons_of_ne hc]
theorem G27 (s cur:Str):H9 cur s=if (N9 cur s).getLastD []=[] then (N9 cur s).dropLast else N9 cur s:=by
 induction s generalizing cur with
 | nil=>by_cases h:cur=[]<;>simp [H9,N9,h]
 | cons c r ih =>
  rw [H9,N9]
  by_cases hc:c=10
  ·rw [if_pos hc,if_pos hc,ih]
   have hn:N9 [] r≠[]:=fun e=>by have:=X3 r [];rw [e] at this;simp at this
   obtain ⟨x,y,hxy⟩:=List.exists_cons_of_ne_nil hn
   rw [hxy]
   have e1:((cur++[c])::x::y).getLastD []=(x::y).getLastD []:=by cases y<;>simp [List.getLastD]
   rw [e1]
   split
   ·rfl
   ·rfl
  ·rw [if_neg hc,if_neg hc,ih]
theorem D82 (s cur:Str):(H9 cur s).length=s.count 10+if s=[] then (if cur=[] then 0 else 1) else if ended s=true then 0 else 1:=by
 induction s generalizing cur with
 | nil=>by_cases h:cur=[]<;>simp [H9,h]
 | cons c r ih =>
  have he:ended (c::r)=if r=[] then c == 10 else ended r:=by
   cases r with
   | nil=>simp [ended]
   | cons d t=>simp [ended,List.getLast?_cons_cons]
  rw [H9,if_neg (List.cons_ne_nil _ _),he]
  by_cases hc:c=10
  ·subst hc
   rw [if_pos rfl,J16,ih,List.count_cons_self]
   by_cases hr:r=[]<;>simp [hr]
   omega
  ·rw [if_neg hc,ih,List.count_cons_of_ne hc]
   by_cases hr:r=[]<;>simp [hr,hc]
theorem E47 (s:Str):(B8 s).length=s.count 10+if s≠[]∧ended s=false then 1 else 0:=by
 unfold B8
 rw [D82]
 by_cases hs:s=[]<;>simp [hs]
 cases ended s<;>simp
theorem H03 {P:List Str} {i:Nat} {r a b:Str} (h:P.drop i=Q7 r) (hr:r=a++10::b) (ha:(10:UInt8)∉a):P[i]?=some (a++[10])∧P.drop (i+1)=Q7 b:=by
 have e:Q7 r=(a++[10])::Q7 b:=by rw [hr];unfold Q7;rw [F43 _ _ _ ha];rfl
 rw [e] at h
 refine ⟨by rw [←List.head?_drop,h];rfl,?_⟩
 rw [←List.tail_drop,h];rfl
theorem E82 {α:Type} (P:List α) (z x:α) (i:Nat) (h:P[i]?=some x):(P.take i++List.replicate (P.length - i) z).set i x=P.take (i+1)++List.replicate (P.length - (i+1)) z:=by
 obtain ⟨hi,hx⟩:=List.getElem?_eq_some_iff.1 h
 have hl:(P.take i).length=i:=by rw [J36];omega
 rw [List.set_append_right _ _ (by omega),hl,Nat.sub_self,show P.length - i=(P.length - (i+1))+1 by omega,List.replicate_succ,List.set_cons_zero,J22 hi,hx,J25]
 rfl
def B50 (b:Str):List Str × Int:=if b.length > 1048576∨(B8 b).length > 4096 then ([],1) else (B8 b,0)
end Go.AL
namespace Go.AL
open Go
def M2 (n:Int):Prop:=0≤n∧n≤4096
instance (n:Int):Decidable (M2 n):=by unfold M2;exact inferInstance
def F44 (k:Nat) (i j:Int) (c:Change):Prop:=((((((¬M2 c.Old∨¬M2 c.OldLen)∨¬M2 c.New)∨¬M2 c.NewLen)∨c.OldLen+c.NewLen=0)∨c.Old - i≠c.New - j)∨c.Old < i)∨(0 < (k:Int)∧c.Old=i)
instance (k:Nat) (i j:Int) (c:Change):Decidable (F44 k i j c):=by unfold F44;exact inferInstance
def K9 (k:Nat) (i j:Int):List Change→Int→Int→Bool
 | [],m,n=>decide (¬(m - i≠n - j∨m < i))
 | c::r,m,n=>decide (¬F44 k i j c)&&K9 (k+1) (c.Old+c.OldLen) (c.New+c.NewLen) r m n
def check8 (l:List Change) (m n:Int):Int:=if ¬M2 m∨¬M2 n then 80 else if K9 0 0 0 l m n=true then 0 else 80
def ScOk (i j:Int):List Change→Int→Int→Prop
 | [],m,n=>i≤m∧j≤n
 | c::r,m,n=>M2 c.Old∧M2 c.OldLen∧M2 c.New∧M2 c.NewLen∧i≤c.Old∧j≤c.New∧ScOk (c.Old+c.OldLen) (c.New+c.NewLen) r m n
theorem A25:∀(l:List Change) (k:Nat) (i j m n:Int),K9 k i j l m n=true→ScOk i j l m n
 | [],k,i,j,m,n,h=>by simp only [K9,decide_eq_true_eq] at h;simp only [ScOk];omega
 | c::r,k,i,j,m,n,h=>by
  simp only [K9,J18,decide_eq_true_eq] at h
  obtain ⟨h1,h2⟩:=h
  unfold F44 at h1
  refine ⟨?_,?_,?_,?_,?_,?_,A25 r _ _ _ m n h2⟩
  all_goals (by_cases a1:M2 c.Old<;>by_cases a2:M2 c.OldLen<;>by_cases a3:M2 c.New<;>by_cases a4:M2 c.NewLen<;>simp [a1,a2,a3,a4] at h1 ⊢<;>omega)
def cAt (l:List Change) (k:Nat):Change:=l.getD k ⟨0,0,0,0⟩
theorem ScOk.end_le:∀{l:List Change} {i j m n:Int},ScOk i j l m n→i≤m∧j≤n
 | [],_,_,_,_,h=>h
 | c::r,i,j,m,n,⟨h1,h2,h3,h4,h5,h6,h7⟩=>by have:=h7.end_le;unfold M2 at *;omega
theorem ScOk.get:∀{l:List Change} {i j m n:Int} (k:Nat),ScOk i j l m n→k < l.length→M2 (cAt l k).Old∧M2 (cAt l k).OldLen∧M2 (cAt l k).New∧M2 (cAt l k).NewLen∧(cAt l k).Old+(cAt l k).OldLen≤m∧(cAt l k).New+(cAt l k).NewLen≤n
 | c::r,i,j,m,n,0,⟨h1,h2,h3,h4,h5,h6,h7⟩,_=>by have:=h7.end_le;exact ⟨h1,h2,h3,h4,this.1,this.2⟩
 | c::r,i,j,m,n,k+1,⟨h1,h2,h3,h4,h5,h6,h7⟩,hk=>by
  have:=h7.get k (by simpa using hk)
  simpa [cAt] using this
theorem ScOk.next:∀{l:List Change} {i j m n:Int} (k:Nat),ScOk i j l m n→k+1 < l.length→(cAt l k).Old+(cAt l k).OldLen≤(cAt l (k+1)).Old
 | [c],_,_,_,_,_,_,hk=>by simp at hk
 | c::c2::r,i,j,m,n,0,⟨_,_,_,_,_,_,h7⟩,_=>by simpa [cAt] using h7.2.2.2.2.1
 | c::c2::r,i,j,m,n,k+1,⟨_,_,_,_,_,_,h7⟩,hk=>by
  have:=h7.next k (by simpa using hk)
  simpa [cAt] using this
theorem ScOk.mono {l:List Change} {m n:Int} (h:ScOk 0 0 l m n):∀(a b:Nat),a≤b→b < l.length→(cAt l a).Old≤(cAt l b).Old∧(cAt l a).Old+(cAt l a).OldLen≤(cAt l b).Old+(cAt l b).OldLen
 | a,0,h1,h2=>by rw [show a=0 by omega];omega
 | a,b+1,h1,h2=>by
  by_cases hab:a=b+1
  ·subst hab;omega
  ·have h3:=h.mono a b (by omega) (by omega)
   have h4:=h.next b h2
   have h5:=h.get b (by omega)
   have h6:=h.get (b+1) h2
   unfold M2 at *;omega
def F45 (a b:Int):Int:=if b < a then b else a
def opens (l:List Change) (ctx:Int) (k:Nat):Prop:=k=0∨2*ctx < (cAt l k).Old - (cAt l (k - 1)).Old - (cAt l (k - 1)).OldLen
instance (l:List Change) (ctx:Int) (k:Nat):Decidable (opens l ctx k):=by unfold opens;exact inferInstance
def H48:Hunk:=⟨0,0,⟨0,0⟩,⟨0,0⟩⟩
def A47 (l:List Change) (ctx:Int) (k:Nat):Hunk:=⟨k,0,⟨(cAt l k).Old - F45 ctx (cAt l k).Old,0⟩,⟨(cAt l k).New - F45 ctx (cAt l k).Old,0⟩⟩
def C31 (l:List Change) (m ctx:Int) (k:Nat) (h:Hunk):Hunk :=
 let c:=cAt l k
 let a:=F45 ctx (m - (c.Old+c.OldLen))
 ⟨h.First,k+1,⟨h.Old.From,c.Old+c.OldLen+a⟩,⟨h.New.From,c.New+c.NewLen+a⟩⟩
def C68 (l:List Change) (ctx:Int) (k:Nat) (out:List Hunk):List Hunk:=if opens l ctx k then out++[A47 l ctx k] else out
def W4 (l:List Change) (m ctx:Int):Nat→List Hunk
 | 0=>[]
 | k+1=>let out:=C68 l ctx k (W4 l m ctx k);out.set (out.length - 1) (C31 l m ctx k (out.getD (out.length - 1) H48))
theorem C98 (l:List Change) (m ctx:Int):∀k,(W4 l m ctx k).length≤k∧(0 < k→0 < (W4 l m ctx k).length)
 | 0=>by simp [W4]
 | k+1=>by
  have h:=C98 l m ctx k
  simp only [W4,J67,C68]
  split
  ·simp only [J15,J16,J19];omega
  ·rename_i ho
   have:k≠0:=fun e=>ho (.inl e)
   omega
end Go.AL
namespace Go.AL
open Go
def R6 (s:Str):Bool:=decide (1≤s.length∧s.length≤200)
def H2 (ls:List PatchLine) (k:UInt8):List Str:=(ls.filter (fun x=>decide (x.Kind≠k))).map (·.Text)
def badLn (x:PatchLine):Prop:=((x.Kind≠32∧x.Kind≠45)∧x.Kind≠43)∨K3 x.Text=false
instance (x:PatchLine):Decidable (badLn x):=by unfold badLn;exact inferInstance
def B94 (x:PatchLine):Bool:=decide (¬badLn x)
def A35 (ls:List PatchLine):Bool:=ls.any (fun x=>decide (x.Kind≠32))
def C32 (some:Bool) (i j:Int) (h:PatchHunk):Prop:=((((some=false∨h.Old < i)∨h.New < j)∨4096 < h.Old)∨4096 < h.New)∨h.Old - i≠h.New - j
instance (s:Bool) (i j:Int) (h:PatchHunk):Decidable (C32 s i j h):=by unfold C32;exact inferInstance
def B58 (h:PatchHunk):Int:=(H2 h.Lines 43).length
def B59 (h:PatchHunk):Int:=(H2 h.Lines 45).length
def C69 (i j:Int):List PatchHunk→Bool
 | []=>true
 | h::r=>h.Lines.all B94&&(decide (¬C32 (A35 h.Lines) i j h)&&(decide (¬(4096 < h.Old+B58 h∨4096 < h.New+B59 h))&&C69 (h.Old+B58 h) (h.New+B59 h) r))
def N2 (hs:List PatchHunk) (k:UInt8):List Str:=(hs.map (fun h=>H2 h.Lines k)).flatten
def R7:List Str→Bool
 | []=>true
 | x::r=>(r.isEmpty||ended x)&&R7 r
def H04 (hs:List PatchHunk) (k:UInt8):Bool:=R7 (N2 hs k)
def C70 (hs:List PatchHunk):Bool:=C69 0 0 hs&&(H04 hs 43&&H04 hs 45)
def markS:Str:=[10,92,32,78,111,32,110,101,119,108,105,110,101,32,97,116,32,101,110,100,32,111,102,32,102,105,108,101,10]
def linePs (x:PatchLine):List Str:=if ended x.Text then [[x.Kind]++x.Text] else [[x.Kind]++x.Text,markS]
def headW (h:PatchHunk):Str:=[64,64,32,45]++U9 h.Old (B58 h)++[32,43]++U9 h.New (B59 h)++[32,64,64,10]
def hunkPs (h:PatchHunk):List Str:=headW h::(h.Lines.map linePs).flatten
def namePs (p:Patch):List Str:=[[45,45,45,32]++j8 p.OldName++[10],[43,43,43,32]++j8 p.NewName++[10]]
def writePs (p:Patch):List Str:=namePs p++(p.Hunks.map hunkPs).flatten
def H49 (p:Patch):Str:=(writePs p).flatten
def C33 (p:Patch):Int:=if R6 p.OldName=false∨R6 p.NewName=false then 120 else if C70 p.Hunks=false then 121 else if 16777216 < (H49 p).length then 1 else 0
def szL (x:PatchLine):Nat:=x.Text.length+64
def szH (h:PatchHunk):Nat:=64+(h.Lines.map szL).sum
def szP (hs:List PatchHunk):Nat:=(hs.map szH).sum
structure PFit (p:Patch):Prop where
 old:p.OldName.length≤4194304
 new:p.NewName.length≤4194304
 hunks:szP p.Hunks≤268435456
theorem szL_len (ls:List PatchLine):64*ls.length≤(ls.map szL).sum:=by
 induction ls with
 | nil=>simp
 | cons x r ih=>simp only [J24,J47,J16,szL];omega
end Go.AL
namespace Go.AL
open Go
def A26 (k:UInt8) (ts:List Str):List PatchLine:=ts.map fun t=>⟨k,t⟩
def sub (x:List Str) (a b:Int):List Str:=(x.drop a.toNat).take (b.toNat - a.toNat)
def B00 (c:Change):Int:=c.Old+c.OldLen
def A27 (l:List Change) (i0:Int) (a t:Nat):Int:=if t=0 then i0 else B00 (cAt l (a+t - 1))
theorem H05 (l:List Change) (i0:Int) (a t:Nat):A27 l i0 a (t+1)=B00 (cAt l (a+t)):=by
 unfold A27;rw [if_neg (by omega)];congr 2
def w9 (l:List Change) (x y:List Str) (i0:Int) (a:Nat):Nat→List PatchLine
 | 0=>[]
 | t+1=>w9 l x y i0 a t++A26 32 (sub x (A27 l i0 a t) (cAt l (a+t)).Old)++A26 45 (sub x (cAt l (a+t)).Old (B00 (cAt l (a+t))))++A26 43 (sub y (cAt l (a+t)).New ((cAt l (a+t)).New+(cAt l (a+t)).NewLen))
def Z2 (l:List Change) (x y:List Str) (h:Hunk):PatchHunk :=
 ⟨h.Old.From,h.New.From,w9 l x y h.Old.From h.First.toNat (h.Last.toNat - h.First.toNat)++A26 32 (sub x (A27 l h.Old.From h.First.toNat (h.Last.toNat - h.First.toNat)) h.Old.To)⟩
end Go.AL
namespace Go.AL
open Go
end Go.AL
namespace Go.AL
open Go
def G28 (i j:Int) (h:PatchHunk):Prop:=((((h.Old < 0∨h.New < 0)∨4096 < h.Old)∨4096 < h.New)∨h.Old < i)∨h.Old - i≠h.New - j
instance (i j:Int) (h:PatchHunk):Decidable (G28 i j h):=by unfold G28;exact inferInstance
end Go.AL
namespace Go.AL
open Go
theorem textsLen_le (rows:List Row) (B:Nat) (h:∀r∈rows,r.Text.length≤B):V6 rows≤rows.length*B:=by
 unfold V6
 induction rows with
 | nil=>simp
 | cons r rs ih =>
  have h1:=ih fun x hx=>h x (by simp [hx])
  have h2:=h r (by simp)
  simp only [J24,J33,J15,J16,J37,Nat.one_mul]
  omega
theorem G29 (b s:Str) (h:s∈B8 b):s.length≤b.length:=by
 have h1:(B8 b).flatten=b:=by
  have key:∀(s cur:Str),(H9 cur s).flatten=cur++s:=by
   intro s
   induction s with
   | nil=>intro cur;unfold H9;split<;>simp [*]
   | cons c r ih=>intro cur;unfold H9;split<;>simp [ih]
  exact key b []
 have h2:∀(l:List Str),s∈l→s.length≤l.flatten.length:=by
  intro l
  induction l with
  | nil=>intro h;cases h
  | cons x r ih =>
   intro h
   rcases List.mem_cons.1 h with rfl | h
   ·simp
   ·have:=ih h;simp only [J33,J15];omega
 have:=h2 _ h;rw [h1] at this;exact this
end Go.AL
namespace Go.AL
open Go
theorem D30 {x:List Str} {a b:Int} {s:Str} (h:s∈sub x a b):s∈x:=by
 unfold sub at h
 exact List.mem_of_mem_drop (List.mem_of_mem_take h)
end Go.AL
namespace Go.AL
open Go
end Go.AL
namespace Go.AL
open Go
def F46 (c:Change):Int:=c.New+c.NewLen
def eoI (i:Int) (l:List Change) (k:Nat):Int:=if k=0 then i else B00 (cAt l (k - 1))
def enI (j:Int) (l:List Change) (k:Nat):Int:=if k=0 then j else F46 (cAt l (k - 1))
theorem u7 (i:Int) (c:Change) (r:List Change) (k:Nat):eoI i (c::r) (k+1)=eoI (B00 c) r k:=by
 cases k<;>rfl
theorem u9 (j:Int) (c:Change) (r:List Change) (k:Nat):enI j (c::r) (k+1)=enI (F46 c) r k:=by
 cases k<;>rfl
theorem B30 (i:Int) (l:List Change) (k:Nat):eoI i l (k+1)=B00 (cAt l k):=rfl
theorem B31 (j:Int) (l:List Change) (k:Nat):enI j l (k+1)=F46 (cAt l k):=rfl
theorem C34 (c:Change) (r:List Change) (k:Nat):cAt (c::r) (k+1)=cAt r k:=rfl
def C71 (x y:List Str) (i j:Int):List Change→Prop
 | []=>sub x i x.length=sub y j y.length
 | c::r=>sub x i c.Old=sub y j c.New∧C71 x y (B00 c) (F46 c) r
theorem A06 (m n:Int):∀(l:List Change) (k0:Nat) (i j:Int),K9 k0 i j l m n=true→∀k,k < l.length →
  M2 (cAt l k).Old∧M2 (cAt l k).OldLen∧M2 (cAt l k).New∧M2 (cAt l k).NewLen∧(cAt l k).OldLen+(cAt l k).NewLen≠0∧(cAt l k).Old - eoI i l k=(cAt l k).New - enI j l k∧eoI i l k≤(cAt l k).Old∧(0 < k0+k→eoI i l k < (cAt l k).Old)
 | [],_,_,_,_,k,hk=>by simp at hk
 | c :: r,k0,i,j,h,k,hk=>by
  simp only [K9,J18,decide_eq_true_eq] at h
  obtain ⟨h1,h2⟩:=h
  cases k with
  | zero =>
   unfold F44 at h1
   show M2 c.Old∧M2 c.OldLen∧M2 c.New∧M2 c.NewLen∧c.OldLen+c.NewLen≠0∧c.Old - i=c.New - j∧i≤c.Old∧(0 < k0+0→i < c.Old)
   have d1:M2 c.Old:=by by_cases q:M2 c.Old;exact q;exact absurd (.inl (.inl (.inl (.inl (.inl (.inl (.inl q))))))) h1
   have d2:M2 c.OldLen:=by by_cases q:M2 c.OldLen;exact q;exact absurd (.inl (.inl (.inl (.inl (.inl (.inl (.inr q))))))) h1
   have d3:M2 c.New:=by by_cases q:M2 c.New;exact q;exact absurd (.inl (.inl (.inl (.inl (.inl (.inr q)))))) h1
   have d4:M2 c.NewLen:=by by_cases q:M2 c.NewLen;exact q;exact absurd (.inl (.inl (.inl (.inl (.inr q))))) h1
   refine ⟨d1,d2,d3,d4,fun q=>h1 (.inl (.inl (.inl (.inr q)))),?_,?_,fun h0=>?_⟩
   ·by_cases q:c.Old - i=c.New - j
    ·exact q
    ·exact absurd (.inl (.inl (.inr q))) h1
   ·by_cases q:c.Old < i
    ·exact absurd (.inl (.inr q)) h1
    ·omega
   ·by_cases q:c.Old < i
    ·exact absurd (.inl (.inr q)) h1
    ·by_cases q2:c.Old=i
     ·exact absurd (.inr ⟨by omega,q2⟩) h1
     ·omega
  | succ k =>
   have:=A06 m n r (k0+1) _ _ h2 k (by simpa using hk)
   rw [C34,u7,u9]
   obtain ⟨e1,e2,e3,e4,e5,e6,e7,e8⟩:=this
   exact ⟨e1,e2,e3,e4,e5,e6,e7,fun h0=>e8 (by omega)⟩
theorem H06 (m n:Int):∀(l:List Change) (k0:Nat) (i j:Int),K9 k0 i j l m n=true→m - eoI i l l.length=n - enI j l l.length∧eoI i l l.length≤m
 | [],_,i,j,h=>by
  simp only [K9,decide_eq_true_eq] at h
  show m - i=n - j∧i≤m
  omega
 | c::r,k0,i,j,h=>by
  simp only [K9,J18,decide_eq_true_eq] at h
  rw [J16,u7,u9]
  exact H06 m n r _ _ _ h.2
theorem F47 (x y:List Str):∀(l:List Change) (i j:Int),C71 x y i j l→∀k,k < l.length→sub x (eoI i l k) (cAt l k).Old=sub y (enI j l k) (cAt l k).New
 | [],_,_,_,k,hk=>by simp at hk
 | c::r,i,j,h,k,hk=>by
  cases k with
  | zero=>exact h.1
  | succ k=>rw [u7,u9,C34];exact F47 x y r _ _ h.2 k (by simpa using hk)
theorem H07 (x y:List Str):∀(l:List Change) (i j:Int),C71 x y i j l→sub x (eoI i l l.length) x.length=sub y (enI j l l.length) y.length
 | [],_,_,h=>h
 | c::r,i,j,h=>by rw [J16,u7,u9];exact H07 x y r _ _ h.2
def mkH (l:List Change) (m ctx:Int) (a b:Nat):Hunk:=C31 l m ctx (b - 1) (A47 l ctx a)
def GrOk (l:List Change) (m ctx:Int):Nat→List Hunk→Nat→Prop
 | a,[],k=>a=k
 | a,h::r,k=>∃b,a < b∧opens l ctx a∧h=mkH l m ctx a b∧GrOk l m ctx b r k
theorem GrOk.le {l:List Change} {m ctx:Int}:∀{hs:List Hunk} {a k:Nat},GrOk l m ctx a hs k→a≤k
 | [],a,k,h=>Nat.le_of_eq h
 | _::_,a,k,⟨b,h1,_,_,h2⟩=>by have:=GrOk.le h2;omega
theorem GrOk.snoc {l:List Change} {m ctx:Int} {k:Nat} (ho:opens l ctx k):∀{hs:List Hunk} {a:Nat},GrOk l m ctx a hs k→GrOk l m ctx a (hs++[mkH l m ctx k (k+1)]) (k+1)
 | [],a,h=>by
  obtain rfl:a=k:=h
  exact ⟨a+1,by omega,ho,rfl,rfl⟩
 | _::_,a,⟨b,h1,h2,h3,h4⟩=>⟨b,h1,h2,h3,GrOk.snoc ho h4⟩
theorem GrOk.last {l:List Change} {m ctx:Int} {k:Nat}:∀{hs:List Hunk} {a:Nat},GrOk l m ctx a hs k→hs≠[]→GrOk l m ctx a (hs.set (hs.length - 1) (C31 l m ctx k (hs.getD (hs.length - 1) H48))) (k+1)
 | [],_,_,h0=>absurd rfl h0
 | [h],a,⟨b,h1,h2,h3,h4⟩,_=>by
  obtain rfl:b=k:=h4
  subst h3
  exact ⟨b+1,by omega,h2,rfl,rfl⟩
 | h::h'::r,a,⟨b,h1,h2,h3,h4⟩,_=>by
  have ih:=GrOk.last h4 (by simp)
  refine ⟨b,h1,h2,h3,?_⟩
  simpa using ih
theorem A72 (l:List Change) (m ctx:Int):∀k,GrOk l m ctx 0 (W4 l m ctx k) k
 | 0=>rfl
 | k+1=>by
  have ih:=A72 l m ctx k
  have hne:=(C98 l m ctx k).2
  simp only [W4,C68]
  by_cases ho:opens l ctx k
  ·rw [if_pos ho]
   have e:(W4 l m ctx k++[A47 l ctx k]).set ((W4 l m ctx k++[A47 l ctx k]).length - 1) (C31 l m ctx k ((W4 l m ctx k++[A47 l ctx k]).getD ((W4 l m ctx k++[A47 l ctx k]).length - 1) H48))=W4 l m ctx k++[mkH l m ctx k (k+1)]:=by
    simp [mkH]
   rw [e]
   exact ih.snoc ho
  ·rw [if_neg ho]
   refine ih.last ?_
   have:k≠0:=fun e=>ho (.inl e)
   have:=hne (by omega)
   intro e;rw [e] at this;simp at this
theorem A73 (x:List Str) {a b c:Int} (h0:0≤a) (h1:a≤b) (h2:b≤c):sub x a b++sub x b c=sub x a c:=by
 unfold sub
 obtain ⟨u,rfl⟩:∃u:Nat,(u:Int)=a:=⟨a.toNat,by omega⟩
 obtain ⟨v,rfl⟩:∃v:Nat,(v:Int)=b:=⟨b.toNat,by omega⟩
 obtain ⟨w,rfl⟩:∃w:Nat,(w:Int)=c:=⟨c.toNat,by omega⟩
 simp only [J21]
 have h3:x.drop v=(x.drop u).drop (v - u):=by rw [List.drop_drop];congr 1;omega
 rw [h3,show w - u=(v - u)+(w - v) by omega,List.take_add]
theorem H50 (x:List Str) (a:Int):sub x a a=[]:=by simp [sub]
theorem A74 (x:List Str) {a b:Int} (h0:0≤a) (h1:a≤b) (h2:b≤x.length):((sub x a b).length:Int)=b - a:=by
 unfold sub;rw [J36,J31];omega
theorem D83 {x y:List Str} {p q p' q' e:Int} (h:sub x p q=sub y p' q') (h0:0≤p) (h0':0≤p') (he:0≤e) (h1:e≤q - p) (h2:q - p=q' - p'):sub x (q - e) q=sub y (q' - e) q':=by
 have key:∀(z:List Str) (a b:Int),0≤a→e≤b - a→sub z (b - e) b=(sub z a b).drop (b - a - e).toNat:=by
  intro z a b ha hb
  unfold sub
  rw [List.drop_take,List.drop_drop]
  congr 1
  ·omega
  ·congr 1;omega
 rw [key x p q h0 h1,key y p' q' h0' (by omega),h,h2]
theorem G30 {x y:List Str} {p q p' q' e:Int} (h:sub x p q=sub y p' q') (h0:0≤p) (h0':0≤p') (he:0≤e) (h1:e≤q - p) (h2:q - p=q' - p'):sub x p (p+e)=sub y p' (p'+e):=by
 have key:∀(z:List Str) (a b:Int),0≤a→e≤b - a→sub z a (a+e)=(sub z a b).take e.toNat:=by
  intro z a b ha hb
  unfold sub
  rw [List.take_take]
  congr 1
  omega
 rw [key x p q h0 h1,key y p' q' h0' (by omega),h]
theorem A75 (p q:List PatchLine) (k:UInt8):H2 (p++q) k=H2 p k++H2 q k:=by simp [H2]
theorem A76 (k k':UInt8) (ts:List Str):H2 (A26 k ts) k'=if k=k' then [] else ts:=by
 unfold H2 A26
 by_cases h:k=k'
 ·rw [if_pos h];subst h
  simp [List.filter_eq_nil_iff]
 ·rw [if_neg h]
  rw [List.filter_eq_self.2 (by simp [h])]
  simp [Function.comp_def]
structure ScFit (x y:List Str) (l:List Change):Prop where
 lx:(x.length:Int)≤4096
 ly:(y.length:Int)≤4096
 sc:K9 0 0 0 l x.length y.length=true
 eq:C71 x y 0 0 l
section
variable {x y:List Str} {l:List Change}
theorem ScFit.ok (h:ScFit x y l):ScOk 0 0 l x.length y.length:=A25 _ _ _ _ _ _ h.sc
theorem ScFit.check (h:ScFit x y l):check8 l x.length y.length=0:=by
 have h1:=h.lx
 have h2:=h.ly
 unfold check8
 rw [if_neg (by unfold M2;omega),if_pos h.sc]
theorem ScFit.nn (h:ScFit x y l) (k:Nat) (hk:k≤l.length):0≤eoI 0 l k∧0≤enI 0 l k∧eoI 0 l k≤x.length∧enI 0 l k≤y.length:=by
 cases k with
 | zero=>exact ⟨Int.le_refl _,Int.le_refl _,Int.natCast_nonneg _,Int.natCast_nonneg _⟩
 | succ k =>
  obtain ⟨⟨a1,a2⟩,⟨b1,b2⟩,⟨c1,c2⟩,⟨d1,d2⟩,h5,h6⟩:=h.ok.get k (by omega)
  rw [B30,B31];unfold B00 F46
  omega
def eA (l:List Change) (ctx:Int) (a:Nat):Int:=F45 ctx (cAt l a).Old
def eB (l:List Change) (m ctx:Int) (b:Nat):Int:=F45 ctx (m - eoI 0 l b)
theorem H51 {a b:Int} (h:0≤a) (h':0≤b):0≤F45 a b∧F45 a b≤a∧F45 a b≤b:=by unfold F45;split<;>omega
theorem C72 {ctx:Int} {a:Nat} (ho:opens l ctx a) (ha:a≠0):2*ctx < (cAt l a).Old - eoI 0 l a:=by
 rcases ho with h | h
 ·exact absurd h ha
 ·unfold eoI;rw [if_neg ha];unfold B00;omega
theorem ScFit.before (h:ScFit x y l) {ctx:Int} (hc:0≤ctx) {a:Nat} (ha:a < l.length) (ho:opens l ctx a) :
  0≤eA l ctx a∧eA l ctx a≤ctx∧eA l ctx a≤(cAt l a).Old - eoI 0 l a:=by
 obtain ⟨⟨a1,a2⟩,_⟩:=h.ok.get a ha
 have h3:=H51 hc a1
 unfold eA
 by_cases h0:a=0
 ·subst h0
  show _∧_∧_≤(cAt l 0).Old - 0
  omega
 ·have:=C72 ho h0;omega
theorem ScFit.after (h:ScFit x y l) {ctx:Int} (hc:0≤ctx) {b:Nat} (hb:b≤l.length) (ho:b < l.length→opens l ctx b) (hb0:b≠0) :
  0≤eB l x.length ctx b∧eB l x.length ctx b≤ctx∧eoI 0 l b+eB l x.length ctx b≤x.length∧enI 0 l b+eB l x.length ctx b≤y.length ∧
   sub x (eoI 0 l b) (eoI 0 l b+eB l x.length ctx b)=sub y (enI 0 l b) (enI 0 l b+eB l x.length ctx b):=by
 obtain ⟨h1,h2,h3,h4⟩:=h.nn b hb
 have h5:=H51 hc (show 0≤(x.length:Int) - eoI 0 l b by omega)
 unfold eB
 rcases Nat.lt_or_ge b l.length with hlt | hge
 ·obtain ⟨g1,g2,g3,g4,g5,g6,g7,g8⟩:=A06 _ _ _ _ _ _ h.sc b hlt
  obtain ⟨⟨a1,a2⟩,⟨b1,b2⟩,⟨c1,c2⟩,⟨d1,d2⟩,k5,k6⟩:=h.ok.get b hlt
  have hg:=C72 (ho hlt) hb0
  refine ⟨h5.1,h5.2.1,by omega,by omega,G30 (F47 x y l 0 0 h.eq b hlt) h1 h2 h5.1 (by omega) (by omega)⟩
 ·have e:b=l.length:=by omega
  subst e
  obtain ⟨g1,g2⟩:=H06 _ _ _ _ _ _ h.sc
  refine ⟨h5.1,h5.2.1,by omega,by omega,G30 (H07 x y l 0 0 h.eq) h1 h2 h5.1 (by omega) (by omega)⟩
def F48 (l:List Change) (j0:Int) (a t:Nat):Int:=if t=0 then j0 else F46 (cAt l (a+t - 1))
theorem D84 (i0:Int) (a t:Nat) (ht:t≠0):A27 l i0 a t=eoI 0 l (a+t):=by
 unfold A27 eoI;rw [if_neg ht,if_neg (by omega)]
theorem H52 (j0:Int) (a t:Nat) (ht:t≠0):F48 l j0 a t=enI 0 l (a+t):=by
 unfold F48 enI;rw [if_neg ht,if_neg (by omega)]
theorem ScFit.made (h:ScFit x y l) {ctx:Int} (hc:0≤ctx) {a:Nat} (ho:opens l ctx a):∀t,a+t≤l.length→(t=0→a < l.length) →
  H2 (w9 l x y ((cAt l a).Old - eA l ctx a) a t) 43=sub x ((cAt l a).Old - eA l ctx a) (A27 l ((cAt l a).Old - eA l ctx a) a t) ∧
  H2 (w9 l x y ((cAt l a).Old - eA l ctx a) a t) 45=sub y ((cAt l a).New - eA l ctx a) (F48 l ((cAt l a).New - eA l ctx a) a t)
 | 0,_,_=>by
  unfold A27 F48
  rw [if_pos rfl,if_pos rfl,H50,H50]
  exact ⟨rfl,rfl⟩
 | t + 1,hl,_=>by
  have hlt:a+t < l.length:=by omega
  have hla:a < l.length:=by omega
  obtain ⟨ih1,ih2⟩:=ScFit.made h hc ho t (by omega) (fun _=>hla)
  obtain ⟨q1,q2,q3⟩:=h.before hc hla ho
  obtain ⟨p1,p2,p3,p4⟩:=h.nn (a+t) (by omega)
  obtain ⟨r1,r2,r3,r4⟩:=h.nn a (by omega)
  obtain ⟨g1,g2,g3,g4,g5,g6,g7,g8⟩:=A06 _ _ _ _ _ _ h.sc (a+t) hlt
  obtain ⟨k1,⟨k2,k2'⟩,k3,⟨k4,k4'⟩,k5,k6,k7,k8⟩:=A06 _ _ _ _ _ _ h.sc a hla
  obtain ⟨⟨a1,a2⟩,⟨b1,b2⟩,⟨c1,c2⟩,⟨d1,d2⟩,w5,w6⟩:=h.ok.get (a+t) hlt
  have hrun:sub x (A27 l ((cAt l a).Old - eA l ctx a) a t) (cAt l (a+t)).Old=sub y (F48 l ((cAt l a).New - eA l ctx a) a t) (cAt l (a+t)).New ∧
    (cAt l a).Old - eA l ctx a≤A27 l ((cAt l a).Old - eA l ctx a) a t∧A27 l ((cAt l a).Old - eA l ctx a) a t≤(cAt l (a+t)).Old ∧
    (cAt l a).New - eA l ctx a≤F48 l ((cAt l a).New - eA l ctx a) a t∧F48 l ((cAt l a).New - eA l ctx a) a t≤(cAt l (a+t)).New:=by
   have hrun:=F47 x y l 0 0 h.eq (a+t) hlt
   by_cases ht:t=0
   ·subst ht
    unfold A27 F48
    rw [if_pos rfl,if_pos rfl]
    rw [show a+0=a from rfl] at *
    exact ⟨D83 hrun r1 r2 q1 (by omega) (by omega),by omega,by omega,by omega,by omega⟩
   ·rw [D84 _ _ _ ht,H52 _ _ _ ht]
    have m1:=h.ok.mono a (a+t - 1) (by omega) (by omega)
    have m2:eoI 0 l (a+t)=(cAt l (a+t - 1)).Old+(cAt l (a+t - 1)).OldLen:=by unfold eoI;rw [if_neg (by omega)];rfl
    have m4:∀u,u≤t→(cAt l a).New≤enI 0 l (a+u)∨u=0:=by
     intro u
     induction u with
     | zero=>exact fun _=>.inr rfl
     | succ u ihu =>
      intro hu
      obtain ⟨e1,e2,⟨e3,e3'⟩,⟨e4,e4'⟩,e5,e6,e7,e8⟩:=A06 _ _ _ _ _ _ h.sc (a+u) (by omega)
      have e9:enI 0 l (a+(u+1))=(cAt l (a+u)).New+(cAt l (a+u)).NewLen:=rfl
      rcases ihu (by omega) with h' | h'
      ·left;omega
      ·left;subst h';rw [e9];show (cAt l a).New≤(cAt l a).New+(cAt l a).NewLen;exact Int.le_add_of_nonneg_right e4
    have m5:=(m4 t (Nat.le_refl _)).resolve_right ht
    refine ⟨hrun,by omega,by omega,by omega,by omega⟩
  obtain ⟨hr1,hr2,hr3,hr4,hr5⟩:=hrun
  simp (decide:=true) only [w9,A75,A76,ih1,ih2,if_true,if_false,J35]
  have e1:A27 l ((cAt l a).Old - eA l ctx a) a (t+1)=B00 (cAt l (a+t)):=H05 _ _ _ _
  have e2:F48 l ((cAt l a).New - eA l ctx a) a (t+1)=F46 (cAt l (a+t)):=rfl
  rw [e1,e2]
  have s0:0≤(cAt l a).Old - eA l ctx a:=by omega
  have s1:0≤(cAt l a).New - eA l ctx a:=by omega
  refine ⟨?_,?_⟩
  ·rw [A73 x s0 hr2 hr3,A73 x s0 (by omega) (by unfold B00;omega)]
  ·rw [hr1,A73 y s1 hr4 hr5]
   exact A73 y s1 (by omega) (by omega)
end
end Go.AL
namespace Go.AL
open Go
section
variable {x y:List Str} {l:List Change}
structure HunkIs (x y:List Str) (l:List Change) (ctx:Int) (a b:Nat) (h:PatchHunk):Prop where
 old:h.Old=(cAt l a).Old - eA l ctx a
 new:h.New=(cAt l a).New - eA l ctx a
 o0:0≤h.Old
 n0:0≤h.New
 oe:h.Old+B58 h=eoI 0 l b+eB l x.length ctx b
 ne:h.New+B59 h=enI 0 l b+eB l x.length ctx b
 ox:h.Old+B58 h≤x.length
 ny:h.New+B59 h≤y.length
 ol:H2 h.Lines 43=sub x h.Old (h.Old+B58 h)
 nl:H2 h.Lines 45=sub y h.New (h.New+B59 h)
 ch:A35 h.Lines=true
 gl:(∀s∈x,K3 s=true)→(∀s∈y,K3 s=true)→h.Lines.all B94=true
theorem D85 (p q:List PatchLine):A35 (p++q)=(A35 p||A35 q):=by simp [A35]
theorem D86 {k:UInt8} {ts:List Str} (hk:k≠32) (h:ts≠[]):A35 (A26 k ts)=true:=by
 cases ts with
 | nil=>exact absurd rfl h
 | cons t ts=>simp [A35,A26,hk]
theorem A77 {k:UInt8} {ts:List Str} (hk:k=32∨k=45∨k=43) (h:∀t∈ts,K3 t=true):(A26 k ts).all B94=true:=by
 rw [List.all_eq_true]
 intro q hq
 unfold A26 at hq
 obtain ⟨t,ht,rfl⟩:=List.mem_map.1 hq
 unfold B94
 refine decide_eq_true ?_
 rintro (⟨⟨h1,h2⟩,h3⟩ | h1)
 ·rcases hk with e | e | e
  ·exact h1 e
  ·exact h2 e
  ·exact h3 e
 ·rw [show (PatchLine.mk k t).Text=t from rfl,h t ht] at h1;cases h1
theorem C99 (hx:∀s∈x,K3 s=true) (hy:∀s∈y,K3 s=true) (i0:Int) (a:Nat):∀t,(w9 l x y i0 a t).all B94=true
 | 0=>rfl
 | t+1=>by
  simp only [w9,J65,C99 hx hy i0 a t,Bool.true_and,J18]
  exact ⟨⟨A77 (.inl rfl) (fun s hs=>hx s (D30 hs)),A77 (.inr (.inl rfl)) (fun s hs=>hx s (D30 hs))⟩,A77 (.inr (.inr rfl)) (fun s hs=>hy s (D30 hs))⟩
theorem ScFit.hunk (h:ScFit x y l) {ctx:Int} (hc:0≤ctx) {a b:Nat} (hab:a < b) (hb:b≤l.length) (ho:opens l ctx a) (hob:b < l.length→opens l ctx b) :
  HunkIs x y l ctx a b (Z2 l x y (mkH l x.length ctx a b)):=by
 have hla:a < l.length:=by omega
 obtain ⟨q1,q2,q3⟩:=h.before hc hla ho
 obtain ⟨w1,w2,w3,w4,w5⟩:=h.after hc hb hob (by omega)
 obtain ⟨m1,m2⟩:=h.made hc ho (b - a) (by omega) (fun e=>by omega)
 rw [D84 _ _ _ (by omega)] at m1
 rw [H52 _ _ _ (by omega)] at m2
 rw [show a+(b - a)=b by omega] at m1 m2
 obtain ⟨r1,r2,r3,r4⟩:=h.nn a (by omega)
 obtain ⟨s1,s2,s3,s4⟩:=h.nn b hb
 obtain ⟨k1,⟨k2,k2'⟩,k3,⟨k4,k4'⟩,k5,k6,k7,k8⟩:=A06 _ _ _ _ _ _ h.sc a hla
 have hlb:b - 1 < l.length:=by omega
 obtain ⟨g1,⟨g2,g2'⟩,g3,⟨g4,g4'⟩,g5,g6,g7,g8⟩:=A06 _ _ _ _ _ _ h.sc (b - 1) hlb
 have eo:eoI 0 l b=(cAt l (b - 1)).Old+(cAt l (b - 1)).OldLen:=by unfold eoI;rw [if_neg (by omega)];rfl
 have en:enI 0 l b=(cAt l (b - 1)).New+(cAt l (b - 1)).NewLen:=by unfold enI;rw [if_neg (by omega)];rfl
 have mo:=h.ok.mono a (b - 1) (by omega) (by omega)
 have mn:(cAt l a).New≤enI 0 l b:=by
  have m4:∀u,a+u≤l.length→(cAt l a).New≤enI 0 l (a+u)∨u=0:=by
   intro u
   induction u with
   | zero=>exact fun _=>.inr rfl
   | succ u ihu =>
    intro hu
    obtain ⟨e1,e2,⟨e3,e3'⟩,⟨e4,e4'⟩,e5,e6,e7,e8⟩:=A06 _ _ _ _ _ _ h.sc (a+u) (by omega)
    have e9:enI 0 l (a+(u+1))=(cAt l (a+u)).New+(cAt l (a+u)).NewLen:=rfl
    rcases ihu (by omega) with h' | h'
    ·left;omega
    ·left;subst h';rw [e9];show (cAt l a).New≤(cAt l a).New+(cAt l a).NewLen;exact Int.le_add_of_nonneg_right e4
  have:=(m4 (b - a) (by omega)).resolve_right (by omega)
  rwa [show a+(b - a)=b by omega] at this
 have hF:(mkH l x.length ctx a b).First.toNat=a:=by show ((a:Int)).toNat=a;omega
 have hL:(mkH l x.length ctx a b).Last.toNat - (mkH l x.length ctx a b).First.toNat=b - a:=by
  show (((b - 1:Nat):Int)+1).toNat - ((a:Int)).toNat=b - a;omega
 have hOF:(mkH l x.length ctx a b).Old.From=(cAt l a).Old - eA l ctx a:=rfl
 have hNF:(mkH l x.length ctx a b).New.From=(cAt l a).New - eA l ctx a:=rfl
 have hOT:(mkH l x.length ctx a b).Old.To=eoI 0 l b+eB l x.length ctx b:=by
  unfold eB;rw [eo];rfl
 obtain ⟨P,hP⟩:∃P,P=Z2 l x y (mkH l x.length ctx a b):=⟨_,rfl⟩
 have hPl:P.Lines=w9 l x y ((cAt l a).Old - eA l ctx a) a (b - a)++A26 32 (sub x (eoI 0 l b) (eoI 0 l b+eB l x.length ctx b)):=by
  rw [hP];unfold Z2
  show w9 l x y _ (mkH l x.length ctx a b).First.toNat ((mkH l x.length ctx a b).Last.toNat - (mkH l x.length ctx a b).First.toNat)++A26 32 (sub x (A27 l _ (mkH l x.length ctx a b).First.toNat ((mkH l x.length ctx a b).Last.toNat - (mkH l x.length ctx a b).First.toNat)) _)=_
  rw [hL,hF,hOF,hOT,D84 _ _ _ (by omega),show a+(b - a)=b by omega]
 have hPO:P.Old=(cAt l a).Old - eA l ctx a:=by rw [hP];rfl
 have hPN:P.New=(cAt l a).New - eA l ctx a:=by rw [hP];rfl
 have h43:H2 P.Lines 43=sub x ((cAt l a).Old - eA l ctx a) (eoI 0 l b+eB l x.length ctx b):=by
  rw [hPl,A75,A76,if_neg (by decide),m1]
  exact A73 x (by omega) (by omega) (by omega)
 have h45:H2 P.Lines 45=sub y ((cAt l a).New - eA l ctx a) (enI 0 l b+eB l x.length ctx b):=by
  rw [hPl,A75,A76,if_neg (by decide),m2,w5]
  exact A73 y (by omega) (by omega) (by omega)
 have hon:B58 P=eoI 0 l b+eB l x.length ctx b - ((cAt l a).Old - eA l ctx a):=by
  unfold B58;rw [h43];exact A74 x (by omega) (by omega) (by omega)
 have hnn:B59 P=enI 0 l b+eB l x.length ctx b - ((cAt l a).New - eA l ctx a):=by
  unfold B59;rw [h45];exact A74 y (by omega) (by omega) (by omega)
 rw [←hP]
 refine ⟨hPO,hPN,by omega,by omega,by omega,by omega,by omega,by omega,?_,?_,?_,?_⟩
 ·rw [h43];congr 1
  ·exact hPO.symm
  ·omega
 ·rw [h45];congr 1
  ·exact hPN.symm
  ·omega
 ·rw [hPl,D85]
  have e:w9 l x y ((cAt l a).Old - eA l ctx a) a (b - a)=w9 l x y ((cAt l a).Old - eA l ctx a) a (b - 1 - a+1):=by congr 1;omega
  rw [e]
  simp only [w9,D85]
  rw [show a+(b - 1 - a)=b - 1 by omega]
  have key:A35 (A26 45 (sub x (cAt l (b - 1)).Old (B00 (cAt l (b - 1)))))=true∨A35 (A26 43 (sub y (cAt l (b - 1)).New ((cAt l (b - 1)).New+(cAt l (b - 1)).NewLen)))=true:=by
   obtain ⟨g3a,g3b⟩:=g3
   obtain ⟨g1a,g1b⟩:=g1
   by_cases h0:(cAt l (b - 1)).OldLen=0
   ·right
    refine D86 (by decide) fun e0=>?_
    have:=A74 y (a:=(cAt l (b - 1)).New) (b:=(cAt l (b - 1)).New+(cAt l (b - 1)).NewLen) g3a (by omega) (by omega)
    rw [e0] at this;simp at this;omega
   ·left
    refine D86 (by decide) fun e0=>?_
    have:=A74 x (a:=(cAt l (b - 1)).Old) (b:=B00 (cAt l (b - 1))) g1a (by unfold B00;omega) (by unfold B00;omega)
    rw [e0] at this;unfold B00 at this;simp at this;omega
  rcases key with e1 | e1<;>rw [e1]<;>simp
 ·intro hx hy
  rw [hPl,J65,C99 hx hy,Bool.true_and]
  exact A77 (.inl rfl) (fun s hs=>hx s (D30 hs))
theorem ScFit.hunks (h:ScFit x y l) {ctx:Int} (hc:0≤ctx) (hx:∀s∈x,K3 s=true) (hy:∀s∈y,K3 s=true):∀(hs:List Hunk) (a:Nat),GrOk l x.length ctx a hs l.length →
  ∀(i j e:Int),i=eoI 0 l a+e→j=enI 0 l a+e→0≤e→e≤ctx→(a=0→e=0) →
  C69 i j (hs.map (Z2 l x y))=true∧(N2 (hs.map (Z2 l x y)) 43).Sublist (x.drop i.toNat)∧(N2 (hs.map (Z2 l x y)) 45).Sublist (y.drop j.toNat) ∧
   ∀p∈hs.map (Z2 l x y),(p.Old+B58 p≤x.length∧p.New+B59 p≤y.length∧0≤p.Old∧0≤p.New)∧H2 p.Lines 43=sub x p.Old (p.Old+B58 p)∧H2 p.Lines 45=sub y p.New (p.New+B59 p)
 | [],a,_,i,j,e,_,_,_,_,_=>⟨rfl,by simp [N2],by simp [N2],by simp⟩
 | hk::hs,a,⟨b,hab,ho,hE,hr⟩,i,j,e,hi,hj,he,hec,he0=>by
  have hb:=hr.le
  have hob:b < l.length→opens l ctx b:=by
   intro hlt
   cases hs with
   | nil=>exact absurd hr (by show ¬b=l.length;omega)
   | cons h2 hs2=>obtain ⟨_,_,ho2,_⟩:=hr;exact ho2
  obtain ⟨w1,w2,w3,w4,w5⟩:=h.after hc hb hob (by omega)
  obtain ⟨q1,q2,q3⟩:=h.before hc (show a < l.length by omega) ho
  have H:=h.hunk hc hab hb ho hob
  rw [←hE] at H
  obtain ⟨P,hP⟩:∃P,P=Z2 l x y hk:=⟨_,rfl⟩
  rw [←hP] at H
  obtain ⟨i1,i2,i3,i4⟩:=ScFit.hunks h hc hx hy hs b hr (P.Old+B58 P) (P.New+B59 P) (eB l x.length ctx b) H.oe H.ne w1 w2 (by omega)
  obtain ⟨k1,⟨k2,k2'⟩,k3,⟨k4,k4'⟩,k5,k6,k7,k8⟩:=A06 _ _ _ _ _ _ h.sc a (show a < l.length by omega)
  have h1:=H.old
  have h2:=H.new
  have h3:=H.o0
  have h4:=H.n0
  have h5:=H.ox
  have h6:=H.ny
  have h7:=h.lx
  have h8:=h.ly
  have n1:0≤B58 P:=by unfold B58;omega
  have n2:0≤B59 P:=by unfold B59;omega
  have hgap:e+eA l ctx a≤(cAt l a).Old - eoI 0 l a:=by
   by_cases h0:a=0
   ·have:=he0 h0;omega
   ·have:=C72 ho h0;omega
  obtain ⟨r1,r2,r3,r4⟩:=h.nn a (by omega)
  have hij:i≤P.Old∧j≤P.New∧P.Old - i=P.New - j∧0≤i∧0≤j:=by omega
  have hsub:∀(z:List Str) (i f t:Int),0≤i→i≤f→f≤t→∀r:List Str,r.Sublist (z.drop t.toNat)→(sub z f t++r).Sublist (z.drop i.toNat):=by
   intro z i f t h0 h1 h2 r hr
   have e1:z.drop f.toNat=sub z f t++z.drop t.toNat:=by
    unfold sub
    rw [show t.toNat=f.toNat+(t.toNat - f.toNat) by omega,←List.drop_drop,show f.toNat+(t.toNat - f.toNat) - f.toNat=t.toNat - f.toNat by omega,J50]
   have e2:z.drop f.toNat=(z.drop i.toNat).drop (f.toNat - i.toNat):=by rw [List.drop_drop];congr 1;omega
   refine List.Sublist.trans ?_ (List.drop_sublist (f.toNat - i.toNat) (z.drop i.toNat))
   rw [←e2,e1]
   exact List.Sublist.append_left hr _
  have key:∀(k:UInt8),N2 ((hk::hs).map (Z2 l x y)) k=H2 P.Lines k++N2 (hs.map (Z2 l x y)) k:=by
   intro k;rw [hP];simp [N2]
  refine ⟨?_,?_,?_,?_⟩
  ·rw [J24,←hP]
   simp only [C69,H.gl hx hy,i1,Bool.and_true,Bool.true_and,J18,decide_eq_true_eq]
   refine ⟨?_,by omega⟩
   unfold C32
   rw [H.ch]
   rintro (((((e0 | e0) | e0) | e0) | e0) | e0)
   ·cases e0
   all_goals omega
  ·rw [key,H.ol]
   exact hsub x i P.Old (P.Old+B58 P) hij.2.2.2.1 hij.1 (by omega) _ i2
  ·rw [key,H.nl]
   exact hsub y j P.New (P.New+B59 P) hij.2.2.2.2 hij.2.1 (by omega) _ i3
  ·rw [J24,←hP]
   intro p hp
   rcases List.mem_cons.1 hp with rfl | hp
   ·exact ⟨⟨h5,h6,h3,h4⟩,H.ol,H.nl⟩
   ·exact i4 p hp
theorem A78:∀{s z:List Str},s.Sublist z→R7 z=true→R7 s=true:=by
 intro s z hs
 induction hs with
 | slnil=>exact fun h=>h
 | cons a _ ih =>
  intro h
  simp only [R7,J18] at h
  exact ih h.2
 | cons_cons a hs2 ih =>
  intro h
  simp only [R7,J18,J55] at h ⊢
  refine ⟨?_,ih h.2⟩
  rcases h.1 with h1 | h1
  ·left
   rw [List.isEmpty_iff] at h1 ⊢
   rw [h1] at hs2
   exact List.sublist_nil.1 hs2
  ·exact .inr h1
def Z3 (l:List Change) (x y:List Str) (ctx:Int):List PatchHunk:=(W4 l x.length ctx l.length).map (Z2 l x y)
theorem ScFit.good (h:ScFit x y l) {ctx:Int} (hc:0≤ctx) (hx:∀s∈x,K3 s=true) (hy:∀s∈y,K3 s=true) (ex:R7 x=true) (ey:R7 y=true):C70 (Z3 l x y ctx)=true:=by
 obtain ⟨h1,h2,h3,_⟩:=h.hunks hc hx hy _ 0 (A72 l x.length ctx l.length) 0 0 0 rfl rfl (Int.le_refl _) hc (fun _=>rfl)
 unfold C70 H04 Z3
 rw [h1,A78 h2 (by simpa using ex),A78 h3 (by simpa using ey)]
 rfl
theorem ScFit.texts (h:ScFit x y l) {ctx:Int} (hc:0≤ctx) (hx:∀s∈x,K3 s=true) (hy:∀s∈y,K3 s=true):∀p∈Z3 l x y ctx,(p.Old+B58 p≤x.length∧p.New+B59 p≤y.length∧0≤p.Old∧0≤p.New)∧H2 p.Lines 43=sub x p.Old (p.Old+B58 p)∧H2 p.Lines 45=sub y p.New (p.New+B59 p) :=
 (h.hunks hc hx hy _ 0 (A72 l x.length ctx l.length) 0 0 0 rfl rfl (Int.le_refl _) hc (fun _=>rfl)).2.2.2
end
theorem D00 (cur:Str) (c:UInt8) (h:∀z∈cur,z≠10):K3 (cur++[c])=true:=by
 unfold K3
 simp only [List.dropLast_concat,J18]
 refine ⟨List.all_eq_true.2 fun z hz=>by simpa using h z hz,by simp⟩
theorem B32:∀(s cur:Str),(∀z∈cur,z≠10)→(∀t∈H9 cur s,K3 t=true)∧R7 (H9 cur s)=true
 | [],cur,hc=>by
  unfold H9
  split
  ·exact ⟨by simp,rfl⟩
  ·rename_i h
   refine ⟨fun t ht=>?_,rfl⟩
   obtain rfl:t=cur:=by simpa using ht
   obtain ⟨d,r,e⟩:∃d r,t=r++[d]:=⟨t.getLast h,t.dropLast,(List.dropLast_concat_getLast h).symm⟩
   rw [e]
   exact D00 r d fun z hz=>hc z (by rw [e];simp [hz])
 | c::r,cur,hc=>by
  rw [s5]
  by_cases h:c=10
  ·rw [if_pos h]
   obtain ⟨h1,h2⟩:=B32 r [] (by simp)
   refine ⟨fun t ht=>?_,?_⟩
   ·rcases List.mem_cons.1 ht with rfl | ht
    ·exact D00 cur c hc
    ·exact h1 t ht
   ·simp only [R7,h2,Bool.and_true,J55]
    right;unfold ended;subst h;simp
  ·rw [if_neg h]
   refine B32 r (cur++[c]) fun z hz=>?_
   rcases List.mem_append.1 hz with hz | hz
   ·exact hc z hz
   ·simp at hz;subst hz;exact h
theorem A79 (b:Str):(∀t∈B8 b,K3 t=true)∧R7 (B8 b)=true:=B32 b [] (by simp)
end Go.AL
namespace Go.AL
open Go
theorem B51 {m n:Int} (hm:M2 m) (hn:M2 n):∀(p:List Span) (i j i0 j0:Int) (k0:Nat),Asc m n i j p→0≤i0→0≤j0→i0≤i→i - i0=j - j0→(0 < k0→i0 < i)→K9 k0 i0 j0 (L9 i j p m n) m n=true
 | [],i,j,i0,j0,k0,ha,h1,h2,h3,h4,h5=>by
  obtain ⟨a1,a2⟩:i≤m∧j≤n:=ha
  obtain ⟨m1,m2⟩:=hm
  obtain ⟨n1,n2⟩:=hn
  unfold L9
  split
  ·rename_i hc
   simp only [K9,J18,decide_eq_true_eq]
   refine ⟨?_,by omega⟩
   unfold F44 M2
   show ¬(((((((¬(0≤i∧i≤4096)∨¬(0≤m - i∧m - i≤4096))∨¬(0≤j∧j≤4096))∨¬(0≤n - j∧n - j≤4096))∨m - i+(n - j)=0)∨i - i0≠j - j0)∨i < i0)∨(0 < (k0:Int)∧i=i0))
   omega
  ·simp only [K9,decide_eq_true_eq];omega
 | x::r,i,j,i0,j0,k0,ha,h1,h2,h3,h4,h5=>by
  obtain ⟨a1,a2,a3⟩:=ha
  have hle:=a3.le
  unfold L9
  split
  ·rename_i hc
   simp only [J57,J43,K9,J18,decide_eq_true_eq]
   refine ⟨?_,?_⟩
   ·obtain ⟨m1,m2⟩:=hm
    obtain ⟨n1,n2⟩:=hn
    unfold F44 M2
    show ¬(((((((¬(0≤i∧i≤4096)∨¬(0≤x.From - i∧x.From - i≤4096))∨¬(0≤j∧j≤4096))∨¬(0≤x.To - j∧x.To - j≤4096))∨x.From - i+(x.To - j)=0)∨i - i0≠j - j0)∨i < i0)∨(0 < (k0:Int)∧i=i0))
    omega
   ·exact B51 hm hn r _ _ _ _ _ a3 (by omega) (by omega) (by omega) (by omega) (fun _=>by omega)
  ·rw [J43]
   exact B51 hm hn r _ _ _ _ _ a3 h1 h2 (by omega) (by omega) (fun h=>by omega)
def EqAt (X Y:List Str) (s:Span):Prop:=0≤s.From∧0≤s.To∧∃v,X[s.From.toNat]?=some v∧Y[s.To.toNat]?=some v
theorem G31 {X:List Str} {a b:Int} {v:Str} (h0:0≤a) (h1:a≤b) (hv:X[b.toNat]?=some v):sub X a (b+1)=sub X a b++[v]:=by
 rw [←A73 X h0 h1 (by omega:b≤b+1)]
 congr 1
 unfold sub
 obtain ⟨hl,e⟩:=List.getElem?_eq_some_iff.1 hv
 rw [J20 hl,e,show (b+1).toNat - b.toNat=1 by omega]
 rfl
theorem E83:∀(a b:List Int) (p q:Int),∀s∈F0 p q a b,p≤s.From∧q≤s.To∧∃v,a[(s.From - p).toNat]?=some v∧b[(s.To - q).toNat]?=some v:=by
 intro a
 induction a with
 | nil=>intro b p q s hs;simp [F0] at hs
 | cons x a iha =>
  intro b
  induction b with
  | nil=>intro p q s hs;simp [F0] at hs
  | cons y b ihb =>
   intro p q s hs
   unfold F0 at hs
   split at hs
   ·rename_i e
    rcases List.mem_cons.1 hs with rfl | hs
    ·exact ⟨Int.le_refl _,Int.le_refl _,x,by simp,by simp [e]⟩
    ·obtain ⟨h1,h2,v,h3,h4⟩:=iha b (p+1) (q+1) s hs
     refine ⟨by omega,by omega,v,?_,?_⟩
     ·rw [show (s.From - p).toNat=(s.From - (p+1)).toNat+1 by omega];simpa using h3
     ·rw [show (s.To - q).toNat=(s.To - (q+1)).toNat+1 by omega];simpa using h4
   ·split at hs
    ·obtain ⟨h1,h2,v,h3,h4⟩:=iha (y::b) (p+1) q s hs
     refine ⟨by omega,by omega,v,?_,h4⟩
     rw [show (s.From - p).toNat=(s.From - (p+1)).toNat+1 by omega];simpa using h3
    ·obtain ⟨h1,h2,v,h3,h4⟩:=ihb p (q+1) s hs
     refine ⟨by omega,by omega,v,h3,?_⟩
     rw [show (s.To - q).toNat=(s.To - (q+1)).toNat+1 by omega];simpa using h4
theorem E84:∀(ls:List PatchLine),ls.all B94=true→(ls.map szL).sum≤64*((H2 ls 43).length+(H2 ls 45).length)+((H2 ls 43).flatten.length+(H2 ls 45).flatten.length)
 | [],_=>by simp
 | q::ls,h=>by
  rw [List.all_cons,J18] at h
  have ih:=E84 ls h.2
  have hk:q.Kind=32∨q.Kind=45∨q.Kind=43:=by
   have hg:=h.1
   unfold B94 at hg
   have hg:=A0 hg
   by_cases h1:q.Kind=32
   ·exact .inl h1
   by_cases h2:q.Kind=45
   ·exact .inr (.inl h2)
   by_cases h3:q.Kind=43
   ·exact .inr (.inr h3)
   exact absurd (.inl ⟨⟨h1,h2⟩,h3⟩) hg
  have hd:∀k:UInt8,H2 (q::ls) k=if q.Kind≠k then q.Text::H2 ls k else H2 ls k:=by
   intro k
   unfold H2
   by_cases e:q.Kind=k
   ·rw [if_neg (by simpa using e),List.filter_cons_of_neg (by simpa using e)]
   ·rw [if_pos e,List.filter_cons_of_pos (by simpa using e)];rfl
  rw [hd 43,hd 45,J24,J47]
  have hz:szL q=q.Text.length+64:=rfl
  rcases hk with e | e | e<;>rw [e]<;>simp (decide:=true) only [if_true,if_false,ne_eq,not_true_eq_false,not_false_eq_true,J16,J33,J15]<;>omega
theorem C35:∀(hs:List PatchHunk) (i j:Int),C69 i j hs=true→szP hs≤128*((N2 hs 43).length+(N2 hs 45).length)+((N2 hs 43).flatten.length+(N2 hs 45).flatten.length)
 | [],_,_,_=>by simp [szP]
 | h :: hs,i,j,hg=>by
  simp only [C69,J18,decide_eq_true_eq] at hg
  obtain ⟨h1,h2,h3,h4⟩:=hg
  have ih:=C35 hs _ _ h4
  have hl:=E84 h.Lines h1
  have hne:1≤h.Lines.length:=by
   cases hq:h.Lines with
   | nil=>exact absurd (.inl (.inl (.inl (.inl (.inl (by rw [hq];rfl)))))) h2
   | cons a b=>simp
  have hcnt:h.Lines.length≤(H2 h.Lines 43).length+(H2 h.Lines 45).length:=by
   have:64*h.Lines.length≤(h.Lines.map szL).sum:=szL_len h.Lines
   have key:∀ls:List PatchLine,ls.length≤(H2 ls 43).length+(H2 ls 45).length:=by
    intro ls
    induction ls with
    | nil=>simp
    | cons q ls ih =>
     have hd:∀k:UInt8,(H2 (q::ls) k).length=if q.Kind≠k then (H2 ls k).length+1 else (H2 ls k).length:=by
      intro k
      unfold H2
      by_cases e:q.Kind=k
      ·rw [if_neg (by simpa using e),List.filter_cons_of_neg (by simpa using e)]
      ·rw [if_pos e,List.filter_cons_of_pos (by simpa using e)];simp
     rw [hd 43,hd 45,J16]
     by_cases e:q.Kind=43
     ·have e2:q.Kind≠45:=by rw [e];decide
      rw [if_pos e2];split<;>omega
     ·rw [if_pos e];split<;>omega
   exact key h.Lines
  have hsz:szP (h::hs)=szH h+szP hs:=by simp [szP]
  have hszh:szH h=64+(h.Lines.map szL).sum:=rfl
  have hs1:∀k,N2 (h::hs) k=H2 h.Lines k++N2 hs k:=by intro k;simp [N2]
  rw [hsz,hszh,hs1 43,hs1 45]
  simp only [J15,J42]
  omega
theorem D01:∀{s z:List Str},s.Sublist z→s.flatten.length≤z.flatten.length:=by
 intro s z hs
 induction hs with
 | slnil=>exact Nat.le_refl _
 | cons a _ ih=>simp only [J33,J15];omega
 | cons_cons a _ ih=>simp only [J33,J15];omega
theorem ScFit.size {x y:List Str} {l:List Change} (h:ScFit x y l) {ctx:Int} (hc:0≤ctx) (hx:∀s∈x,K3 s=true) (hy:∀s∈y,K3 s=true):szP (Z3 l x y ctx)≤128*(x.length+y.length)+(x.flatten.length+y.flatten.length):=by
 obtain ⟨h1,h2,h3,_⟩:=h.hunks hc hx hy _ 0 (A72 l x.length ctx l.length) 0 0 0 rfl rfl (Int.le_refl _) hc (fun _=>rfl)
 have h4:=C35 _ _ _ h1
 have e:Z3 l x y ctx=(W4 l x.length ctx l.length).map (Z2 l x y):=rfl
 rw [←e] at h2 h3 h4
 have h2':(N2 (Z3 l x y ctx) 43).Sublist x:=by simpa using h2
 have h3':(N2 (Z3 l x y ctx) 45).Sublist y:=by simpa using h3
 have:=h2'.length_le
 have:=h3'.length_le
 have:=D01 h2'
 have:=D01 h3'
 omega
theorem E48 {a:Str} (h:a.length≤4096):B50 a=(B8 a,0):=by
 have:=R5 a
 unfold B50;rw [if_neg (by omega)]
end Go.AL
namespace Go.AL
open Go
end Go.AL
namespace Go.AL
open Go
abbrev B95:Int→Nat→Cell:=fun x _=>.v (.int .u16 x)
abbrev pU16s (l:List Int):PV:=.one (.list Int 1 B95 l)
theorem H08 (n:Int) (h:0≤n∧n < 65536):IntKind.u16.wrap n=n:=by
 simp [IntKind.wrap,IntKind.signed,IntKind.bits];omega
def flat (a b:List Int) (done:Nat→Nat→Bool):List Int :=
 (List.range ((a.length+1)*(b.length+1))).map fun p=>if done (p / (b.length+1)) (p % (b.length+1))=true then (dist (a.drop (p / (b.length+1))) (b.drop (p % (b.length+1))):Int) else 0
theorem D02 (a b:List Int) (done:Nat→Nat→Bool):(flat a b done).length=(a.length+1)*(b.length+1):=by simp [flat]
theorem D31 {a b:List Int} {i j:Nat} (hi:i≤a.length) (hj:j≤b.length):i*(b.length+1)+j < (a.length+1)*(b.length+1)∧(i*(b.length+1)+j) / (b.length+1)=i∧(i*(b.length+1)+j) % (b.length+1)=j:=by
 refine ⟨?_,?_,?_⟩
 ·have:(i+1)*(b.length+1)≤(a.length+1)*(b.length+1):=J27 _ (by omega)
  rw [J37,Nat.one_mul] at this;omega
 ·rw [Nat.mul_comm,Nat.mul_add_div (by omega),Nat.div_eq_of_lt (by omega),Nat.add_zero]
 ·rw [Nat.mul_comm,Nat.mul_add_mod,Nat.mod_eq_of_lt (by omega)]
theorem D87 {a b:List Int} {done:Nat→Nat→Bool} {i j:Nat} (hi:i≤a.length) (hj:j≤b.length):(flat a b done)[i*(b.length+1)+j]?=some (if done i j=true then (dist (a.drop i) (b.drop j):Int) else 0):=by
 obtain ⟨h1,h2,h3⟩:=D31 hi hj
 unfold flat
 rw [A45 _ _ _ h1,h2,h3]
theorem G32 {a b:List Int} {done done':Nat→Nat→Bool} {i j:Nat} {v:Int} (hi:i≤a.length) (hj:j≤b.length) (hv:v=(dist (a.drop i) (b.drop j):Int)) (hd:done' i j=true)
  (ho:∀r q,r≤a.length→q≤b.length→¬(r=i∧q=j)→done' r q=done r q):(flat a b done).set (i*(b.length+1)+j) v=flat a b done':=by
 obtain ⟨h1,h2,h3⟩:=D31 hi hj
 unfold flat
 refine y4 _ _ _ _ _ (fun _=>?_) (fun q hq hne=>?_)
 ·rw [h2,h3,if_pos hd,hv]
 ·have hW:0 < b.length+1:=by omega
  have e:=Nat.div_add_mod q (b.length+1)
  have hr:q / (b.length+1)≤a.length:=by
   have:=(Nat.div_lt_iff_lt_mul hW).2 hq
   omega
  have hm:=Nat.mod_lt q hW
  rw [ho _ _ hr (by omega) (fun ⟨e1,e2⟩=>hne (by rw [e1,e2,Nat.mul_comm] at e;exact e.symm))]
theorem I10 (a b:List Int):List.replicate ((a.length+1)*(b.length+1)) 0=flat a b (fun _ _=>false):=by
 unfold flat
 simp only [Bool.false_eq_true,if_false]
 rw [List.map_const',J60]
theorem A80 {a b:List Int} {done done':Nat→Nat→Bool} (h:∀r q,r≤a.length→q≤b.length→(done r q=done' r q∨dist (a.drop r) (b.drop q)=0)):flat a b done=flat a b done':=by
 unfold flat
 apply List.map_congr_left
 intro p hp
 have hp:=List.mem_range.1 hp
 have hW:0 < b.length+1:=by omega
 have hr:p / (b.length+1)≤a.length:=by have:=(Nat.div_lt_iff_lt_mul hW).2 hp;omega
 have hm:=Nat.mod_lt p hW
 rcases h (p / (b.length+1)) (p % (b.length+1)) hr (by omega) with e | e
 ·rw [e]
 ·rw [e];simp
def U5:List Int→List Int→Nat
 | x::a,y::b=>if x=y then U5 a b+1 else 0
 | _,_=>0
theorem G33:∀(a b:List Int),U5 a b≤a.length∧U5 a b≤b.length
 | [],_=>by simp [U5]
 | _::_,[]=>by simp [U5]
 | x::a,y::b=>by
  have:=G33 a b
  unfold U5
  simp only [J16]
  split<;>omega
theorem D88 (a b:List Int) (k:Nat) (hk:k < a.length) (hk':k < b.length):U5 (a.drop k) (b.drop k)=if a[k]=b[k] then U5 (a.drop (k+1)) (b.drop (k+1))+1 else 0:=by
 rw [J20 hk,J20 hk'];rfl
theorem I11 (a b:List Int) (k:Nat) (h:¬(k < a.length∧k < b.length)):U5 (a.drop k) (b.drop k)=0:=by
 by_cases h1:k < a.length
 ·rw [J23 (as:=b) (by omega)]
  cases a.drop k<;>rfl
 ·rw [J23 (as:=a) (by omega)];rfl
theorem D89:∀(a b:List Int) (p q:Int),F0 p q a b=N4 p q (U5 a b)++F0 (p+U5 a b) (q+U5 a b) (a.drop (U5 a b)) (b.drop (U5 a b))
 | [],b,p,q=>by simp [U5,j6]
 | x::a,[],p,q=>by simp [U5,j6]
 | x::a,y::b,p,q=>by
  unfold U5
  by_cases h:x=y
  ·rw [if_pos h]
   conv=>lhs;unfold F0
   rw [if_pos h,D89 a b (p+1) (q+1),A64]
   simp only [List.drop_succ_cons,J57]
   rw [show p+1+(U5 a b:Int)=p+((U5 a b+1:Nat):Int) by omega,show q+1+(U5 a b:Int)=q+((U5 a b+1:Nat):Int) by omega]
  ·rw [if_neg h]
   simp [j6]
end Go.AL
namespace Go.AL
open Go
def Y4 (l:List Merged) (bit:Int) (a b:Nat):List Merged:=((l.drop a).take (b - a)).map fun y=>⟨y.Line,I8 y.Parents bit⟩
def C36 (list:List Int) (bit:Int) (a n:Nat):List Merged:=((list.drop a).take n).map fun v=>⟨v,bit⟩
def j9 (l:List Merged) (list:List Int) (bit:Int) (k:Nat):List Change→List Merged
 | []=>Y4 l bit k l.length
 | c::r=>Y4 l bit k c.Old.toNat++(l.drop c.Old.toNat).take c.OldLen.toNat++C36 list bit c.New.toNat c.NewLen.toNat++j9 l list bit (c.Old.toNat+c.OldLen.toNat) r
theorem H09 {α:Type} (l:List α) {a b c:Nat} (h1:a≤b) (h2:b≤c):(l.drop a).take (c - a)=(l.drop a).take (b - a)++(l.drop b).take (c - b):=by
 have h:=List.take_add (l:=l.drop a) (i:=b - a) (j:=c - b)
 rw [List.drop_drop,show b - a+(c - b)=c - a by omega,show a+(b - a)=b by omega] at h
 exact h
theorem D03 (l:List Merged) (bit:Int) {a b c:Nat} (h1:a≤b) (h2:b≤c):Y4 l bit a c=Y4 l bit a b++Y4 l bit b c:=by
 unfold Y4;rw [H09 l h1 h2,J28]
theorem C73 (l:List Merged) (bit:Int) (a:Nat):Y4 l bit a a=[]:=by unfold Y4;simp
theorem C74 (l:List Merged) (bit:Int) {a:Nat} (h:a < l.length):Y4 l bit a (a+1)=(l[a]?.map fun y=>(⟨y.Line,I8 y.Parents bit⟩:Merged)).toList:=by
 unfold Y4
 rw [show a+1 - a=1 by omega,J14 h,J20 h]
 rfl
theorem D90 (l:List Merged) (list:List Int) (bit:Int):∀(ps:List Span) (k i j:Nat),k≤i→Asc l.length list.length i j ps →
  j9 l list bit k (L9 i j ps l.length list.length)=Y4 l bit k i++N6 l list bit i j ps
 | [],k,i,j,hk,ha=>by
  have h1:(i:Int)≤l.length∧(j:Int)≤list.length:=ha
  unfold L9 N6
  by_cases h:(l.length:Int) > i∨(list.length:Int) > j
  ·rw [if_pos h]
   simp only [j9]
   rw [show (i:Int).toNat+((l.length:Int) - i).toNat=l.length by omega,C73,J35,J21,J21,show ((l.length:Int) - i).toNat=l.length - i by omega,show ((list.length:Int) - j).toNat=list.length - j by omega,J25]
   rfl
  ·rw [if_neg h]
   have e1:i=l.length:=by omega
   have e2:j=list.length:=by omega
   rw [e1,e2]
   simp [j9]
 | x::r,k,i,j,hk,ha=>by
  obtain ⟨h1,h2,h3⟩:=ha
  have h4:=h3.le
  have e1:((x.From.toNat+1:Nat):Int)=x.From+1:=by omega
  have e2:((x.To.toNat+1:Nat):Int)=x.To+1:=by omega
  have ih:=fun k (hk:k≤x.From.toNat+1)=>D90 l list bit r k (x.From.toNat+1) (x.To.toNat+1) hk (by rw [e1,e2];exact h3)
  rw [e1,e2] at ih
  have hlt:x.From.toNat < l.length:=by omega
  unfold L9 N6
  by_cases h:x.From > i∨x.To > j
  ·rw [if_pos h,J62,j9]
   dsimp only
   rw [show (i:Int).toNat+(x.From - i).toNat=x.From.toNat by omega,ih _ (by omega),C74 l bit hlt,J21,J21,show (x.From - (i:Int)).toNat=x.From.toNat - i by omega,show (x.To - (j:Int)).toNat=x.To.toNat - j by omega]
   unfold C36
   simp only [J25]
  ·rw [if_neg h,J43]
   have e3:x.From.toNat=i:=by omega
   have e4:x.To.toNat=j:=by omega
   rw [ih k (by omega),D03 l bit hk (show i≤x.From.toNat+1 by omega),e3,e4,C74 l bit (by omega)]
   simp
theorem I59 (l:List Merged) (list:List Int) (bit:Int):j9 l list bit 0 (J7 (E6 l) list)=N6 l list bit 0 0 (F0 0 0 (E6 l) list):=by
 have hasc:=T5 (E6 l) list 0 0
 rw [Int.zero_add,Int.zero_add,show (E6 l).length=l.length by simp [E6]] at hasc
 have:=D90 l list bit (F0 0 0 (E6 l) list) 0 0 0 (Nat.le_refl _) hasc
 rw [C73,J43] at this
 unfold J7 Y0
 rw [show (E6 l).length=l.length by simp [E6]]
 exact this
def O0 (p:Int) (ms:List Int) (c:Change):List Int:=ms.mapIdx fun k m=>if c.New.toNat≤k∧k < c.New.toNat+c.NewLen.toNat then I8 m (G4 p) else m
theorem s8 (p:Int) (ms:List Int) (c:Change):(O0 p ms c).length=ms.length:=by simp [O0]
theorem A07 (p:Int) (ms:List Int) (c:Change) (k:Nat):(O0 p ms c)[k]?=ms[k]?.map fun m=>if c.New.toNat≤k∧k < c.New.toNat+c.NewLen.toNat then I8 m (G4 p) else m:=by
 unfold O0;rw [List.getElem?_mapIdx]
def R8 (cs:List Change) (k:Nat):Bool:=cs.any fun c=>decide (c.New.toNat≤k∧k < c.New.toNat+c.NewLen.toNat)
def B33 (ps:List Span) (k:Nat):Bool:=ps.any fun x=>decide (x.To.toNat=k)
theorem or_or (m b:Int):I8 (I8 m b) b=I8 m b:=by
 unfold I8
 have h:BitVec.ofInt IntKind.u32.bits (IntKind.u32.wrap ((BitVec.ofInt IntKind.u32.bits m ||| BitVec.ofInt IntKind.u32.bits b).toNat:Int))=BitVec.ofInt IntKind.u32.bits m ||| BitVec.ofInt IntKind.u32.bits b:=by
  rw [show IntKind.u32.wrap ((BitVec.ofInt IntKind.u32.bits m ||| BitVec.ofInt IntKind.u32.bits b).toNat:Int)=((BitVec.ofInt IntKind.u32.bits m ||| BitVec.ofInt IntKind.u32.bits b).toNat:Int) from A24 _ (by
   have:=(BitVec.ofInt IntKind.u32.bits m ||| BitVec.ofInt IntKind.u32.bits b).isLt
   exact this)]
  rw [BitVec.ofInt_natCast,BitVec.ofNat_toNat,BitVec.setWidth_eq]
 rw [h,BitVec.or_assoc,BitVec.or_self]
theorem D91 (p:Int):∀(cs:List Change) (ms:List Int) (k:Nat),(cs.foldl (O0 p) ms)[k]?=ms[k]?.map fun m=>if R8 cs k=true then I8 m (G4 p) else m
 | [],ms,k=>by simp [R8]
 | c::r,ms,k=>by
  rw [J41,D91 p r,A07,Option.map_map]
  congr 1
  funext m
  show (if R8 r k=true then I8 (if c.New.toNat≤k∧k < c.New.toNat+c.NewLen.toNat then I8 m (G4 p) else m) (G4 p) else if c.New.toNat≤k∧k < c.New.toNat+c.NewLen.toNat then I8 m (G4 p) else m)=if R8 (c::r) k=true then I8 m (G4 p) else m
  have e:R8 (c::r) k=(decide (c.New.toNat≤k∧k < c.New.toNat+c.NewLen.toNat)||R8 r k):=rfl
  rw [e]
  by_cases h1:c.New.toNat≤k∧k < c.New.toNat+c.NewLen.toNat
  ·rw [if_pos h1,decide_eq_true h1,Bool.true_or,if_pos rfl]
   cases R8 r k
   ·rw [if_neg (by decide)]
   ·rw [if_pos rfl,or_or]
  ·rw [if_neg h1,decide_eq_false h1,Bool.false_or]
theorem clr_clr (m b:Int):Z8 (Z8 m b) b=Z8 m b:=by
 unfold Z8
 have h:BitVec.ofInt IntKind.u32.bits (IntKind.u32.wrap ((BitVec.ofInt IntKind.u32.bits m &&& ~~~BitVec.ofInt IntKind.u32.bits b).toNat:Int))=BitVec.ofInt IntKind.u32.bits m &&& ~~~BitVec.ofInt IntKind.u32.bits b:=by
  rw [show IntKind.u32.wrap ((BitVec.ofInt IntKind.u32.bits m &&& ~~~BitVec.ofInt IntKind.u32.bits b).toNat:Int)=((BitVec.ofInt IntKind.u32.bits m &&& ~~~BitVec.ofInt IntKind.u32.bits b).toNat:Int) from A24 _ (by
   have:=(BitVec.ofInt IntKind.u32.bits m &&& ~~~BitVec.ofInt IntKind.u32.bits b).isLt
   exact this)]
  rw [BitVec.ofInt_natCast,BitVec.ofNat_toNat,BitVec.setWidth_eq]
 rw [h,BitVec.and_assoc,BitVec.and_self]
theorem E85 (p:Int):∀(ps:List Span) (ms:List Int) (k:Nat),(∀x∈ps,x.To.toNat < ms.length)→(ps.foldl (K1 p) ms)[k]?=ms[k]?.map fun m=>if B33 ps k=true then Z8 m (G4 p) else m
 | [],ms,k,_=>by simp [B33]
 | x::r,ms,k,hp=>by
  have hx:=hp x (by simp)
  have hlen:(K1 p ms x).length=ms.length:=by simp [K1]
  rw [J41,E85 p r _ k (fun y hy=>by rw [hlen];exact hp y (by simp [hy]))]
  have hget:(K1 p ms x)[k]?=ms[k]?.map fun m=>if x.To.toNat=k then Z8 m (G4 p) else m:=by
   unfold K1
   rw [List.getElem?_set]
   by_cases h:x.To.toNat=k
   ·subst h
    rw [if_pos rfl,if_pos hx,J14 hx,J17,J14 hx]
    simp
   ·rw [if_neg h];simp [h]
  rw [hget,Option.map_map]
  congr 1
  funext m
  show (if B33 r k=true then Z8 (if x.To.toNat=k then Z8 m (G4 p) else m) (G4 p) else if x.To.toNat=k then Z8 m (G4 p) else m)=if B33 (x::r) k=true then Z8 m (G4 p) else m
  have e:B33 (x::r) k=(decide (x.To.toNat=k)||B33 r k):=rfl
  rw [e]
  by_cases h1:x.To.toNat=k
  ·rw [if_pos h1,decide_eq_true h1,Bool.true_or,if_pos rfl]
   cases B33 r k
   ·rw [if_neg (by decide)]
   ·rw [if_pos rfl,clr_clr]
  ·rw [if_neg h1,decide_eq_false h1,Bool.false_or]
theorem clr_or (m:Nat) (p:Nat) (hp:p < 32) (hm:m < 2 ^ p):Z8 (I8 m (G4 p)) (G4 p)=m:=by
 have h2:2 ^ p < 2 ^ 32:=Nat.pow_lt_pow_right (by decide) hp
 have hb:G4 (p:Int)=((2 ^ p:Nat):Int):=by
  unfold G4
  rw [H00 (n:=(p:Int)) (by omega),show min ((p:Int)).toNat IntKind.u32.bits=p by rw [J21];exact Nat.min_eq_left (by show p≤32;omega),Int.one_mul]
  rw [show (2:Int) ^ p=((2 ^ p:Nat):Int) by simp]
  exact A24 _ (by omega)
 rw [hb]
 obtain ⟨h3,h4⟩:=B26 m (2 ^ p) (by omega) (by omega)
 rw [h3]
 unfold Z8
 have e1:BitVec.ofInt IntKind.u32.bits (((m ||| 2 ^ p:Nat)):Int)=BitVec.ofNat 32 (m ||| 2 ^ p):=by simp [BitVec.ofInt_natCast];rfl
 have e2:BitVec.ofInt IntKind.u32.bits ((2 ^ p:Nat):Int)=BitVec.ofNat 32 (2 ^ p):=by rw [BitVec.ofInt_natCast];rfl
 rw [e1,e2]
 have h5:(BitVec.ofNat 32 (m ||| 2 ^ p) &&& ~~~BitVec.ofNat 32 (2 ^ p))=BitVec.ofNat 32 m:=by
  apply BitVec.eq_of_getLsbD_eq
  intro i hi
  simp only [BitVec.getLsbD_and,BitVec.getLsbD_not,BitVec.getLsbD_ofNat,hi,decide_true,Bool.true_and,Nat.testBit_or,Nat.testBit_two_pow]
  by_cases hip:p=i
  ·subst hip
   simp [Nat.testBit_lt_two_pow hm]
  ·simp [hip]
 have h6:(BitVec.ofNat 32 m).toNat=m:=by rw [BitVec.toNat_ofNat];exact Nat.mod_eq_of_lt (by omega)
 have h7:((BitVec.ofNat 32 (m ||| 2 ^ p) &&& ~~~BitVec.ofNat 32 (2 ^ p)).toNat:Int)=m:=by rw [h5,h6]
 exact (congrArg IntKind.u32.wrap h7).trans (A24 _ (by omega))
end Go.AL
namespace Go.AL
open Go
theorem G34 (a b:List Span) (k:Nat):B33 (a++b) k=(B33 a k||B33 b k):=by unfold B33;rw [List.any_append]
theorem C37 (i j:Int) (t:Nat) (k:Nat) (hj:0≤j):B33 (N4 i j t) k=decide (j≤k∧(k:Int) < j+t):=by
 unfold B33 N4
 rw [List.any_map,Bool.eq_iff_iff,List.any_eq_true,decide_eq_true_eq]
 constructor
 ·rintro ⟨s,hs,h⟩
  have h1:=List.mem_range.1 hs
  have h2:(j+(s:Int)).toNat=k:=A0 h
  omega
 ·rintro ⟨h1,h2⟩
  refine ⟨((k:Int) - j).toNat,List.mem_range.2 (by omega),?_⟩
  show decide ((j+((((k:Int) - j).toNat:Nat):Int)).toNat=k)=true
  exact decide_eq_true (by omega)
theorem D92 (c:Change) (r:List Change) (k:Nat):R8 (c::r) k=(decide (c.New.toNat≤k∧k < c.New.toNat+c.NewLen.toNat)||R8 r k):=rfl
theorem E86:∀(cs:List Change) (k0:Nat) (i j m n:Int),K9 k0 i j cs m n=true→0≤i→0≤j →
  (∀k:Nat,(k:Int) < j→B33 (K0 i j cs m) k=false∧R8 cs k=false)∧∀k:Nat,j≤k→(k:Int) < n→B33 (K0 i j cs m) k=!R8 cs k
 | [],k0,i,j,m,n,h,h1,h2=>by
  simp only [K9,decide_eq_true_eq] at h
  unfold K0
  refine ⟨fun k hk=>⟨?_,rfl⟩,fun k hk hk2=>?_⟩
  ·rw [C37 _ _ _ _ h2];exact decide_eq_false (by omega)
  ·rw [C37 _ _ _ _ h2]
   show _=true
   exact decide_eq_true (by omega)
 | c :: r,k0,i,j,m,n,h,h1,h2=>by
  simp only [K9,J18,decide_eq_true_eq] at h
  obtain ⟨hb,hr⟩:=h
  have hc:(0≤c.OldLen∧0≤c.NewLen∧i≤c.Old∧c.Old - i=c.New - j):=by
   unfold F44 M2 at hb
   by_cases a2:(0≤c.OldLen∧c.OldLen≤4096)<;>by_cases a4:(0≤c.NewLen∧c.NewLen≤4096)<;>simp [a2,a4] at hb ⊢<;>omega
  obtain ⟨c1,c2,c3,c4⟩:=hc
  obtain ⟨i1,i2⟩:=E86 r (k0+1) (c.Old+c.OldLen) (c.New+c.NewLen) m n hr (by omega) (by omega)
  unfold K0
  rw [show max i c.Old=c.Old by omega,show j+((c.Old - i).toNat:Int)+c.NewLen=c.New+c.NewLen by omega]
  refine ⟨fun k hk=>?_,fun k hk hk2=>?_⟩
  ·obtain ⟨q1,q2⟩:=i1 k (by omega)
   rw [G34,C37 _ _ _ _ h2,D92,q1,q2,decide_eq_false (by omega),decide_eq_false (by omega)]
   exact ⟨rfl,rfl⟩
  ·rw [G34,C37 _ _ _ _ h2,D92]
   by_cases g1:(k:Int) < c.New
   ·obtain ⟨q1,q2⟩:=i1 k (by omega)
    rw [q1,q2,decide_eq_true (by omega),decide_eq_false (by omega)];rfl
   ·rw [decide_eq_false (by omega),Bool.false_or]
    by_cases g2:(k:Int) < c.New+c.NewLen
    ·obtain ⟨q1,q2⟩:=i1 k g2
     rw [q1,decide_eq_true (by omega)];rfl
    ·rw [i2 k (by omega) hk2,decide_eq_false (by omega),Bool.false_or]
theorem H53 {m n:Int}:∀{p:List Span} {i j:Int},Asc m n i j p→∀x∈p,i≤x.From∧x.From < m∧j≤x.To∧x.To < n
 | x::r,i,j,h,y,hy=>by
  obtain ⟨h1,h2,h3⟩:=h
  have h4:=h3.le
  rcases List.mem_cons.1 hy with rfl | hy
  ·omega
  ·have:=H53 h3 y hy;omega
def v6 (ids:List (List Int)) (s:Loom) (p:Nat):Loom :=
 let file:=ids.getD (p+1) []
 let sc:=J7 file (ids.getD 0 [])
 (sc.foldl (O0 p) s.1,sc.foldl (J3 p file) s.2)
def q8 (ids:List (List Int)) (lines n p:Nat):Loom:=(List.range p).foldl (v6 ids) (u6 lines n)
theorem B34 (ids:List (List Int)) (lines n p:Nat):q8 ids lines n (p+1)=v6 ids (q8 ids lines n p) p:=by
 unfold q8;rw [J52,J45];rfl
def LowM (p:Nat) (ms:List Int):Prop:=∀v∈ms,0≤v∧v < ((2 ^ p:Nat):Int)
theorem B52 {p:Nat} (hp:p < 32):G4 (p:Int)=((2 ^ p:Nat):Int):=by
 have h2:2 ^ p < 2 ^ 32:=Nat.pow_lt_pow_right (by decide) hp
 unfold G4
 rw [H00 (n:=(p:Int)) (by omega),show min ((p:Int)).toNat IntKind.u32.bits=p by rw [J21];exact Nat.min_eq_left (by show p≤32;omega),Int.one_mul]
 rw [show (2:Int) ^ p=((2 ^ p:Nat):Int) by simp]
 exact A24 _ (by omega)
theorem or_low {m:Int} {p:Nat} (hp:p < 32) (h:0≤m∧m < ((2 ^ p:Nat):Int)):0≤I8 m (G4 p)∧I8 m (G4 p) < ((2 ^ (p+1):Nat):Int):=by
 have h2:2 ^ p < 2 ^ 32:=Nat.pow_lt_pow_right (by decide) hp
 obtain ⟨q,rfl⟩:∃q:Nat,m=q:=⟨m.toNat,by omega⟩
 have hq:q < 2 ^ p:=by omega
 rw [B52 hp]
 obtain ⟨h3,_⟩:=B26 q (2 ^ p) (by omega) (by omega)
 rw [h3]
 have h4:q ||| 2 ^ p < 2 ^ (p+1):=Nat.or_lt_two_pow (by rw [Nat.pow_succ];omega) (by rw [Nat.pow_succ];omega)
 omega
theorem I12 {ids:List (List Int)} {s:Loom} {p:Nat} {file base:List Int} (hf:file=ids.getD (p+1) []) (hb:base=ids.getD 0 []) (hp:p < 32) (hlow:LowM p s.1) (hlen:s.1.length=base.length) (hfl:file.length≤4096) (hbl:base.length≤4096) :
  v6 ids s p=K7 ids s p∧LowM (p+1) (v6 ids s p).1∧(v6 ids s p).1.length=base.length:=by
 have hasc:=T5 file base 0 0
 rw [Int.zero_add,Int.zero_add] at hasc
 have hsc:=B51 (m:=file.length) (n:=base.length) ⟨by omega,by omega⟩ ⟨by omega,by omega⟩ (F0 0 0 file base) 0 0 0 0 0 hasc (by omega) (by omega) (by omega) (by omega) (by omega)
 obtain ⟨_,hm⟩:=E86 _ 0 0 0 file.length base.length hsc (by omega) (by omega)
 have hmade:=A67 file base
 obtain ⟨sc,hscd⟩:∃sc,sc=J7 file base:=⟨_,rfl⟩
 have hsc2:L9 0 0 (F0 0 0 file base) file.length base.length=sc:=by rw [hscd];rfl
 rw [hsc2] at hm
 have e1:v6 ids s p=(sc.foldl (O0 p) s.1,sc.foldl (J3 p file) s.2):=by rw [hscd,hf,hb];rfl
 have e2:K7 ids s p=((O9 sc file.length).foldl (K1 p) (s.1.map (I8 · (G4 p))),sc.foldl (J3 p file) s.2):=by rw [hscd,hf,hb];rfl
 have hget:=D91 p sc s.1
 have hlen1:(sc.foldl (O0 p) s.1).length=s.1.length:=by
  have key:∀(cs:List Change) (ms:List Int),(cs.foldl (O0 p) ms).length=ms.length:=by
   intro cs
   induction cs with
   | nil=>intro ms;rfl
   | cons c r ih=>intro ms;rw [J41,ih,s8]
  exact key sc s.1
 refine ⟨?_,?_,by rw [e1];dsimp only;rw [hlen1,hlen]⟩
 ·rw [e1,e2,Prod.mk.injEq]
  refine ⟨?_,rfl⟩
  refine List.ext_getElem? fun k=>?_
  have hto:∀x∈O9 sc file.length,x.To.toNat < (s.1.map (I8 · (G4 p))).length:=by
   intro x hx
   rw [J29,hlen]
   rw [hscd,hmade] at hx
   have:=H53 hasc x hx
   omega
  rw [hget,E85 p _ _ k hto,J40,Option.map_map]
  cases hk:s.1[k]? with
  | none=>rfl
  | some v =>
   have hkl:k < base.length:=by have:=(List.getElem?_eq_some_iff.1 hk).1;omega
   have h3:=hm k (by omega) (by omega)
   have hv:=hlow v (J30 hk)
   show some (if R8 sc k=true then I8 v (G4 p) else v)=some (if B33 (O9 sc file.length) k=true then Z8 (I8 v (G4 p)) (G4 p) else I8 v (G4 p))
   have h3:B33 (O9 sc file.length) k=!R8 sc k:=h3
   rw [h3]
   cases R8 sc k
   ·obtain ⟨q,rfl⟩:∃q:Nat,v=q:=⟨v.toNat,by omega⟩
    rw [if_neg (by decide),if_pos (show (!false)=true from rfl),clr_or q p hp (by omega)]
   ·rw [if_pos rfl,if_neg (by decide)]
 ·rw [e1]
  intro v hv
  obtain ⟨k,hk,rfl⟩:=List.mem_iff_getElem.1 hv
  have hkl:k < s.1.length:=by rw [←hlen1];exact hk
  have h4:=hget k
  rw [J14 hk,J14 hkl] at h4
  have h4:(sc.foldl (O0 p) s.1)[k]=if R8 sc k=true then I8 s.1[k] (G4 p) else s.1[k]:=Option.some.inj h4
  show 0≤(sc.foldl (O0 p) s.1)[k]∧(sc.foldl (O0 p) s.1)[k] < _
  rw [h4]
  have hv:=hlow s.1[k] (J26 hkl)
  split
  ·exact or_low hp hv
  ·have:2 ^ p≤2 ^ (p+1):=Nat.pow_le_pow_right (by decide) (by omega)
   omega
theorem B53 {ids:List (List Int)} {base:List Int} {n:Nat} (hb:base=ids.getD 0 []) (hl:∀x∈ids,x.length≤4096) (hbl:base.length≤4096):∀p,p≤32→q8 ids base.length n p=M9 ids base.length n p∧LowM p (q8 ids base.length n p).1∧(q8 ids base.length n p).1.length=base.length
 | 0,_=>by
  refine ⟨rfl,fun v hv=>?_,by simp [q8,u6]⟩
  have:=List.eq_of_mem_replicate (show v∈List.replicate base.length 0 from hv)
  subst this;decide
 | p+1,hp=>by
  obtain ⟨h1,h2,h3⟩:=B53 (n:=n) hb hl hbl p (by omega)
  have hfl:(ids.getD (p+1) []).length≤4096:=by
   rw [J17]
   cases hx:ids[p+1]? with
   | none=>simp
   | some x=>exact hl x (J30 hx)
  obtain ⟨s1,s2,s3⟩:=I12 (ids:=ids) (s:=q8 ids base.length n p) (p:=p) rfl hb (by omega) h2 h3 hfl hbl
  rw [B34,A23,s1,h1]
  rw [s1,h1] at s2 s3
  exact ⟨rfl,s2,s3⟩
theorem G35 (p:Int) (ms:List Int) (a b d:Int):O0 p ms ⟨a,b,d,0⟩=ms:=by
 refine List.ext_getElem? fun k=>?_
 rw [A07]
 cases h:ms[k]? with
 | none=>rfl
 | some v=>simp only [Option.map_some];rw [if_neg (by omega)]
theorem G36 (p:Int) (ms:List Int) (a b:Int) (d t:Nat) (h:d+t < ms.length):(O0 p ms ⟨a,b,d,t⟩)[d+t]?=some (ms.getD (d+t) 0)∧(O0 p ms ⟨a,b,d,t⟩).set (d+t) (I8 (ms.getD (d+t) 0) (G4 p))=O0 p ms ⟨a,b,d,((t+1:Nat):Int)⟩:=by
 have hg:ms[d+t]?=some (ms.getD (d+t) 0):=by rw [J17,J14 h];rfl
 refine ⟨?_,?_⟩
 ·rw [A07,hg]
  simp only [Option.map_some,J21]
  rw [if_neg (by omega)]
 ·refine List.ext_getElem? fun k=>?_
  rw [List.getElem?_set,A07,A07,s8]
  simp only [J21]
  by_cases hk:d+t=k
  ·subst hk
   rw [if_pos rfl,if_pos h,hg]
   simp only [Option.map_some]
   rw [if_pos (by omega)]
  ·rw [if_neg hk]
   cases ms[k]? with
   | none=>rfl
   | some v =>
    simp only [Option.map_some]
    by_cases g:d≤k∧k < d+t
    ·rw [if_pos g,if_pos (by omega)]
    ·rw [if_neg g,if_neg (by omega)]
end Go.AL
namespace Go.AL
open Go
def GrX (l:List Change) (m ctx:Int):Nat→List Hunk→Nat→Prop
 | a,[],k=>a=k
 | a,h::r,k=>∃b,a < b∧opens l ctx a∧(∀c,a < c→c < b→¬opens l ctx c)∧h=mkH l m ctx a b∧GrX l m ctx b r k
theorem GrX.le {l:List Change} {m ctx:Int}:∀{hs:List Hunk} {a k:Nat},GrX l m ctx a hs k→a≤k
 | [],a,k,h=>Nat.le_of_eq h
 | _::_,a,k,⟨b,h1,_,_,_,h2⟩=>by have:=GrX.le h2;omega
theorem GrX.snoc {l:List Change} {m ctx:Int} {k n:Nat} (ho:opens l ctx k) (hk:k < n) (hno:∀c,k < c→c < n→¬opens l ctx c):∀{hs:List Hunk} {a:Nat},GrX l m ctx a hs k→GrX l m ctx a (hs++[mkH l m ctx k n]) n
 | [],a,h=>by
  obtain rfl:a=k:=h
  exact ⟨n,hk,ho,hno,rfl,rfl⟩
 | _::_,a,⟨b,h1,h2,h3,h4,h5⟩=>⟨b,h1,h2,h3,h4,GrX.snoc ho hk hno h5⟩
theorem GrX.last {l:List Change} {m ctx:Int} {k:Nat} (hno:¬opens l ctx k):∀{hs:List Hunk} {a:Nat},GrX l m ctx a hs k→hs≠[]→GrX l m ctx a (hs.set (hs.length - 1) (C31 l m ctx k (hs.getD (hs.length - 1) H48))) (k+1)
 | [],_,_,h0=>absurd rfl h0
 | [h],a,⟨b,h1,h2,h3,h4,h5⟩,_=>by
  obtain rfl:b=k:=h5
  subst h4
  refine ⟨b+1,by omega,h2,fun c hc1 hc2=>?_,rfl,rfl⟩
  by_cases hcb:c=b
  ·rw [hcb];exact hno
  ·exact h3 c hc1 (by omega)
 | h::h'::r,a,⟨b,h1,h2,h3,h4,h5⟩,_=>by
  have ih:=GrX.last hno h5 (by simp)
  refine ⟨b,h1,h2,h3,h4,?_⟩
  simpa using ih
theorem GrX.len {l:List Change} {m ctx:Int}:∀{hs:List Hunk} {a k:Nat},GrX l m ctx a hs k→hs.length≤k - a
 | [],_,_,_=>Nat.zero_le _
 | _::_,a,k,⟨b,h1,_,_,_,h2⟩=>by have:=GrX.len h2;have:=h2.le;simp only [J16];omega
end Go.AL
namespace Go.AL
open Go
def x8:List Str→Int→List (Str × Cell)
 | [],_=>[]
 | s::r,i=>(s,.v (.int .i64 i))::x8 r (i+1)
theorem E87 (s:Str):∀(l:List Str) (i:Int),x8 (l++[s]) i=x8 l i++[(s,.v (.int .i64 (i+l.length)))]
 | [],i=>by simp [x8]
 | x::r,i=>by
  simp only [J57,x8,E87 s r,J16]
  rw [show i+1+(r.length:Int)=i+((r.length+1:Nat):Int) by omega]
theorem E88 (s:Str):∀(l:List Str) (i:Int),s∈l→v8 (x8 l i) s=some (.v (.int .i64 (G9 l s i)))
 | [],_,h=>by simp at h
 | x::r,i,h=>by
  simp only [x8,v8,G9]
  by_cases he:x=s
  ·rw [if_pos he,if_pos he]
  ·rw [if_neg he,if_neg he]
   exact E88 s r (i+1) ((List.mem_cons.1 h).resolve_left (fun q=>he q.symm))
theorem D93 (s:Str):∀(l:List Str) (i:Int),s∉l→v8 (x8 l i) s=none
 | [],_,_=>rfl
 | x::r,i,h=>by
  simp only [x8,v8]
  rw [if_neg (fun q=>h (by simp [q]))]
  exact D93 s r (i+1) (fun q=>h (by simp [q]))
theorem B35 (s:Str) (r:List Str):∀(l:List Str) (i:Int),s∈l→G9 (l++r) s i=G9 l s i
 | [],_,h=>by simp at h
 | x::l,i,h=>by
  simp only [J57,G9]
  by_cases he:x=s
  ·rw [if_pos he,if_pos he]
  ·rw [if_neg he,if_neg he]
   exact B35 s r l (i+1) ((List.mem_cons.1 h).resolve_left (fun q=>he q.symm))
theorem D04 (s:Str):∀(l:List Str) (i:Int),s∉l→G9 (l++[s]) s i=i+l.length
 | [],i,_=>by simp [G9]
 | x::l,i,h=>by
  simp only [J57,G9,J16]
  rw [if_neg (fun q=>h (by simp [q])),D04 s l (i+1) (fun q=>h (by simp [q]))]
  omega
theorem C38:∀(l out:List Str),∃r,l.foldl H7 out=out++r
 | [],out=>⟨[],by simp⟩
 | s::l,out=>by
  obtain ⟨r,hr⟩:=C38 l (H7 out s)
  rw [J41,hr]
  unfold H7
  split
  ·exact ⟨r,rfl⟩
  ·exact ⟨s::r,by simp⟩
def N5 (files:List (List Str)) (k j:Nat):List Str:=((files.take k).flatten++(files.getD k []).take j).foldl H7 []
theorem G37 (files:List (List Str)) (k:Nat):N5 files (k+1) 0=N5 files k (files.getD k []).length:=by
 unfold N5
 rw [List.take_zero,J35,J32]
 by_cases h:k < files.length
 ·rw [W3 files k h]
  congr 2
  simp [h]
 ·rw [J46 (by omega),J46 (by omega)]
  have:files.getD k []=[]:=by simp [show files.length≤k by omega]
  rw [this,J35]
theorem F49 (files:List (List Str)) (k j:Nat) (s:Str) (h:(files.getD k [])[j]?=some s):N5 files k (j+1)=H7 (N5 files k j) s:=by
 unfold N5
 have hj:j < (files.getD k []).length:=(List.getElem?_eq_some_iff.1 h).1
 have he:=(List.getElem?_eq_some_iff.1 h).2
 rw [J22 hj,he,←J25,J45]
 rfl
theorem G38 (files:List (List Str)):N5 files files.length 0=D8 files:=by
 unfold N5 D8
 rw [J32];simp
theorem D05 (files:List (List Str)) (k j:Nat):∃r,D8 files=N5 files k j++r:=by
 have h:∃m,files.flatten=((files.take k).flatten++(files.getD k []).take j)++m:=by
  refine ⟨(files.getD k []).drop j++(files.drop (k+1)).flatten,?_⟩
  by_cases hk:k < files.length
  ·have e:files=files.take k++files.getD k []::files.drop (k+1):=by
    have:files.getD k []=files[k]:=by simp [hk]
    rw [this,List.getElem_cons_drop,J50]
   conv=>lhs;rw [e]
   rw [J42,J33,J25]
   congr 1
   rw [←J25,J50]
  ·have:files.getD k []=[]:=by simp [show files.length≤k by omega]
   rw [this,J46 (by omega:files.length≤k),J23 (by omega:files.length≤k+1)]
   simp
 obtain ⟨m,hm⟩:=h
 unfold D8 N5
 rw [hm,J45]
 obtain ⟨r,hr⟩:=C38 m (((files.take k).flatten++(files.getD k []).take j).foldl H7 [])
 exact ⟨r,hr⟩
theorem D94 (files:List (List Str)) (k j:Nat):(N5 files k j).length≤files.flatten.length:=by
 obtain ⟨r,hr⟩:=D05 files k j
 have:=B22 files
 rw [hr,J15] at this;omega
def O3 (files:List (List Str)) (k:Nat):List TC:=(List.range files.length).map fun r=>if r < k then .p (.list Int 1 G3 (J6 (D8 files) (files.getD r []))) else .p (.v (.slice none 0 0))
theorem I13 {files:List (List Str)} {k:Nat} (h:k < files.length):(O3 files k)[k]?=some (.p (.v (.slice none 0 0))):=by
 simp [O3,h]
theorem F50 (files:List (List Str)) (k m:Nat) (_h:k < files.length):((O3 files k).set k (.buf m Int 1 G3 (J6 (D8 files) (files.getD k [])))).map (TC.forget m)=O3 files (k+1):=by
 have e1:(O3 files k).map (TC.forget m)=O3 files k:=by
  unfold O3
  rw [J44]
  apply List.map_congr_left
  intro r _
  simp only [Function.comp]
  split<;>rfl
 rw [List.map_set,e1]
 have e2:(TC.buf m Int 1 G3 (J6 (D8 files) (files.getD k []))).forget m=.p (.list Int 1 G3 (J6 (D8 files) (files.getD k []))):=by simp [TC.forget]
 rw [e2]
 unfold O3
 refine y4 _ _ _ _ _ (fun _=>by simp) (fun q hq hne=>?_)
 simp only [show (q < k+1)=(q < k) from propext ⟨fun h=>by omega,fun h=>by omega⟩]
theorem H10 (files:List (List Str)):List.replicate files.length (TC.p (.v (.slice none 0 0)))=O3 files 0:=by
 unfold O3
 simp only [Nat.not_lt_zero,if_false,List.map_const',J60]
theorem H11 (files:List (List Str)):O3 files files.length=(files.map (J6 (D8 files))).map fun x=>TC.p (intsC x 0):=by
 unfold O3
 apply List.ext_getElem
 ·simp
 ·intro i h1 h2
  have hi:i < files.length:=by simpa using h1
  simp [hi,intsC]
end Go.AL
namespace Go.AL
open Go
theorem H54 (m n:Int):∀(l:List Change) (k0:Nat) (i j:Int),(∀k,k < l.length→M2 (cAt l k).Old∧M2 (cAt l k).OldLen∧M2 (cAt l k).New∧M2 (cAt l k).NewLen∧(cAt l k).OldLen+(cAt l k).NewLen≠0∧(cAt l k).Old - eoI i l k=(cAt l k).New - enI j l k∧eoI i l k≤(cAt l k).Old∧(0 < k0+k→eoI i l k < (cAt l k).Old)) →
  (m - eoI i l l.length=n - enI j l l.length∧eoI i l l.length≤m)→K9 k0 i j l m n=true
 | [],k0,i,j,_,h=>by
  have h1:m - i=n - j∧i≤m:=h
  simp only [K9,decide_eq_true_eq];omega
 | c::r,k0,i,j,h,he=>by
  simp only [K9,J18,decide_eq_true_eq]
  refine ⟨?_,H54 m n r (k0+1) _ _ (fun k hk=>?_) ?_⟩
  ·obtain ⟨h1,h2,h3,h4,h5,h6,h7,h8⟩:=h 0 (by simp)
   have h1:M2 c.Old:=h1
   have h2:M2 c.OldLen:=h2
   have h3:M2 c.New:=h3
   have h4:M2 c.NewLen:=h4
   have h5:c.OldLen+c.NewLen≠0:=h5
   have h6:c.Old - i=c.New - j:=h6
   have h7:i≤c.Old:=h7
   have h8:0 < k0+0→i < c.Old:=h8
   unfold F44
   rintro (((((((q | q) | q) | q) | q) | q) | q) | ⟨q,q2⟩)
   ·exact q h1
   ·exact q h2
   ·exact q h3
   ·exact q h4
   ·exact h5 q
   ·exact q h6
   ·omega
   ·have:=h8 (by omega);omega
  ·have:=h (k+1) (by simpa using hk)
   rw [C34,u7,u9] at this
   obtain ⟨e1,e2,e3,e4,e5,e6,e7,e8⟩:=this
   exact ⟨e1,e2,e3,e4,e5,e6,e7,fun h0=>e8 (by omega)⟩
  ·rw [J16,u7,u9] at he;exact he
theorem H55 (x y:List Str):∀(l:List Change) (i j:Int),(∀k,k < l.length→sub x (eoI i l k) (cAt l k).Old=sub y (enI j l k) (cAt l k).New)→sub x (eoI i l l.length) x.length=sub y (enI j l l.length) y.length→C71 x y i j l
 | [],_,_,_,h=>h
 | c::r,i,j,h,he=>by
  refine ⟨h 0 (by simp),H55 x y r _ _ (fun k hk=>?_) ?_⟩
  ·have:=h (k+1) (by simpa using hk)
   rw [C34,u7,u9] at this;exact this
  ·rw [J16,u7,u9] at he;exact he
theorem H56 {x:List Str} {p q:Int} {t:Nat} (h0:0≤p) (h:p+t < q):(sub x p q)[t]?=x[(p+t).toNat]?:=by
 unfold sub
 rw [List.getElem?_take,if_pos (by omega),J56]
 congr 1;omega
theorem F51 {x y:List Str} {p q p' q':Int} (h:sub x p q=sub y p' q') (h0:0≤p) (h0':0≤p') (hq:q≤x.length) (he:q - p=q' - p') {t:Nat} (ht:p+t < q):∃v,x[(p+t).toNat]?=some v∧y[(p'+t).toNat]?=some v:=by
 have h1:x[(p+t).toNat]?=some x[(p+t).toNat]:=J14 (by omega)
 refine ⟨_,h1,?_⟩
 rw [←H56 (q:=q') h0' (by omega),←h,H56 h0 ht];exact h1
theorem D06 {i j:Int} {n:Nat} {p:Span} (h:p∈N4 i j n):∃t:Nat,t < n∧p=⟨i+t,j+t⟩:=by
 unfold N4 at h
 obtain ⟨t,h1,h2⟩:=List.mem_map.1 h
 exact ⟨t,List.mem_range.1 h1,h2.symm⟩
theorem D95 {x y:List Str}:∀(l:List Change) (k0:Nat) (i j:Int),K9 k0 i j l x.length y.length=true→C71 x y i j l→0≤i→0≤j→∀p∈K0 i j l x.length,EqAt x y p
 | [],k0,i,j,hs,he,hi,hj,p,hp=>by
  simp only [K9,decide_eq_true_eq] at hs
  unfold K0 at hp
  obtain ⟨t,ht,rfl⟩:=D06 hp
  have he:sub x i x.length=sub y j y.length:=he
  exact ⟨by dsimp only;omega,by dsimp only;omega,F51 he hi hj (by omega) (by omega) (by omega)⟩
 | c::r,k0,i,j,hs,he,hi,hj,p,hp=>by
  have hok:=A25 _ _ _ _ _ _ hs
  have g:=A06 x.length y.length (c::r) k0 i j hs 0 (by simp)
  obtain ⟨g1,g2,g3,g4,g5,g6,g7,_⟩:=g
  have g1:M2 c.Old:=g1
  have g2:M2 c.OldLen:=g2
  have g3:M2 c.New:=g3
  have g4:M2 c.NewLen:=g4
  have g6:c.Old - i=c.New - j:=g6
  have g7:i≤c.Old:=g7
  simp only [K9,J18,decide_eq_true_eq] at hs
  unfold K0 at hp
  unfold M2 at g1 g2 g3 g4
  have hm:=hok.2.2.2.2.2.2.end_le
  rcases List.mem_append.1 hp with hp | hp
  ·obtain ⟨t,ht,rfl⟩:=D06 hp
   exact ⟨by dsimp only;omega,by dsimp only;omega,F51 he.1 hi hj (by omega) (by omega) (by omega)⟩
  ·rw [show max i c.Old+c.OldLen=c.Old+c.OldLen by omega,show j+((c.Old - i).toNat:Int)+c.NewLen=c.New+c.NewLen by omega] at hp
   exact D95 r (k0+1) _ _ hs.2 he.2 (by omega) (by omega) p hp
theorem ScFit.pairs {x y:List Str} {l:List Change} (h:ScFit x y l):∀p∈O9 l x.length,EqAt x y p:=D95 l 0 0 0 h.sc h.eq (Int.le_refl _) (Int.le_refl _)
def C75 (c:Change):Change:=⟨c.Old+1,c.OldLen,c.New+1,c.NewLen⟩
def A81 (l:List Change) (k:Nat):List Change:=l.set k (C75 (cAt l k))
def atI (t:List Int) (i:Int):Int:=t.getD i.toNat 0
def H57 (l:List Change) (k:Nat) (t:List Int) (f n:Int):Prop:=(f+n < t.length∧atI t f=atI t (f+n))∧(k+1=l.length∨(cAt l k).Old+(cAt l k).OldLen+1 < (cAt l (k+1)).Old)
instance (l:List Change) (k:Nat) (t:List Int) (f n:Int):Decidable (H57 l k t f n):=by unfold H57;exact inferInstance
def D32 (l:List Change) (a b:List Int) (k:Nat):Bool :=
 if (cAt l k).NewLen=0 then decide (H57 l k a (cAt l k).Old (cAt l k).OldLen) else if (cAt l k).OldLen=0 then decide (H57 l k b (cAt l k).New (cAt l k).NewLen) else false
theorem l0 (l:List Change) (k:Nat):(A81 l k).length=l.length:=by simp [A81]
theorem B54 (l:List Change) {k:Nat} (hk:k < l.length) (q:Nat):cAt (A81 l k) q=if q=k then C75 (cAt l k) else cAt l q:=by
 unfold A81
 by_cases h:q=k
 ·subst h
  have:∀z,cAt (l.set q z) q=z:=fun z=>by unfold cAt;simp [hk]
  rw [if_pos rfl,this]
 ·rw [if_neg h];unfold cAt
  simp only [J17]
  rw [List.getElem?_set_ne (Ne.symm h)]
theorem C39 (l:List Change) {k:Nat} (hk:k < l.length) (q:Nat):eoI 0 (A81 l k) q=eoI 0 l q+(if q=k+1 then 1 else 0):=by
 cases q with
 | zero=>simp [eoI]
 | succ q =>
  rw [B30,B30,B54 l hk]
  by_cases h:q=k
  ·subst h;rw [if_pos rfl,if_pos rfl];simp only [B00,C75];omega
  ·rw [if_neg h,if_neg (by omega)];omega
theorem C40 (l:List Change) {k:Nat} (hk:k < l.length) (q:Nat):enI 0 (A81 l k) q=enI 0 l q+(if q=k+1 then 1 else 0):=by
 cases q with
 | zero=>simp [enI]
 | succ q =>
  rw [B31,B31,B54 l hk]
  by_cases h:q=k
  ·subst h;rw [if_pos rfl,if_pos rfl];simp only [F46,C75];omega
  ·rw [if_neg h,if_neg (by omega)];omega
structure IdsOf (x:List Str) (a:List Int):Prop where
 len:a.length=x.length
 inj:∀(i j:Nat) (u v:Str) (z:Int),x[i]?=some u→x[j]?=some v→a[i]?=some z→a[j]?=some z→u=v
theorem ScFit.down {x y:List Str} {l:List Change} {a b:List Int} (h:ScFit x y l) (ha:IdsOf x a) (hb:IdsOf y b) {k:Nat} (hk:k < l.length) (hd:D32 l a b k=true):ScFit x y (A81 l k):=by
 have hlx:=h.lx
 have hly:=h.ly
 have hg:=A06 _ _ _ 0 0 0 h.sc
 have hge:=H06 _ _ _ 0 0 0 h.sc
 have hq:=F47 _ _ _ _ _ h.eq
 have hqe:=H07 _ _ _ _ _ h.eq
 have hok:=h.ok
 obtain ⟨c,hc⟩:∃c,c=cAt l k:=⟨_,rfl⟩
 obtain ⟨g1,g2,g3,g4,g5,g6,g7,g8⟩:=hg k hk
 have hb4:=hok.get k hk
 rw [←hc] at g1 g2 g3 g4 g5 g6 g7 g8 hb4
 unfold M2 at g1 g2 g3 g4
 have eo1:eoI 0 l (k+1)=c.Old+c.OldLen:=by rw [B30,←hc];rfl
 have en1:enI 0 l (k+1)=c.New+c.NewLen:=by rw [B31,←hc];rfl
 obtain ⟨E,E',hE1,hE2,hE3,hE4,hE5,hEn⟩:∃E E':Int,sub x (c.Old+c.OldLen) E=sub y (c.New+c.NewLen) E'∧E - (c.Old+c.OldLen)=E' - (c.New+c.NewLen)∧E≤x.length∧E'≤y.length∧(c.Old+c.OldLen < E)∧(k+1 < l.length→E=(cAt l (k+1)).Old∧E'=(cAt l (k+1)).New∧c.Old+c.OldLen+1 < E):=by
  by_cases hl:k+1=l.length
  ·rw [←hl,eo1,en1] at hge hqe
   refine ⟨x.length,y.length,hqe,by omega,by omega,by omega,?_,fun q=>absurd hl (by omega)⟩
   unfold D32 at hd
   rw [←hc] at hd
   split at hd
   ·have:=(A0 hd).1.1;rw [ha.len] at this;omega
   ·split at hd
    ·have:=(A0 hd).1.1;rw [hb.len] at this;omega
    ·cases hd
  ·have hl:k+1 < l.length:=by omega
   obtain ⟨f1,f2,f3,f4,f5,f6,f7,f8⟩:=hg (k+1) hl
   have f9:=hq (k+1) hl
   have f10:=hok.get (k+1) hl
   rw [eo1,en1] at f6 f9
   rw [eo1] at f7
   unfold M2 at f2 f4
   have hroom:c.Old+c.OldLen+1 < (cAt l (k+1)).Old:=by
    unfold D32 at hd
    rw [←hc] at hd
    split at hd
    ·have:=(A0 hd).2;rw [←hc] at this;omega
    ·split at hd
     ·have:=(A0 hd).2;rw [←hc] at this;omega
     ·cases hd
   exact ⟨_,_,f9,by omega,by omega,by omega,by omega,fun _=>⟨rfl,rfl,hroom⟩⟩
 have hv:∃v,x[c.Old.toNat]?=some v∧y[c.New.toNat]?=some v:=by
  obtain ⟨v,v1,v2⟩:=F51 (t:=0) hE1 (by omega) (by omega) (by omega) hE2 (by omega)
  simp only [Int.natCast_zero,Int.add_zero] at v1 v2
  unfold D32 at hd
  rw [←hc] at hd
  split at hd
  ·rename_i hn
   have:=(A0 hd).1.2
   rw [hn,Int.add_zero] at v2
   refine ⟨v,?_,v2⟩
   have l1:c.Old.toNat < a.length:=by rw [ha.len];omega
   have l2:(c.Old+c.OldLen).toNat < a.length:=by rw [ha.len];omega
   have hx:x[c.Old.toNat]?=some x[c.Old.toNat]:=J14 (by omega)
   have ea:a[c.Old.toNat]?=some (atI a c.Old):=by unfold atI;rw [J17,J14 l1];rfl
   have eb:a[(c.Old+c.OldLen).toNat]?=some (atI a (c.Old+c.OldLen)):=by unfold atI;rw [J17,J14 l2];rfl
   rw [←this] at eb
   have:=ha.inj _ _ _ _ _ hx v1 ea eb
   rw [hx,this]
  ·split at hd
   ·rename_i _ hn
    have:=(A0 hd).1.2
    rw [hn,Int.add_zero] at v1
    refine ⟨v,v1,?_⟩
    have l1:c.New.toNat < b.length:=by rw [hb.len];omega
    have l2:(c.New+c.NewLen).toNat < b.length:=by rw [hb.len];omega
    have hx:y[c.New.toNat]?=some y[c.New.toNat]:=J14 (by omega)
    have ea:b[c.New.toNat]?=some (atI b c.New):=by unfold atI;rw [J17,J14 l1];rfl
    have eb:b[(c.New+c.NewLen).toNat]?=some (atI b (c.New+c.NewLen)):=by unfold atI;rw [J17,J14 l2];rfl
    rw [←this] at eb
    have:=hb.inj _ _ _ _ _ hx v2 ea eb
    rw [hx,this]
   ·cases hd
 obtain ⟨v,v1,v2⟩:=hv
 have hen0:0≤eoI 0 l k∧0≤enI 0 l k:=by
  cases k with
  | zero=>simp [eoI,enI]
  | succ k =>
   obtain ⟨f1,f2,f3,f4,_⟩:=hg k (by omega)
   unfold M2 at f1 f2 f3 f4
   rw [B30,B31];unfold B00 F46;omega
 have htail:sub x (c.Old+c.OldLen+1) E=sub y (c.New+c.NewLen+1) E':=by
  have:=D83 (e:=E - (c.Old+c.OldLen) - 1) hE1 (by omega) (by omega) (by omega) (by omega) hE2
  rw [show E - (E - (c.Old+c.OldLen) - 1)=c.Old+c.OldLen+1 by omega,show E' - (E - (c.Old+c.OldLen) - 1)=c.New+c.NewLen+1 by omega] at this
  exact this
 refine ⟨hlx,hly,H54 _ _ _ 0 0 0 (fun q hql=>?_) ?_,H55 _ _ _ 0 0 (fun q hql=>?_) ?_⟩
 ·rw [l0] at hql
  rw [B54 l hk,C39 l hk,C40 l hk]
  by_cases e:q=k
  ·rw [if_pos e,if_neg (show ¬q=k+1 by omega),e,←hc]
   unfold M2
   simp only [C75]
   refine ⟨by omega,g2,by omega,g4,g5,by omega,by omega,fun _=>by omega⟩
  ·rw [if_neg e]
   obtain ⟨f1,f2,f3,f4,f5,f6,f7,f8⟩:=hg q hql
   refine ⟨f1,f2,f3,f4,f5,?_,?_,?_⟩
   ·by_cases e2:q=k+1
    ·rw [if_pos e2];omega
    ·rw [if_neg e2];omega
   ·by_cases e2:q=k+1
    ·rw [if_pos e2];have:=f8 (by omega);omega
    ·rw [if_neg e2];omega
   ·intro h0
    by_cases e2:q=k+1
    ·rw [if_pos e2,e2,eo1]
     have:=(hEn (by omega))
     omega
    ·rw [if_neg e2];have:=f8 h0;omega
 ·rw [l0,C39 l hk,C40 l hk]
  by_cases e2:l.length=k+1
  ·rw [if_pos e2,e2,eo1,en1]
   rw [e2,eo1,en1] at hge
   have h1:E≤x.length:=hE3
   omega
  ·rw [if_neg e2];omega
 ·rw [l0] at hql
  rw [B54 l hk,C39 l hk,C40 l hk]
  by_cases e:q=k
  ·rw [if_pos e,if_neg (show ¬q=k+1 by omega),e,←hc]
   simp only [C75,Int.add_zero]
   have:=hq k hk
   rw [←hc] at this
   rw [G31 hen0.1 g7 v1,G31 hen0.2 (by omega) v2,this]
  ·rw [if_neg e]
   by_cases e2:q=k+1
   ·rw [if_pos e2]
    subst e2
    obtain ⟨q1,q2,_⟩:=hEn hql
    rw [eo1,en1,←q1,←q2];exact htail
   ·rw [if_neg e2,Int.add_zero,Int.add_zero]
    exact hq q hql
 ·rw [l0,C39 l hk,C40 l hk]
  by_cases e2:l.length=k+1
  ·rw [if_pos e2]
   rw [e2,eo1,en1] at hqe hge ⊢
   have:=D83 (e:=x.length - (c.Old+c.OldLen) - 1) hqe (by omega) (by omega) (by omega) (by omega) (by omega)
   rw [show (x.length:Int) - (x.length - (c.Old+c.OldLen) - 1)=c.Old+c.OldLen+1 by omega,show (y.length:Int) - (x.length - (c.Old+c.OldLen) - 1)=c.New+c.NewLen+1 by omega] at this
   exact this
  ·rw [if_neg e2,Int.add_zero,Int.add_zero];exact hqe
section
variable {x y:List Str} {a b:List Int} (ha:IdsOf x a) (hb:IdsOf y b)
include ha hb
omit ha hb in
omit ha hb in
end
end Go.AL
namespace Go.AL
open Go
structure Made12 (on nn a b:Str) (l:List Change) (ctx:Int):Prop where
 chk:C33 ⟨on,nn,Z3 l (B8 a) (B8 b) ctx⟩=0
 wr:(H49 ⟨on,nn,Z3 l (B8 a) (B8 b) ctx⟩).length≤16777216
 fit:PFit ⟨on,nn,Z3 l (B8 a) (B8 b) ctx⟩
 rg:∀h∈Z3 l (B8 a) (B8 b) ctx,(-4611686018427387904≤h.Old∧h.Old≤4611686018427387904)∧(-4611686018427387904≤h.New∧h.New≤4611686018427387904)
 sz:szP (Z3 l (B8 a) (B8 b) ctx)≤268435456
end Go.AL
namespace Go.AL
open Go
section
variable {x y:List Str} {l:List Change}
end
end Go.AL
namespace Go.AL
open Go
theorem A82:∀(y:List Str),(∀s∈y,K3 s=true)→R7 y=true→B21 y=true
 | [],_,_=>rfl
 | s::r,h,he=>by
  simp only [R7,J18] at he
  simp only [B21,J18]
  exact ⟨⟨h s (List.mem_cons_self ..),he.1⟩,A82 r (fun t ht=>h t (List.mem_cons_of_mem _ ht)) he.2⟩
end Go.AL
namespace Go.AL
open Go
end Go.AL
namespace Go.AL
open Go
theorem check12_good {p:Patch} (h:C33 p=0):C70 p.Hunks=true:=by
 unfold C33 at h
 split at h
 ·cases h
 ·split at h
  ·cases h
  ·rename_i h1;simpa using h1
end Go.AL
namespace Go.AL
open Go
structure CHunk where
 At:List Int
 Rows:List Row
 deriving DecidableEq
structure Comb where
 Path:Str
 Dense:Bool
 Parents:Int
 Hunks:List CHunk
 deriving DecidableEq
def Q8:CHunk→Nat→Cell:=fun h j=>match j with
 | 0=>.list Int 1 G3 h.At
 | _=>.list Row 3 rowC h.Rows
abbrev F52 (h:CHunk):PV:=.agg [.list Int 1 G3 h.At,.list Row 3 rowC h.Rows]
abbrev U6 (c:Comb):PV:=.agg [.v (.string ⟨c.Path.toArray⟩),.v (.bool c.Dense),.v (.int .i64 c.Parents),.list CHunk 2 Q8 c.Hunks]
def comb0:Comb:=⟨[],false,0,[]⟩
def x1 (n k:Nat):Int:=if k=n then -1 else k
def N7 (rows:List Row) (n k:Nat):Int:=(M8 rows (x1 n k)).length
def F7 (rows:List Row) (n:Nat):List Int:=(List.range (n+1)).map (N7 rows n)
def atS (n:Nat):Str:=List.replicate n 64
def sgnB (n k:Nat):UInt8:=if k=n then 43 else 45
def D96 (n:Nat) (h:CHunk) (k:Nat):Str:=[32,sgnB n k]++U9 (h.At.getD k 0) (N7 h.Rows n k)
def Z9 (n:Nat) (h:CHunk) (k:Nat):Str:=((List.range k).map (D96 n h)).flatten
def B36 (n:Nat) (h:CHunk):Str:=atS (n+1)++Z9 n h (n+1)++[32]++atS (n+1)
def E89 (r:Row) (p:Nat):UInt8:=if V5 r.Marks p=false then 32 else if r.Lost then 45 else 43
def A36 (n:Nat) (r:Row):Str:=(List.range n).map (E89 r)
def A48 (n:Nat) (r:Row):List Str:=if ended r.Text=true then [A36 n r++r.Text] else [A36 n r++r.Text,markS]
def l5 (n:Nat) (h:CHunk):List Str:=(B36 n h++[10])::(h.Rows.map (A48 n)).flatten
def ccS:Str:=[100,105,102,102,32,45,45,99,99,32]
def combS:Str:=[100,105,102,102,32,45,45,99,111,109,98,105,110,101,100,32]
def parS:Str:=[112,97,114,101,110,116,115,32]
def G39 (d:Bool):Str:=if d=true then ccS else combS
def combPs (c:Comb):List Str:=(G39 c.Dense++j8 c.Path++[10])::(parS++A96 c.Parents++[10])::(c.Hunks.map (l5 c.Parents.toNat)).flatten
def A37 (c:Comb):Str:=(combPs c).flatten
def B96 (n:Nat) (ends:List Int) (h:CHunk):Bool:=decide (h.At.length=n+1∧h.Rows≠[])&&(List.range (n+1)).all fun k=>decide ((ends.getD k 0≤h.At.getD k 0∧h.At.getD k 0≤4096)∧h.At.getD k 0+N7 h.Rows n k≤4096)
def T9 (n:Nat) (h:CHunk):List Int:=(List.range (n+1)).map fun k=>h.At.getD k 0+N7 h.Rows n k
def Y5 (n:Nat) (ends:List Int):List CHunk→Bool
 | []=>true
 | h::r=>B96 n ends h&&Y5 n (T9 n h) r
def l6 (hs:List CHunk):List Row:=(hs.map (·.Rows)).flatten
def V7 (n:Nat) (hs:List CHunk):Bool:=Y5 n (List.replicate (n+1) 0) hs&&j7 (l6 hs) n
def q9 (n:Nat) (hs:List CHunk):Bool:=hs.all fun h=>P6 h.Rows n
def L5 (c:Comb):Int:=if R6 c.Path=false then 120 else if c.Parents < 1∨32 < c.Parents then 2 else if q9 c.Parents.toNat c.Hunks=false then 180 else if V7 c.Parents.toNat c.Hunks=false then 121 else if 16777216 < (A37 c).length then 1 else 0
theorem A83 {n:Nat} {r:Row} (h:T6 n r=true):0≤r.Marks∧r.Marks < 2 ^ n∧(r.Lost=true→r.Marks≠0):=by
 unfold T6 at h
 simp only [J18,beq_iff_eq,Bool.not_eq_true',Bool.and_eq_false_iff,beq_eq_false_iff_ne] at h
 obtain ⟨h1,h2⟩:=h
 have hp:(0:Int) < 2 ^ n:=Int.pow_pos (by decide)
 have h3:=Int.emod_add_mul_ediv r.Marks (2 ^ n)
 have h4:=Int.emod_nonneg r.Marks (Int.ne_of_gt hp)
 have h5:=Int.emod_lt_of_pos r.Marks hp
 rw [h1,Int.mul_zero,Int.add_zero] at h3
 rw [h3] at h4 h5
 refine ⟨h4,h5,fun hl=>?_⟩
 rcases h2 with h2 | h2
 ·rw [hl] at h2;cases h2
 ·exact h2
theorem pow32 {n:Nat} (h:n≤32):(2:Int) ^ n≤4294967296:=by
 have h1:(2:Nat) ^ n≤2 ^ 32:=Nat.pow_le_pow_right (by omega) h
 have h2:((2 ^ n:Nat):Int)=2 ^ n:=by simp
 have h3:(2:Nat) ^ 32=4294967296:=rfl
 omega
theorem I60 {n:Nat} (hn:n≤32) {rows:List Row} (h:P6 rows n=true):L3 rows:=by
 intro r hr
 have h1:=A83 (List.all_eq_true.1 h r hr)
 have:=pow32 hn
 omega
def X4 (n:Nat) (ends:List Int) (h:CHunk):Bool:=decide (h.At.length=n+1∧h.Rows≠[])&&(List.range (n+1)).all fun k=>decide (ends.getD k 0≤h.At.getD k 0∧h.At.getD k 0≤4096)
def l7 (res:Bool) (rows:List Row):Bool:=rows.foldl B27 res
def l8 (par:Int) (rows:List Row):Int:=rows.foldl B28 par
def l9 (n:Nat) (ends:List Int) (res:Bool) (par:Int):List CHunk→Bool
 | []=>decide (∀e∈ends,e≤4096)
 | h::r=>X4 n ends h&&(Q6 res par h.Rows&&l9 n (T9 n h) (l7 res h.Rows) (l8 par h.Rows) r)
theorem D97:∀(a b:List Row) (res:Bool) (par:Int),Q6 res par (a++b)=(Q6 res par a&&Q6 (l7 res a) (l8 par a) b)
 | [],b,res,par=>by simp [Q6,l7,l8]
 | x::a,b,res,par=>by
  rw [J57,Q6,Q6,D97 a b]
  simp only [l7,l8,J41,Bool.and_assoc]
theorem A08 (f:Nat→Int) (n k:Nat) (h:k < n):((List.range n).map f).getD k 0=f k:=by
 rw [J17,J40,J48 h];rfl
theorem D98 {n:Nat} {ends:List Int} (hl:ends.length=n+1):(∀e∈ends,e≤4096)↔∀k,k < n+1→ends.getD k 0≤4096:=by
 constructor
 ·intro h k hk
  rw [J17,J14 (by omega)]
  exact h _ (J26 _)
 ·intro h e he
  obtain ⟨k,hk,rfl⟩:=List.getElem_of_mem he
  have:=h k (by omega)
  rwa [J17,J14 hk] at this
theorem B97 (n:Nat) (h:CHunk):(T9 n h).length=n+1:=by unfold T9;simp
theorem D07 (n:Nat):∀(hs:List CHunk) (ends:List Int) (res:Bool) (par:Int),ends.length=n+1 →
  l9 n ends res par hs=(decide (∀e∈ends,e≤4096)&&Y5 n ends hs&&Q6 res par (l6 hs))
 | [],ends,res,par,_=>by simp [l9,Y5,l6,Q6]
 | h::r,ends,res,par,hl=>by
  have ih:=D07 n r (T9 n h) (l7 res h.Rows) (l8 par h.Rows) (B97 n h)
  have e1:l6 (h::r)=h.Rows++l6 r:=by simp [l6]
  rw [l9,ih,Y5,e1,D97]
  have e2:(X4 n ends h&&decide (∀e∈T9 n h,e≤4096))=(decide (∀e∈ends,e≤4096)&&B96 n ends h):=by
   rw [Bool.eq_iff_iff]
   unfold X4 B96
   simp only [J18,decide_eq_true_eq,List.all_eq_true,List.mem_range]
   rw [D98 hl,D98 (B97 n h)]
   have e3:∀k,k < n+1→(T9 n h).getD k 0=h.At.getD k 0+N7 h.Rows n k:=fun k hk=>A08 _ _ _ hk
   constructor
   ·rintro ⟨⟨h1,h2⟩,h3⟩
    exact ⟨fun k hk=>by have:=h2 k hk;omega,h1,fun k hk=>⟨h2 k hk,by have:=h3 k hk;rwa [e3 k hk] at this⟩⟩
   ·rintro ⟨_,h2,h3⟩
    exact ⟨⟨h2,fun k hk=>(h3 k hk).1⟩,fun k hk=>by rw [e3 k hk];exact (h3 k hk).2⟩
  generalize X4 n ends h=A at e2 ⊢
  generalize decide (∀e∈T9 n h,e≤4096)=B at e2 ⊢
  generalize decide (∀e∈ends,e≤4096)=C at e2 ⊢
  generalize B96 n ends h=D at e2 ⊢
  generalize Q6 res par h.Rows=E
  generalize Y5 n (T9 n h) r=F
  generalize Q6 (l7 res h.Rows) (l8 par h.Rows) (l6 r)=G
  cases A<;>cases B<;>cases C<;>cases D<;>first | (cases e2;done) | (cases E<;>cases F<;>cases G<;>rfl)
theorem E90 {n:Nat} {hs:List CHunk} (h:q9 n hs=true):P6 (l6 hs) n=true:=by
 unfold P6 l6
 rw [List.all_eq_true]
 intro r hr
 obtain ⟨l,h1,h2⟩:=List.mem_flatten.1 hr
 obtain ⟨x,hx,rfl⟩:=List.mem_map.1 h1
 exact List.all_eq_true.1 (List.all_eq_true.1 h x hx) r h2
theorem G40 {n:Nat} (hn:n≤32) {hs:List CHunk} (h:q9 n hs=true):l9 n (List.replicate (n+1) 0) false 0 hs=V7 n hs:=by
 rw [D07 n hs _ _ _ (List.length_replicate ..),D80 _ n hn (E90 h) (I60 hn (E90 h))]
 have:∀L:List Int,(∀e∈L,e≤4096)→decide (∀e∈L,e≤4096)=true:=fun L h=>decide_eq_true h
 rw [this _ (fun e he=>by have:=(List.mem_replicate.1 he).2;omega)];rfl
theorem C76 {n:Nat}:∀(hs:List CHunk) (ends:List Int),(∀k,k < n+1→0≤ends.getD k 0)→Y5 n ends hs=true→∀h∈hs,h.At.length=n+1∧h.Rows≠[]∧∀k,k < n+1→0≤h.At.getD k 0∧h.At.getD k 0+N7 h.Rows n k≤4096
 | [],_,_,_,h,hm=>by cases hm
 | x::r,ends,he,hg,h,hm=>by
  rw [Y5,J18] at hg
  obtain ⟨h1,h2⟩:=hg
  unfold B96 at h1
  simp only [J18,decide_eq_true_eq,List.all_eq_true,List.mem_range] at h1
  obtain ⟨⟨h3,h4⟩,h5⟩:=h1
  have hx:∀k,k < n+1→0≤x.At.getD k 0∧x.At.getD k 0+N7 x.Rows n k≤4096:=fun k hk=>by have:=h5 k hk;have:=he k hk;omega
  rcases List.mem_cons.1 hm with rfl | hm
  ·exact ⟨h3,h4,hx⟩
  ·refine C76 r _ (fun k hk=>?_) h2 h hm
   rw [show (T9 n x).getD k 0=x.At.getD k 0+N7 x.Rows n k from A08 _ _ _ hk]
   have:=hx k hk
   have:0≤N7 x.Rows n k:=by unfold N7;omega
   omega
structure CRead (n:Nat) (h:CHunk):Prop where
 len:h.At.length=n+1
 ne:h.Rows≠[]
 at0:∀k,k < n+1→0≤h.At.getD k 0∧h.At.getD k 0+N7 h.Rows n k≤4096
 rows:∀r∈h.Rows,T6 n r=true∧K3 r.Text=true
theorem H12 {c:Comb} (h:L5 c=0):(1≤c.Parents.toNat∧c.Parents.toNat≤32)∧c.Parents=(c.Parents.toNat:Int)∧(∀x∈c.Hunks,CRead c.Parents.toNat x)∧(A37 c).length≤16777216∧R6 c.Path=true:=by
 unfold L5 at h
 split at h
 ·cases h
 ·rename_i h0
  split at h
  ·cases h
  ·rename_i h1
   split at h
   ·cases h
   ·rename_i h2
    split at h
    ·cases h
    ·rename_i h3
     split at h
     ·cases h
     ·rename_i h4
      refine ⟨by omega,by omega,?_,by omega,by simpa using h0⟩
      intro x hx
      have h2:q9 c.Parents.toNat c.Hunks=true:=by simpa using h2
      have h3:V7 c.Parents.toNat c.Hunks=true:=by simpa using h3
      unfold V7 at h3
      rw [J18] at h3
      obtain ⟨a1,a2,a3⟩:=C76 c.Hunks _ (fun k hk=>by rw [J17,List.getElem?_replicate_of_lt hk];exact Int.le_refl _) h3.1 x hx
      refine ⟨a1,a2,a3,fun r hr=>⟨List.all_eq_true.1 (List.all_eq_true.1 h2 x hx) r hr,?_⟩⟩
      have h5:=h3.2
      unfold j7 at h5
      rw [J18] at h5
      exact List.all_eq_true.1 h5.1 r (List.mem_flatten.2 ⟨x.Rows,List.mem_map.2 ⟨x,hx,rfl⟩,hr⟩)
theorem B55 (n:Nat) (r:Row):(A36 n r).length=n:=by simp [A36]
theorem F53 (n:Nat):(atS n).length=n:=by simp [atS]
end Go.AL
namespace Go.AL
open Go
end Go.AL
namespace Go.AL
open Go
def W5 (r:Row):Nat:=r.Text.length+96
def D99 (h:CHunk):Nat:=2048+h.At.length+(h.Rows.map W5).sum
def szC (hs:List CHunk):Nat:=(hs.map D99).sum
theorem r5 (rows:List Row):rows.length*96≤(rows.map W5).sum:=by
 induction rows with
 | nil=>simp
 | cons x r ih=>simp only [J24,J47,J16,W5] at ih ⊢;omega
theorem B98 (rows:List Row):V6 rows≤(rows.map W5).sum:=by
 unfold V6
 induction rows with
 | nil=>simp
 | cons x r ih=>simp only [J24,J33,J15,J47,W5] at ih ⊢;omega
theorem E91 {rows:List Row} {r:Row} (h:r∈rows):W5 r≤(rows.map W5).sum:=by
 induction rows with
 | nil=>cases h
 | cons x l ih =>
  simp only [J24,J47]
  rcases List.mem_cons.1 h with rfl | h
  ·omega
  ·have:=ih h;omega
theorem C41 {hs:List CHunk} {h:CHunk} (hm:h∈hs):D99 h≤szC hs:=by
 unfold szC
 induction hs with
 | nil=>cases hm
 | cons x l ih =>
  simp only [J24,J47]
  rcases List.mem_cons.1 hm with rfl | hm
  ·omega
  ·have:=ih hm;omega
theorem C42 (hs:List CHunk):hs.length*2048≤szC hs:=by
 unfold szC
 induction hs with
 | nil=>simp
 | cons x l ih =>
  have h2:2048≤D99 x:=by unfold D99;exact Nat.le_trans (Nat.le_add_right _ _) (Nat.le_add_right _ _)
  rw [J24,J47,J16,J37,Nat.one_mul,Nat.add_comm]
  exact Nat.add_le_add h2 ih
theorem H13 (rows:List Row) (k:Nat):((rows.take k).map W5).sum≤(rows.map W5).sum:=by
 conv=>rhs;rw [←J50 k rows,J28,J66]
 omega
theorem I61 (hs:List CHunk) (k:Nat):szC (hs.take k)≤szC hs:=by
 unfold szC
 conv=>rhs;rw [←J50 k hs,J28,J66]
 omega
theorem getI {l:List Int} {i:Nat} (h:i < l.length):l[i]?=some (l.getD i 0):=by simp [h]
theorem E00 (rows:List Row) (n k:Nat):0≤N7 rows n k∧N7 rows n k≤rows.length:=by
 have:=C65 rows (x1 n k)
 unfold N7;omega
theorem I62 (rows:List Row) (n k i:Nat) (h:i < rows.length):N7 (rows.take (i+1)) n k=N7 (rows.take i) n k+if b9 rows[i] (x1 n k)=true then 1 else 0:=by
 unfold N7 M8
 rw [J22 h,J64,J28,J15]
 by_cases hv:b9 rows[i] (x1 n k)=true<;>simp [hv]
def m9 (rows:List Row) (n i p:Nat):List Int:=(List.range (n+1)).map fun k=>N7 (rows.take (if k < p then i+1 else i)) n k
theorem I14 (rows:List Row) (n i p:Nat):(m9 rows n i p).length=n+1:=by unfold m9;simp
theorem H14 (rows:List Row) (n:Nat):m9 rows n 0 0=List.replicate (n+1) 0:=by
 unfold m9
 refine List.ext_getElem (by simp) fun k h1 h2=>?_
 simp [N7,M8]
theorem I15 (rows:List Row) (n i p:Nat) (hp:p≤n):(m9 rows n i p)[p]?=some (N7 (rows.take i) n p):=by
 unfold m9
 rw [J40,J48 (by omega)];simp
theorem E01 (f:Nat→Int) (n p:Nat) (v:Int):((List.range n).map f).set p v=(List.range n).map (fun k=>if k=p then v else f k):=by
 refine List.ext_getElem (by simp) fun k h1 h2=>?_
 rw [List.getElem_set,List.getElem_map,List.getElem_map,List.getElem_range]
 by_cases e:p=k
 ·rw [if_pos e,if_pos e.symm]
 ·rw [if_neg e,if_neg (fun h=>e h.symm)]
theorem H15 (rows:List Row) (n i p:Nat) (hi:i < rows.length) (hp:p≤n):m9 rows n i (p+1)=if b9 rows[i] (x1 n p)=true then (m9 rows n i p).set p (N7 (rows.take i) n p+1) else m9 rows n i p:=by
 have hs:=I62 rows n p i hi
 by_cases hv:b9 rows[i] (x1 n p)=true
 ·rw [if_pos hv] at hs ⊢
  unfold m9
  rw [E01]
  refine List.map_congr_left fun k hk=>?_
  by_cases e:k=p
  ·subst e;rw [if_pos rfl,if_pos (by omega),hs]
  ·rw [if_neg e]
   by_cases h3:k < p
   ·rw [if_pos (by omega),if_pos h3]
   ·rw [if_neg (by omega),if_neg h3]
 ·rw [if_neg hv] at hs ⊢
  unfold m9
  refine List.map_congr_left fun k hk=>?_
  by_cases e:k=p
  ·subst e;rw [if_pos (by omega),if_neg (by omega),hs];omega
  ·by_cases h3:k < p
   ·rw [if_pos (by omega),if_pos h3]
   ·rw [if_neg (by omega),if_neg h3]
theorem H16 (rows:List Row) (n i:Nat):m9 rows n i (n+1)=m9 rows n (i+1) 0:=by
 unfold m9
 refine List.map_congr_left fun k hk=>?_
 rw [if_pos (List.mem_range.1 hk),if_neg (by omega)]
theorem H17 (rows:List Row) (n:Nat):m9 rows n rows.length 0=F7 rows n:=by
 unfold m9 F7
 refine List.map_congr_left fun k hk=>?_
 rw [if_neg (by omega),J32]
theorem E02 (rows:List Row) (n:Nat):(F7 rows n).length=n+1:=by unfold F7;simp
theorem H18 (rows:List Row) (n k:Nat) (h:k < n+1):(F7 rows n)[k]?=some (N7 rows n k):=by
 unfold F7
 rw [J40,J48 h];rfl
def x2 (n:Nat) (h:CHunk) (k:Nat):List Int:=(List.range (n+1)).map fun j=>if j < k then h.At.getD j 0+N7 h.Rows n j else N7 h.Rows n j
theorem H19 (n:Nat) (h:CHunk) (k:Nat):(x2 n h k).length=n+1:=by unfold x2;simp
theorem G41 (n:Nat) (h:CHunk):x2 n h 0=F7 h.Rows n:=by
 unfold x2 F7
 refine List.map_congr_left fun k hk=>?_
 rw [if_neg (by omega)]
theorem H20 (n:Nat) (h:CHunk) (k:Nat) (hk:k < n+1):(x2 n h k)[k]?=some (N7 h.Rows n k):=by
 unfold x2
 rw [J40,J48 hk];simp
theorem H21 (n:Nat) (h:CHunk) (k:Nat):(x2 n h k).set k (N7 h.Rows n k+h.At.getD k 0)=x2 n h (k+1):=by
 unfold x2
 rw [E01]
 refine List.map_congr_left fun j hj=>?_
 by_cases e:j=k
 ·subst e;rw [if_pos rfl,if_pos (by omega)];omega
 ·rw [if_neg e]
  by_cases h3:j < k
  ·rw [if_pos h3,if_pos (by omega)]
  ·rw [if_neg h3,if_neg (by omega)]
theorem G42 (n:Nat) (h:CHunk):x2 n h (n+1)=T9 n h:=by
 unfold x2 T9
 refine List.map_congr_left fun k hk=>?_
 rw [if_pos (List.mem_range.1 hk)]
theorem D08 (n:Nat) (ends:List Int) (h:CHunk):X4 n ends h=true↔(h.At.length=n+1∧h.Rows≠[])∧∀k,k < n+1→ends.getD k 0≤h.At.getD k 0∧h.At.getD k 0≤4096:=by
 unfold X4
 simp only [J18,decide_eq_true_eq,List.all_eq_true,List.mem_range]
theorem I16 (n:Nat) (h:CHunk) (k:Nat):(D96 n h k).length≤26:=by
 have:=B29 (h.At.getD k 0) (N7 h.Rows n k)
 unfold D96;simp only [J15,J16,J19];omega
theorem B37 (n:Nat) (h:CHunk) (k:Nat):Z9 n h (k+1)=Z9 n h k++D96 n h k:=by
 unfold Z9
 rw [J52,J28,J42];simp
theorem A84 (n:Nat) (h:CHunk):∀k,(Z9 n h k).length≤26*k
 | 0=>by simp [Z9]
 | k+1=>by
  have:=A84 n h k
  have:=I16 n h k
  rw [B37,J15];omega
theorem C77 {n:Nat} (hn:n≤32) (h:CHunk):(B36 n h).length≤925:=by
 have:=A84 n h (n+1)
 unfold B36
 simp only [J15,F53,J16,J19];omega
theorem E92 {n:Nat} (hn:n≤32) (r:Row):(A48 n r).flatten.length≤W5 r:=by
 have hm:markS.length=29:=rfl
 unfold A48 W5
 split<;>simp only [J33,J63,J15,B55,J19]<;>omega
theorem E03 {n:Nat} (hn:n≤32) (rs:List Row):((rs.map (A48 n)).flatten).flatten.length≤(rs.map W5).sum:=by
 induction rs with
 | nil=>simp
 | cons x r ih =>
  have:=E92 hn x
  simp only [J24,J33,J42,J15,J47];omega
theorem G43 {n:Nat} (hn:n≤32) (h:CHunk):(l5 n h).flatten.length≤D99 h:=by
 have h1:=C77 hn h
 have h2:=E03 hn h.Rows
 unfold l5 D99
 simp only [J33,J15,J16,J19];omega
theorem F54 {n:Nat} (hn:n≤32) (hs:List CHunk):((hs.map (l5 n)).flatten).flatten.length≤szC hs:=by
 unfold szC
 induction hs with
 | nil=>simp
 | cons x r ih =>
  have:=G43 hn x
  simp only [J24,J33,J42,J15,J47];omega
def A85 (c:Comb):Str:=G39 c.Dense++j8 c.Path++[10]++(parS++A96 c.Parents++[10])
def cTo (c:Comb) (k:Nat):Str:=A85 c++(((c.Hunks.take k).map (l5 c.Parents.toNat)).flatten).flatten
theorem E04 (c:Comb):cTo c 0=A85 c:=by simp [cTo]
theorem G44 (c:Comb) (k:Nat) (h:k < c.Hunks.length):cTo c (k+1)=cTo c k++(l5 c.Parents.toNat c.Hunks[k]).flatten:=by
 unfold cTo
 rw [J22 h];simp only [J28,J24,J51,J42,J33,J63,J35,J25]
theorem E05 (c:Comb):cTo c c.Hunks.length=A37 c:=by
 unfold cTo A85 A37 combPs
 rw [J32];simp
def rTo (n:Nat) (rs:List Row) (k:Nat):Str:=(((rs.take k).map (A48 n)).flatten).flatten
theorem G45 (n:Nat) (rs:List Row):rTo n rs 0=[]:=by simp [rTo]
theorem G46 (n:Nat) (rs:List Row) (k:Nat) (h:k < rs.length):rTo n rs (k+1)=rTo n rs k++(A48 n rs[k]).flatten:=by
 unfold rTo
 rw [J22 h];simp only [J28,J24,J51,J42,J33,J63,J35,J25]
theorem H58 {n:Nat} (hn:n≤32) (rs:List Row) (k:Nat):(rTo n rs k).length≤(rs.map W5).sum:=by
 have:=E03 hn (rs.take k)
 have:=H13 rs k
 unfold rTo;omega
theorem E93 (n:Nat) (h:CHunk):(l5 n h).flatten=B36 n h++[10]++rTo n h.Rows h.Rows.length:=by
 unfold l5 rTo
 rw [J32];simp
theorem E06 (p:Str):(j8 p).length≤4*p.length+2:=G23 p
theorem H59 (n:Int):(A96 n).length≤10:=p9 n
theorem E07 (c:Comb):(A85 c).length≤4*c.Path.length+48:=by
 have h1:=E06 c.Path
 have h2:=H59 c.Parents
 have h3:(G39 c.Dense).length≤16:=by cases c.Dense<;>decide
 have h4:parS.length=8:=rfl
 unfold A85
 simp only [J15,J16,J19];omega
theorem H60 (c:Comb) (hn:c.Parents.toNat≤32) (k:Nat):(cTo c k).length≤4*c.Path.length+48+szC c.Hunks:=by
 have h1:=E07 c
 have h2:=F54 hn (c.Hunks.take k)
 have h3:=I61 c.Hunks k
 unfold cTo
 rw [J15];omega
theorem G47 (n:Nat) (r:Row):A36 (n+1) r=A36 n r++[E89 r n]:=by
 unfold A36
 rw [J52,J28];rfl
theorem E08 (n:Nat) (r:Row):(A48 n r).flatten=A36 n r++r.Text++(if ended r.Text=true then [] else markS):=by
 unfold A48
 split<;>simp
end Go.AL
namespace Go.AL
open Go
end Go.AL
namespace Go.AL
open Go
abbrev C43:Bool→Nat→Cell:=fun b _=>.v (.bool b)
def n4 (n:Nat) (rows:List Row):Int→List CHunk→List Span→Option (List CHunk)
 | _,hs,[]=>some hs
 | e,hs,s::r=>if s.From < e∨s.To≤s.From∨(rows.length:Int) < s.To then none else n4 n rows s.To (hs++[⟨F7 (rows.take s.From.toNat) n,(rows.drop s.From.toNat).take (s.To.toNat - s.From.toNat)⟩]) r
def Y6 (path:Str) (t:Table) (sp:List Span) (d:Bool):Comb × Int :=
 if R6 path=false then (comb0,120) else if J2 t≠0 then (comb0,J2 t) else match n4 t.Parents.toNat t.Rows 0 [] sp with
  | none=>(comb0,3)
  | some hs=>if L5 ⟨path,d,t.Parents,hs⟩≠0 then (comb0,L5 ⟨path,d,t.Parents,hs⟩) else (⟨path,d,t.Parents,hs⟩,0)
theorem F55 (f:Row→Nat) (c n:Nat) (rows:List Row):∀(sp:List Span) (e:Int) (hs hs':List CHunk),0≤e→n4 n rows e hs sp=some hs'→(hs.map fun h=>c+(h.Rows.map f).sum).sum≤c*hs.length+((rows.take e.toNat).map f).sum→hs.length≤e.toNat →
  (hs'.map fun h=>c+(h.Rows.map f).sum).sum≤c*hs'.length+(rows.map f).sum∧hs'.length≤max rows.length hs.length
 | [],e,hs,hs',he,h,hw,hl=>by
  cases h
  refine ⟨?_,by omega⟩
  have:((rows.take e.toNat).map f).sum≤(rows.map f).sum:=by
   conv=>rhs;rw [←J50 e.toNat rows,J28,J66]
   omega
  omega
 | s :: r,e,hs,hs',he,h,hw,hl=>by
  rw [n4] at h
  split at h
  ·cases h
  ·rename_i hc
   simp only [not_or,Int.not_lt,Int.not_le] at hc
   obtain ⟨c1,c2,c3⟩:=hc
   have ih:=F55 f c n rows r s.To _ hs' (by omega) h
   have hsum:((rows.take e.toNat).map f).sum+(((rows.drop s.From.toNat).take (s.To.toNat - s.From.toNat)).map f).sum≤((rows.take s.To.toNat).map f).sum:=by
    have e1:rows.take s.To.toNat=rows.take s.From.toNat++(rows.drop s.From.toNat).take (s.To.toNat - s.From.toNat):=by
     have:=List.take_add (l:=rows) (i:=s.From.toNat) (j:=s.To.toNat - s.From.toNat)
     rw [show s.From.toNat+(s.To.toNat - s.From.toNat)=s.To.toNat by omega] at this
     exact this
    have e2:rows.take s.From.toNat=rows.take e.toNat++(rows.drop e.toNat).take (s.From.toNat - e.toNat):=by
     have:=List.take_add (l:=rows) (i:=e.toNat) (j:=s.From.toNat - e.toNat)
     rw [show e.toNat+(s.From.toNat - e.toNat)=s.From.toNat by omega] at this
     exact this
    rw [e1,J28,J66]
    conv=>rhs;rw [e2,J28,J66]
    omega
   have hih:=ih (by
    rw [J28,J66,J15]
    simp only [J24,J51,J47,List.sum_nil,J16,J19,Nat.mul_add,Nat.mul_one,Nat.mul_zero]
    omega) (by rw [J15];simp;omega)
   refine ⟨hih.1,?_⟩
   have:=hih.2
   rw [J15] at this
   simp only [J16,J19] at this
   have h3:hs.length+1≤rows.length:=by omega
   omega
def CInvA (n:Nat) (hs:List CHunk):Prop:=∀h∈hs,h.At.length=n+1∧L3 h.Rows
theorem E09 {n:Nat} {rows:List Row} (hr:L3 rows):∀(sp:List Span) (e:Int) (hs hs':List CHunk),n4 n rows e hs sp=some hs'→CInvA n hs→CInvA n hs'
 | [],e,hs,hs',h,hi=>by cases h;exact hi
 | s::r,e,hs,hs',h,hi=>by
  rw [n4] at h
  split at h
  ·cases h
  ·refine E09 hr r _ _ hs' h ?_
   intro x hx
   rcases List.mem_append.1 hx with hx | hx
   ·exact hi x hx
   ·simp only [J53,J49,or_false] at hx
    rw [hx]
    exact ⟨E02 _ _,fun y hy=>hr y (List.mem_of_mem_drop (List.mem_of_mem_take hy))⟩
def C78 (n:Nat) (r:Row):Nat:=r.Text.length+n+29
theorem headC_w (n:Nat) (h:CHunk):(B36 n h).length≤28*(n+1)+1:=by
 have:=A84 n h (n+1)
 unfold B36
 simp only [J15,F53,J16,J19];omega
theorem I63 (n:Nat) (rs:List Row):((rs.map (A48 n)).flatten).flatten.length≤(rs.map (C78 n)).sum:=by
 have hm:markS.length=29:=rfl
 induction rs with
 | nil=>simp
 | cons x r ih =>
  have:(A48 n x).flatten.length≤C78 n x:=by
   unfold A48 C78
   split<;>simp only [J33,J63,J15,B55,J19]<;>omega
  simp only [J24,J33,J42,J15,J47];omega
theorem H22 (n:Nat) (hs:List CHunk):((hs.map (l5 n)).flatten).flatten.length≤(hs.map fun h=>(28*(n+1)+2)+(h.Rows.map (C78 n)).sum).sum:=by
 induction hs with
 | nil=>simp
 | cons x r ih =>
  have h1:=headC_w n x
  have h2:=I63 n x.Rows
  have h3:(l5 n x).flatten.length≤(28*(n+1)+2)+(x.Rows.map (C78 n)).sum:=by
   unfold l5
   simp only [J33,J15,J16,J19];omega
  rw [J24,J33,J42,J15,J24,J47]
  exact Nat.add_le_add h3 ih
theorem I64 (c:Comb):(A37 c).length≤4*c.Path.length+48+(c.Hunks.map fun h=>(28*(c.Parents.toNat+1)+2)+(h.Rows.map (C78 c.Parents.toNat)).sum).sum:=by
 have h1:=E07 c
 have h2:=H22 c.Parents.toNat c.Hunks
 rw [←E05]
 unfold cTo
 rw [J32,J15];omega
theorem A86:∀(s cur:Str),(H9 cur s).length≤s.count 10+1
 | [],cur=>by unfold H9;split<;>simp
 | c::r,cur=>by
  rw [s5]
  split
  ·rename_i h
   have:=A86 r []
   rw [J16,List.count_cons,h];simp;omega
  ·have:=A86 r (cur++[c])
   rw [List.count_cons];omega
theorem D09 (s:Str):(B8 s).length≤s.count 10+1:=A86 s []
theorem C44 (result:Str) (parents:List Str) (L B:Nat) (h0:(B8 result).length≤L∧result.length≤B) (h1:∀b∈parents,(B8 b).length≤L∧b.length≤B) :
  L3 (F3 result parents).1.Rows∧(F3 result parents).1.Rows.length≤(L+1)*(parents.length*L+1)∧∀r∈(F3 result parents).1.Rows,r.Text.length≤B:=by
 have hnil:L3 []∧([]:List Row).length≤(L+1)*(parents.length*L+1)∧∀r∈([]:List Row),r.Text.length≤B:=⟨fun r hr=>(by cases hr),(by simp),fun r hr=>(by cases hr)⟩
 by_cases hn:parents.length < 1∨32 < parents.length
 ·rw [F3,if_pos hn];exact hnil
 obtain ⟨fs,hfs⟩:∃fs,fs=B8 result::parents.map B8:=⟨_,rfl⟩
 obtain ⟨names,hnames⟩:∃names,names=D8 fs:=⟨_,rfl⟩
 obtain ⟨s,hs⟩:∃s,s=M9 (fs.map (J6 names)) (B8 result).length parents.length parents.length:=⟨_,rfl⟩
 have hm:F3 result parents=if ∃k,k < (B8 result).length+1∧(D9 (s.2 k)).2≠0 then (⟨0,[]⟩,1) else (⟨parents.length,S3 names (B8 result) s ((B8 result).length+1)⟩,0):=by
  rw [F3,if_neg hn,hs,hnames,hfs]
 rw [hm]
 split
 ·exact hnil
 have hfB:∀f∈fs,f.length≤L∧∀t∈f,t.length≤B:=by
  intro f hf
  rw [hfs] at hf
  rcases List.mem_cons.1 hf with rfl | hf
  ·exact ⟨h0.1,fun t ht=>by have:=G29 _ _ ht;omega⟩
  ·obtain ⟨b,hb,rfl⟩:=List.mem_map.1 hf
   have:=h1 b hb
   exact ⟨this.1,fun t ht=>by have:=G29 _ _ ht;omega⟩
 have hnB:∀t∈names,t.length≤B:=by
  intro t ht
  rw [hnames] at ht
  obtain ⟨f,hf,h2⟩:=List.mem_flatten.1 (C96 fs t ht)
  exact (hfB f hf).2 t h2
 have hid:∀x∈fs.map (J6 names),x.length≤L∧∀v∈x,(fun _:Int=>True) v:=by
  intro x hx
  obtain ⟨f,hf,rfl⟩:=List.mem_map.1 hx
  exact ⟨by rw [J6,J29];exact (hfB f hf).1,fun _ _=>trivial⟩
 have hok:LoomOk (fun _=>True) L (B8 result).length parents.length s:=by rw [hs];exact y5 hid _
 have hL:(B8 result).length≤L:=h0.1
 have hcs:∀k,(D9 (s.2 k)).1.length≤parents.length*L∧∀m∈(D9 (s.2 k)).1,0≤m.Parents∧m.Parents < 4294967296:=fun k=>by
  have h2:=hok.gaps k
  have h3:=s7 (fun _=>True) L (s.2 k) h2.2
  rw [h2.1] at h3
  exact ⟨h3.1,fun m hmem=>(h3.2 m hmem).1⟩
 have hgetD:∀(l:List Str) (k:Nat),(∀t∈l,t.length≤B)→(l.getD k []).length≤B:=by
  intro l k hl
  rw [J17]
  cases h:l[k]? with
  | none=>simp
  | some t=>exact hl t (J30 h)
 have key:∀k,k≤(B8 result).length+1→L3 (S3 names (B8 result) s k)∧(S3 names (B8 result) s k).length≤k*(parents.length*L+1)∧∀r∈S3 names (B8 result) s k,r.Text.length≤B:=by
  intro k
  induction k with
  | zero=>intro _;simp only [S3,List.range_zero,J51,J63];exact ⟨fun r hr=>(by cases hr),by simp,fun r hr=>(by cases hr)⟩
  | succ k ih =>
   intro hk
   obtain ⟨i1,i2,i3⟩:=ih (by omega)
   have hc:=hcs k
   have hgap:∀r∈P0 names (B8 result) s k,(0≤r.Marks∧r.Marks < 4294967296)∧r.Text.length≤B:=by
    intro r hr
    unfold P0 at hr
    rcases List.mem_append.1 hr with h | h
    ·obtain ⟨m,hmem,rfl⟩:=List.mem_map.1 h
     exact ⟨hc.2 m hmem,hgetD _ _ hnB⟩
    ·split at h
     ·rename_i hkl
      simp only [List.mem_singleton] at h
      subst h
      refine ⟨?_,hgetD _ _ (hfB _ (by rw [hfs];simp)).2⟩
      have:k < s.1.length:=by rw [hok.len];exact hkl
      show 0≤s.1.getD k 0∧s.1.getD k 0 < 4294967296
      rw [J17,J14 this]
      exact hok.marks _ (J26 this)
     ·cases h
   have hgl:(P0 names (B8 result) s k).length≤parents.length*L+1:=by
    unfold P0
    rw [J15,J29]
    have:=hc.1
    split<;>simp<;>omega
   rw [a8]
   refine ⟨fun r hr=>?_,by rw [J15,J37,Nat.one_mul];omega,fun r hr=>?_⟩
   ·rcases List.mem_append.1 hr with h | h
    ·exact i1 r h
    ·exact (hgap r h).1
   ·rcases List.mem_append.1 hr with h | h
    ·exact i3 r h
    ·exact (hgap r h).2
 obtain ⟨k1,k2,k3⟩:=key _ (Nat.le_refl _)
 have:((B8 result).length+1)*(parents.length*L+1)≤(L+1)*(parents.length*L+1):=J27 _ (by omega)
 exact ⟨k1,by simp only;omega,k3⟩
end Go.AL
namespace Go.AL
open Go
def S4 (r:Row):Bool:=!r.Lost&&decide (r.Marks=0)
def Y7 (out:List Span) (v:Int):List Span:=match out.getLast? with
 | some s=>out.dropLast++[⟨s.From,v⟩]
 | none=>out
def A38:List Bool→Nat→Bool→List Span→List Span
 | [],_,_,out=>out
 | b::r,i,p,out=>A38 r (i+1) b (if b=true then Y7 (if p=true then out else out++[⟨i,i⟩]) ((i:Int)+1) else out)
def P7 (l:List Bool):List Span:=A38 l 0 false []
def B99 (n:Nat) (out:List Span):Prop:=out.length≤n∧∀s∈out,(0≤s.From∧s.From≤n)∧(0≤s.To∧s.To≤n)
theorem E94 {n:Nat} {out:List Span} (h:B99 n out):B99 (n+1) out:=⟨by have:=h.1;omega,fun s hs=>by have:=h.2 s hs;omega⟩
theorem I65 {n:Nat} {out:List Span} (h:B99 n out):B99 (n+1) (out++[⟨n,n⟩]):=by
 refine ⟨by rw [J15];have:=h.1;simp;omega,fun x hx=>?_⟩
 rcases List.mem_append.1 hx with hx | hx
 ·have:=h.2 x hx;omega
 ·simp only [J53,J49,or_false] at hx
  rw [hx];dsimp only;omega
theorem E10 {n:Nat} {out:List Span} {v:Int} (h:B99 n out) (hv:0≤v∧v≤(n:Int)):B99 n (Y7 out v):=by
 unfold Y7
 cases hl:out.getLast? with
 | none=>dsimp only;exact h
 | some s =>
  dsimp only
  have hm:=h.2 s (List.mem_of_getLast? hl)
  have hne:out≠[]:=fun e=>by rw [e] at hl;cases hl
  have hp:=List.length_pos_iff.2 hne
  refine ⟨by rw [J15,List.length_dropLast];have:=h.1;simp;omega,fun x hx=>?_⟩
  rcases List.mem_append.1 hx with hx | hx
  ·exact h.2 x ((List.dropLast_sublist _).subset hx)
  ·simp only [J53,J49,or_false] at hx
   rw [hx];dsimp only;omega
theorem H61 {i:Nat} {out:List Span} (b p:Bool) (h:B99 i out):B99 (i+1) (if b=true then Y7 (if p=true then out else out++[⟨i,i⟩]) ((i:Int)+1) else out):=by
 split
 ·split
  ·exact E10 (E94 h) (by omega)
  ·exact E10 (I65 h) (by omega)
 ·exact E94 h
theorem H62:∀(l:List Bool) (i:Nat) (p:Bool) (out:List Span),B99 i out→B99 (i+l.length) (A38 l i p out)
 | [],i,p,out,h=>h
 | b::r,i,p,out,h=>by
  rw [A38,J16,show i+(r.length+1)=(i+1)+r.length by omega]
  exact H62 r (i+1) b _ (H61 b p h)
theorem C45 (l:List Bool):B99 l.length (P7 l):=by
 have:=H62 l 0 false [] ⟨Nat.le_refl _,fun s hs=>by cases hs⟩
 rwa [Nat.zero_add] at this
def r7 (t:Table):List Span × Int:=if J2 t≠0 then ([],J2 t) else (P7 (t.Rows.map fun r=>!S4 r),0)
def D10 (rows:List Row):Int:=rows.foldl (fun a r=>I8 a r.Marks) 0
def A28 (t:Table) (s:Span):Bool:=(List.range t.Parents.toNat).all fun p=>!decide (D10 ((t.Rows.drop s.From.toNat).take (s.To.toNat - s.From.toNat)) / 2 ^ p % 2=0)
def H1 (t:Table) (d:Bool):List Span × Int:=if (r7 t).2≠0 then ([],(r7 t).2) else ((r7 t).1.filter fun s=>!d||A28 t s,0)
def Q9 (l:List Span) (ctx:Int) (k:Nat):Bool:=l.any fun s=>decide (s.From - ctx≤k∧(k:Int) < s.To+ctx)
def O1 (t:Table) (ctx:Int) (d:Bool):List Span × Int :=
 if (H1 t d).2≠0 then ([],(H1 t d).2) else if ctx < 0∨1048576 < ctx then ([],3)
 else (P7 ((List.range t.Rows.length).map (Q9 (H1 t d).1 ctx)),0)
theorem runs_in (t:Table):B99 t.Rows.length (r7 t).1:=by
 unfold r7
 split
 ·exact ⟨Nat.zero_le _,fun s hs=>by cases hs⟩
 ·have:=C45 (t.Rows.map fun r=>!S4 r)
  rwa [J29] at this
theorem E11 (t:Table) (d:Bool):B99 t.Rows.length (H1 t d).1:=by
 have h:=runs_in t
 unfold H1
 split
 ·exact ⟨Nat.zero_le _,fun s hs=>by cases hs⟩
 ·refine ⟨?_,fun s hs=>h.2 s (List.mem_filter.1 hs).1⟩
  have:=List.length_filter_le (fun s=>!d||A28 t s) (r7 t).1
  have:=h.1
  dsimp only;omega
theorem I66 (t:Table) (ctx:Int) (d:Bool):B99 t.Rows.length (O1 t ctx d).1:=by
 unfold O1
 split
 ·exact ⟨Nat.zero_le _,fun s hs=>by cases hs⟩
 ·split
  ·exact ⟨Nat.zero_le _,fun s hs=>by cases hs⟩
  ·have:=C45 ((List.range t.Rows.length).map (Q9 (H1 t d).1 ctx))
   rwa [J29,J60] at this
def D11 (l:List Bool) (i:Nat):Bool:=if i=0 then false else l.getD (i - 1) false
theorem I17 {l:List Bool} {i:Nat} {p:Bool} {out:List Span} (h:i < l.length):A38 (l.drop i) i p out=A38 (l.drop (i+1)) (i+1) (l.getD i false) (if l.getD i false=true then Y7 (if p=true then out else out++[⟨i,i⟩]) ((i:Int)+1) else out):=by
 rw [J20 h,A38,J17,J14 h];rfl
end Go.AL
namespace Go.AL
open Go
theorem b8 (out:List Span) (a b v:Int):Y7 (out++[⟨a,b⟩]) v=out++[⟨a,v⟩]:=by unfold Y7;simp
def SpUp (n:Int) (out:List Span):Prop:=(∀s∈out,s.From≤n)∧out.Pairwise fun a b=>a.From≤b.From
theorem I67 {n:Int} {out:List Span} (h:SpUp n out) (v:Int):SpUp n (out++[⟨n,v⟩]):=by
 refine ⟨fun s hs=>?_,?_⟩
 ·rcases List.mem_append.1 hs with hs | hs
  ·exact h.1 s hs
  ·simp only [J53,J49,or_false] at hs
   rw [hs];exact Int.le_refl _
 ·rw [List.pairwise_append]
  refine ⟨h.2,List.pairwise_singleton _ _,fun a ha b hb=>?_⟩
  simp only [J53,J49,or_false] at hb
  rw [hb];exact h.1 a ha
theorem I68 {n:Int} {out:List Span} (h:SpUp n out) (v:Int):SpUp n (Y7 out v):=by
 unfold Y7
 cases hl:out.getLast? with
 | none=>exact h
 | some s =>
  dsimp only
  have e:out=out.dropLast++[s]:=by
   have hne:out≠[]:=fun e=>by rw [e] at hl;cases hl
   have h2:=List.dropLast_concat_getLast hne
   rw [List.getLast?_eq_some_getLast hne] at hl
   cases hl
   exact h2.symm
  rw [e] at h
  obtain ⟨h1,h2⟩:=h
  rw [List.pairwise_append] at h2
  refine ⟨fun x hx=>?_,?_⟩
  ·rcases List.mem_append.1 hx with hx | hx
   ·exact h1 x (List.mem_append.2 (.inl hx))
   ·simp only [J53,J49,or_false] at hx
    rw [hx];exact h1 s (by simp)
  ·rw [List.pairwise_append]
   refine ⟨h2.1,List.pairwise_singleton _ _,fun a ha b hb=>?_⟩
   simp only [J53,J49,or_false] at hb
   rw [hb];exact h2.2.2 a ha s (by simp)
theorem I18 {n m:Int} {out:List Span} (h:SpUp n out) (hm:n≤m):SpUp m out:=⟨fun s hs=>Int.le_trans (h.1 s hs) hm,h.2⟩
theorem H63:∀(l:List Bool) (i:Nat) (p:Bool) (out:List Span),SpUp i out→∃m,SpUp m (A38 l i p out)
 | [],i,p,out,h=>⟨_,h⟩
 | b::r,i,p,out,h=>by
  rw [A38]
  refine H63 r (i+1) b _ (I18 (n:=(i:Int)) ?_ (by omega))
  split
  ·split
   ·exact I68 h _
   ·rw [b8];exact I67 h _
  ·exact h
theorem I69 (l:List Bool):(P7 l).Pairwise fun a b=>a.From≤b.From:=by
 obtain ⟨m,h⟩:=H63 l 0 false [] ⟨fun s hs=>(by cases hs),List.Pairwise.nil⟩
 exact h.2
theorem E12 (t:Table) (d:Bool):(H1 t d).1.Pairwise fun a b=>a.From≤b.From:=by
 unfold H1 r7
 split
 ·exact List.Pairwise.nil
 ·dsimp only
  split
  ·exact List.Pairwise.nil
  ·exact List.Pairwise.sublist List.filter_sublist (I69 _)
theorem up_get {L:List Span} (h:L.Pairwise fun a b=>a.From≤b.From) {k:Nat} (hk:k+1 < L.length):L[k].From≤L[k+1].From:=(List.pairwise_iff_getElem.1 h) k (k+1) (by omega) hk (by omega)
theorem I70 {n:Int} {out:List Span} (h:∀s∈out,s.From≤s.To∧s.From≤n) (v:Int) (hv:n≤v):∀s∈Y7 out v,s.From≤s.To∧s.From≤n:=by
 unfold Y7
 cases hl:out.getLast? with
 | none=>exact h
 | some x =>
  dsimp only
  intro s hs
  rcases List.mem_append.1 hs with hs | hs
  ·exact h s ((List.dropLast_sublist _).subset hs)
  ·simp only [J53,J49,or_false] at hs
   rw [hs]
   have:=h x (List.mem_of_getLast? hl)
   exact ⟨by dsimp only;omega,this.2⟩
theorem H64:∀(l:List Bool) (i:Nat) (p:Bool) (out:List Span),(∀s∈out,s.From≤s.To∧s.From≤(i:Int))→∀s∈A38 l i p out,s.From≤s.To
 | [],i,p,out,h=>fun s hs=>(h s hs).1
 | b :: r,i,p,out,h=>by
  rw [A38]
  refine H64 r (i+1) b _ ?_
  have hmore:∀q:List Span,(∀s∈q,s.From≤s.To∧s.From≤(i:Int))→∀s∈q,s.From≤s.To∧s.From≤((i+1:Nat):Int):=fun q hq s hs=>by have:=hq s hs;omega
  split
  ·refine hmore _ (I70 ?_ _ (by omega))
   split
   ·exact h
   ·intro s hs
    rcases List.mem_append.1 hs with hs | hs
    ·exact h s hs
    ·simp only [J53,J49,or_false] at hs
     rw [hs];exact ⟨Int.le_refl _,Int.le_refl _⟩
  ·exact hmore _ h
theorem I71 (l:List Bool):∀s∈P7 l,s.From≤s.To:=H64 l 0 false [] (fun s hs=>by cases hs)
theorem F56 (L:List Span) (ctx:Int) (k:Nat) (h:k < L.length) (i:Nat):Q9 (L.take (k+1)) ctx i=(Q9 (L.take k) ctx i||decide (L[k].From - ctx≤i∧(i:Int) < L[k].To+ctx)):=by
 unfold Q9
 rw [J22 h,List.any_append];simp
theorem E95 {n:Nat} (hn:n≤32):∀(rows:List Row) (a:Int),(0≤a∧a < ((2 ^ n:Nat):Int))→(∀r∈rows,0≤r.Marks∧r.Marks < ((2 ^ n:Nat):Int))→0≤rows.foldl (fun a r=>I8 a r.Marks) a∧rows.foldl (fun a r=>I8 a r.Marks) a < ((2 ^ n:Nat):Int)
 | [],a,h,_=>h
 | x::r,a,h,hr=>by
  have hx:=hr x (by simp)
  have h32:2 ^ n≤2 ^ 32:=Nat.pow_le_pow_right (by decide) hn
  rw [J41]
  refine E95 hn r _ ?_ fun y hy=>hr y (by simp [hy])
  obtain ⟨q,rfl⟩:∃q:Nat,a=q:=⟨a.toNat,by omega⟩
  obtain ⟨m,hm⟩:∃m:Nat,x.Marks=m:=⟨x.Marks.toNat,by omega⟩
  rw [hm] at hx ⊢
  obtain ⟨h3,_⟩:=B26 q m (by omega) (by omega)
  rw [h3]
  have:=Nat.or_lt_two_pow (n:=n) (x:=q) (y:=m) (by omega) (by omega)
  omega
theorem I72 (n A:Nat) (hA:A < 2 ^ n):A=2 ^ n - 1↔((List.range n).all fun p=>!decide ((A:Int) / 2 ^ p % 2=0))=true:=by
 have hbit:∀p,decide ((A:Int) / 2 ^ p % 2=0)=!A.testBit p:=by
  intro p
  have e1:(A:Int) / 2 ^ p % 2=((A / 2 ^ p % 2:Nat):Int):=by simp
  rw [e1,Nat.testBit_eq_decide_div_mod_eq]
  have h2:A / 2 ^ p % 2=0∨A / 2 ^ p % 2=1:=by omega
  rcases h2 with h2 | h2<;>rw [h2]<;>rfl
 rw [List.all_eq_true]
 constructor
 ·rintro rfl p hp
  rw [hbit,Bool.not_not,Nat.testBit_two_pow_sub_one]
  exact decide_eq_true (List.mem_range.1 hp)
 ·intro h
  refine Nat.eq_of_testBit_eq fun p=>?_
  rw [Nat.testBit_two_pow_sub_one]
  by_cases hp:p < n
  ·have:=h p (List.mem_range.2 hp)
   rw [hbit,Bool.not_not] at this
   rw [this,decide_eq_true hp]
  ·rw [decide_eq_false hp]
   exact Nat.testBit_lt_two_pow (Nat.lt_of_lt_of_le hA (Nat.pow_le_pow_right (by decide) (by omega)))
theorem I73 {t:Table} {s:Span} {n:Nat} (hn:t.Parents=n) (hn2:1≤n∧n≤32) (hm:∀r∈t.Rows,0≤r.Marks∧r.Marks < ((2 ^ n:Nat):Int)) (F T:Nat) (hs:s=⟨F,T⟩) :
  decide (D10 ((t.Rows.drop F).take (T - F))=((2 ^ n - 1:Nat):Int))=A28 t s:=by
 obtain ⟨A,hA⟩:∃A,A=D10 ((t.Rows.drop F).take (T - F)):=⟨_,rfl⟩
 have hlow:0≤A∧A < ((2 ^ n:Nat):Int):=by
  rw [hA]
  refine E95 hn2.2 _ 0 ⟨Int.le_refl _,by have:=Nat.pow_pos (n:=n) (show 0 < 2 by decide);omega⟩ fun r hr=>hm r (List.mem_of_mem_drop (List.mem_of_mem_take hr))
 obtain ⟨q,rfl⟩:∃q:Nat,A=q:=⟨A.toNat,by omega⟩
 have hD:A28 t s=(List.range n).all fun p=>!decide ((q:Int) / 2 ^ p % 2=0):=by
  unfold A28;rw [hs,hn];dsimp only;rw [J21,J21,J21,←hA]
 rw [←hA,hD,Bool.eq_iff_iff,decide_eq_true_eq,←I72 n q (by omega)]
 omega
theorem I19 {rows:List Row} {n:Nat} (hr:L3 rows) (h:P6 rows n=true):∀r∈rows,0≤r.Marks∧r.Marks < ((2 ^ n:Nat):Int):=by
 intro r hm
 have h1:=List.all_eq_true.1 h r hm
 unfold T6 at h1
 simp only [J18,beq_iff_eq] at h1
 refine ⟨(hr r hm).1,?_⟩
 have e:(2:Int) ^ n=((2 ^ n:Nat):Int):=by simp
 have h2:=h1.1
 rw [e] at h2
 have hp:(0:Int) < ((2 ^ n:Nat):Int):=by have:=Nat.pow_pos (n:=n) (show 0 < 2 by decide);omega
 have h3:=Int.emod_lt_of_pos r.Marks hp
 have h4:=Int.mul_ediv_add_emod r.Marks ((2 ^ n:Nat):Int)
 rw [h2,Int.mul_zero,Int.zero_add] at h4
 omega
theorem I74 (n:Nat) (hn:1≤n∧n≤32):(4294967295:Int).fdiv (2 ^ (min (32 - (n:Int)).toNat IntKind.u32.bits))=((2 ^ n - 1:Nat):Int):=by
 have h1:min (32 - (n:Int)).toNat IntKind.u32.bits=32 - n:=by
  rw [show (32 - (n:Int)).toNat=32 - n by omega];exact Nat.min_eq_left (by show 32 - n≤32;omega)
 rw [h1,Int.fdiv_eq_ediv_of_nonneg _ (Int.pow_nonneg (by decide))]
 have key:∀k:Fin 33,1≤k.val→(4294967295:Int) / 2 ^ (32 - k.val)=((2 ^ k.val - 1:Nat):Int):=by decide
 exact key ⟨n,by omega⟩ hn.1
end Go.AL
namespace Go.AL
open Go
theorem C46 {p:Nat} (hp:p < 32):2 ^ p < 4294967296:=Nat.pow_lt_pow_right (a:=2) (by decide) hp
theorem C47 {m:Int} {p q:Nat} (hm:0≤m∧m < 4294967296) (hp:p < 32):V5 (I8 m (G4 p)) q=(V5 m q||decide (p=q)):=by
 obtain ⟨k,rfl⟩:∃k:Nat,m=k:=⟨m.toNat,by omega⟩
 have:=C46 hp
 rw [B52 hp,(B26 k (2 ^ p) (by omega) (by omega)).1,p8,p8,Nat.testBit_or,Nat.testBit_two_pow]
theorem E96 {p q:Nat} (hp:p < 32):V5 (G4 p) q=decide (p=q):=by
 rw [B52 hp,p8,Nat.testBit_two_pow]
theorem E97 {m:Int} {p q:Nat} (h:0≤m∧m < ((2 ^ p:Nat):Int)) (hq:p≤q):V5 m q=false:=by
 obtain ⟨k,rfl⟩:∃k:Nat,m=k:=⟨m.toNat,by omega⟩
 rw [p8]
 exact Nat.testBit_lt_two_pow (Nat.lt_of_lt_of_le (by omega) (Nat.pow_le_pow_right (by decide) hq))
def m3 (q:Nat) (l:List Merged):List Int:=E6 (l.filter fun m=>V5 m.Parents q)
theorem Y8 (q:Nat) (a b:List Merged):m3 q (a++b)=m3 q a++m3 q b:=by unfold m3 E6;rw [J64,J28]
theorem C79 {q:Nat} {l:List Merged} (h:∀m∈l,V5 m.Parents q=false):m3 q l=[]:=by
 unfold m3
 rw [List.filter_eq_nil_iff.2 (fun m hm=>by rw [h m hm];decide)];rfl
theorem C48 {p q:Nat} (hp:p < 32) (l:List Int):m3 q (l.map fun v=>(⟨v,G4 p⟩:Merged))=if p=q then l else []:=by
 by_cases h:p=q
 ·rw [if_pos h]
  unfold m3 E6
  rw [List.filter_eq_self.2 (fun m hm=>by obtain ⟨v,_,rfl⟩:=List.mem_map.1 hm;rw [E96 hp];exact decide_eq_true h),J44]
  exact List.map_id _
 ·rw [if_neg h]
  exact C79 fun m hm=>by obtain ⟨v,_,rfl⟩:=List.mem_map.1 hm;rw [E96 hp];exact decide_eq_false h
def LowP (p:Nat) (l:List Merged):Prop:=∀m∈l,0 < m.Parents∧m.Parents < ((2 ^ p:Nat):Int)
theorem LowP.sub {p:Nat} {l l':List Merged} (h:LowP p l) (hs:∀m∈l',m∈l):LowP p l':=fun m hm=>h m (hs m hm)
theorem LowP.up {p:Nat} {l:List Merged} (h:LowP p l):LowP (p+1) l:=fun m hm=>by
 have:=h m hm
 have:2 ^ p≤2 ^ (p+1):=Nat.pow_le_pow_right (by decide) (by omega)
 omega
theorem C49 {p:Nat} {a b:List Merged} (ha:LowP p a) (hb:LowP p b):LowP p (a++b):=fun m hm=>by
 rcases List.mem_append.1 hm with h | h
 ·exact ha m h
 ·exact hb m h
theorem G48 {p:Nat} (hp:p < 32) (l:List Int):LowP (p+1) (l.map fun v=>(⟨v,G4 p⟩:Merged)):=fun m hm=>by
 obtain ⟨v,_,rfl⟩:=List.mem_map.1 hm
 have h1:0 < 2 ^ p:=Nat.pow_pos (by decide)
 have h2:2 ^ (p+1)=2*2 ^ p:=by rw [Nat.pow_succ];omega
 show 0 < G4 p∧G4 p < _
 rw [B52 hp];omega
theorem or_pos {m:Int} {p:Nat} (hp:p < 32) (h:0 < m∧m < ((2 ^ p:Nat):Int)):0 < I8 m (G4 p)∧I8 m (G4 p) < ((2 ^ (p+1):Nat):Int):=by
 have h1:=or_low hp (m:=m) (by omega)
 refine ⟨?_,h1.2⟩
 have h2:=C46 hp
 have h3:=C47 (m:=m) (q:=p) (by omega) hp
 rw [decide_eq_true rfl,Bool.or_true] at h3
 have:I8 m (G4 p)≠0:=fun e=>by rw [e] at h3;simp [V5] at h3
 omega
theorem A09 {α:Type} (l:List α) {a b:Nat} (h:a≤b):l.drop a=(l.drop a).take (b - a)++l.drop b:=by
 have:=J50 (b - a) (l.drop a)
 rw [List.drop_drop,show a+(b - a)=b by omega] at this
 exact this.symm
theorem E98 {l:List Merged} {list:List Int} {p:Nat} (hp:p < 32) (hl:LowP p l):∀(ps:List Span) (i j:Nat),Asc l.length list.length i j ps→(∀x∈ps,(E6 l)[x.From.toNat]?=list[x.To.toNat]?) →
  m3 p (N6 l list (G4 p) i j ps)=list.drop j∧(∀q,q≠p→m3 q (N6 l list (G4 p) i j ps)=m3 q (l.drop i))∧LowP (p+1) (N6 l list (G4 p) i j ps)
 | [],i,j,ha,_=>by
  have e1:(l.drop i).take (l.length - i)=l.drop i:=J46 (by simp)
  have e2:(list.drop j).take (list.length - j)=list.drop j:=J46 (by simp)
  unfold N6
  rw [e1,e2]
  refine ⟨?_,fun q hq=>?_,C49 ((hl.sub fun m hm=>List.mem_of_mem_drop hm).up) (G48 hp _)⟩
  ·rw [Y8,C48 hp,if_pos rfl,C79 fun m hm=>E97 (p:=p) (by have:=hl m (List.mem_of_mem_drop hm);omega) (Nat.le_refl _)];rfl
  ·rw [Y8,C48 hp,if_neg (Ne.symm hq),J35]
 | x :: r,i,j,ha,hx=>by
  obtain ⟨h1,h2,h3⟩:=ha
  have h4:=h3.le
  have e1:((x.From.toNat+1:Nat):Int)=x.From+1:=by omega
  have e2:((x.To.toNat+1:Nat):Int)=x.To+1:=by omega
  obtain ⟨i1,i2,i3⟩:=E98 hp hl r (x.From.toNat+1) (x.To.toNat+1) (by rw [e1,e2];exact h3) (fun y hy=>hx y (List.mem_cons_of_mem _ hy))
  have hF:x.From.toNat < l.length:=by omega
  have hT:x.To.toNat < list.length:=by omega
  have hy:=hl l[x.From.toNat] (J26 hF)
  have hline:l[x.From.toNat].Line=list[x.To.toNat]:=by
   have:=hx x (by simp)
   rw [J14 hT] at this
   unfold E6 at this
   rw [J40,J14 hF] at this
   exact Option.some.inj this
  have h2p:=C46 hp
  have d1:l.drop i=(l.drop i).take (x.From.toNat - i)++l[x.From.toNat]::l.drop (x.From.toNat+1):=by
   rw [←J20 hF];exact A09 l (by omega)
  have d2:list.drop j=(list.drop j).take (x.To.toNat - j)++list[x.To.toNat]::list.drop (x.To.toNat+1):=by
   rw [←J20 hT];exact A09 list (by omega)
  have hM:(l[x.From.toNat]?.map fun y=>(⟨y.Line,I8 y.Parents (G4 p)⟩:Merged)).toList=[⟨l[x.From.toNat].Line,I8 l[x.From.toNat].Parents (G4 p)⟩]:=by rw [J14 hF];rfl
  have hbit:=fun q=>C47 (m:=l[x.From.toNat].Parents) (p:=p) (q:=q) (by omega) hp
  have hA:LowP p ((l.drop i).take (x.From.toNat - i)):=hl.sub fun m hm=>W0 hm
  unfold N6
  rw [hM]
  generalize ha':(l.drop i).take (x.From.toNat - i)=A at hA d1 ⊢
  generalize hb':(list.drop j).take (x.To.toNat - j)=A2 at d2 ⊢
  refine ⟨?_,fun q hq=>?_,?_⟩
  ·rw [Y8,Y8,Y8,i1,C48 hp,if_pos rfl,C79 (l:=A) fun m hm=>E97 (p:=p) (by have:=hA m hm;omega) (Nat.le_refl _),J43,d2]
   have:m3 p [(⟨l[x.From.toNat].Line,I8 l[x.From.toNat].Parents (G4 p)⟩:Merged)]=[list[x.To.toNat]]:=by
    unfold m3
    rw [List.filter_cons_of_pos (by rw [hbit,decide_eq_true rfl,Bool.or_true])]
    show [l[x.From.toNat].Line]=_
    rw [hline]
   rw [this]
   simp
  ·have d3:m3 q (l.drop i)=m3 q A++(m3 q [l[x.From.toNat]]++m3 q (l.drop (x.From.toNat+1))):=by
    rw [d1,←Y8,←Y8];rfl
   rw [Y8,Y8,Y8,i2 q hq,C48 hp,if_neg (Ne.symm hq),J35,d3]
   have:m3 q [(⟨l[x.From.toNat].Line,I8 l[x.From.toNat].Parents (G4 p)⟩:Merged)]=m3 q [l[x.From.toNat]]:=by
    unfold m3
    have hb:V5 (I8 l[x.From.toNat].Parents (G4 p)) q=V5 l[x.From.toNat].Parents q:=by rw [hbit,decide_eq_false (Ne.symm hq),Bool.or_false]
    cases hc:V5 l[x.From.toNat].Parents q
    ·rw [List.filter_cons_of_neg (by rw [hb,hc];decide),List.filter_cons_of_neg (by rw [hc];decide)]
    ·rw [List.filter_cons_of_pos (by rw [hb,hc]),List.filter_cons_of_pos (by rw [hc])]
     rfl
   rw [this]
  ·refine C49 (C49 hA.up (G48 hp _)) (C49 ?_ i3)
   intro m hm
   rw [List.mem_singleton.1 hm]
   exact or_pos hp hy
theorem G49 {l:List Merged} {list:List Int} {p:Nat} (hp:p < 32) (hl:LowP p l) :
  m3 p (O7 l list p)=list∧(∀q,q≠p→m3 q (O7 l list p)=m3 q l)∧LowP (p+1) (O7 l list p):=by
 have hasc:=T5 (E6 l) list 0 0
 rw [Int.zero_add,Int.zero_add,show (E6 l).length=l.length by simp [E6]] at hasc
 have:=E98 (list:=list) hp hl (F0 0 0 (E6 l) list) 0 0 hasc (fun x hx=>by
  obtain ⟨_,_,v,h1,h2⟩:=E83 (E6 l) list 0 0 x hx
  rw [Int.sub_zero] at h1 h2
  rw [h1,h2])
 exact this
theorem B77:∀(ls:List (List Int)) (acc:List Merged) (p:Nat),p+ls.length≤32→LowP p acc→(G5 acc p ls).2=0 →
  LowP (p+ls.length) (G5 acc p ls).1∧(∀q,q < p→m3 q (G5 acc p ls).1=m3 q acc)∧∀t,t < ls.length→m3 (p+t) (G5 acc p ls).1=ls.getD t []
 | [],acc,p,_,ha,_=>⟨ha,fun _ _=>rfl,fun t ht=>absurd ht (Nat.not_lt_zero _)⟩
 | x :: r,acc,p,hp,ha,h=>by
  rw [J16] at hp
  unfold G5 at h ⊢
  split at h
  ·cases h
  ·rename_i hc
   rw [if_neg hc]
   obtain ⟨j1,j2,j3⟩:=G49 (list:=x) (p:=p) (by omega) ha
   obtain ⟨i1,i2,i3⟩:=B77 r (O7 acc x p) (p+1) (by omega) j3 h
   refine ⟨?_,fun q hq=>?_,fun t ht=>?_⟩
   ·rw [J16,show p+(r.length+1)=p+1+r.length by omega];exact i1
   ·exact (i2 q (by omega)).trans (j2 q (by omega))
   ·cases t with
    | zero=>exact (i2 p (by omega)).trans j1
    | succ t =>
     have:=i3 t (by rw [J16] at ht;omega)
     rw [show p+1+t=p+(t+1) by omega] at this
     exact this
theorem D20 {ls:List (List Int)} (h:(D9 ls).2=0):LowP ls.length (D9 ls).1∧∀q,q < ls.length→m3 q (D9 ls).1=ls.getD q []:=by
 unfold D9 at h ⊢
 split at h
 ·cases h
 ·rename_i hc
  rw [if_neg hc]
  obtain ⟨h1,_,h3⟩:=B77 ls [] 0 (by omega) (fun m hm=>by cases hm) h
  rw [Nat.zero_add] at h1
  exact ⟨h1,fun q hq=>by have:=h3 q hq;rwa [Nat.zero_add] at this⟩
theorem B78 (B:Nat):∀(ls:List (List Int)) (acc:List Merged) (p:Nat),(∀x∈ls,x.length≤B)→acc.length+ls.length*B≤4096→(G5 acc p ls).2=0
 | [],acc,p,_,_=>rfl
 | x::r,acc,p,hl,h=>by
  have hx:=hl x (by simp)
  have hj:=A21 acc x p
  rw [J16,J37,Nat.one_mul] at h
  unfold G5
  rw [if_neg (by omega)]
  exact B78 B r (O7 acc x p) (p+1) (fun y hy=>hl y (List.mem_cons_of_mem _ hy)) (by omega)
theorem D21 {B:Nat} {ls:List (List Int)} (hl:∀x∈ls,x.length≤B) (hn:ls.length≤32) (h:ls.length*B≤4096):(D9 ls).2=0:=by
 unfold D9
 rw [if_neg (by omega)]
 exact B78 B ls [] 0 hl (by simpa using h)
end Go.AL
namespace Go.AL
open Go
def r8 {α:Type} (G:Nat→List α) (a b:Nat):List α:=((List.range (b - a)).map fun t=>G (a+t)).flatten
theorem A10 {α:Type} (G:Nat→List α) {a b c:Nat} (h1:a≤b) (h2:b≤c):r8 G a c=r8 G a b++r8 G b c:=by
 unfold r8
 rw [show c - a=(b - a)+(c - b) by omega,List.range_add,J28,J42,J44]
 congr 3
 funext t
 show G (a+(b - a+t))=G (b+t)
 rw [show a+(b - a+t)=b+t by omega]
theorem B38 {α:Type} (G:Nat→List α) (a:Nat):r8 G a (a+1)=G a:=by
 unfold r8
 rw [show a+1 - a=1 by omega]
 simp [J52]
theorem E99 {α:Type} (G:Nat→List α) (a:Nat):r8 G a a=[]:=by unfold r8;simp
theorem A87 {α:Type} {G G':Nat→List α} {a b:Nat} (h:∀k,a≤k→k < b→G k=G' k):r8 G a b=r8 G' a b:=by
 unfold r8
 congr 1
 exact List.map_congr_left fun t ht=>h _ (by omega) (by have:=List.mem_range.1 ht;omega)
theorem E13 {α:Type} {G:Nat→List α} {a b:Nat} (h:∀k,a≤k→k < b→G k=[]):r8 G a b=[]:=by
 rw [A87 (G':=fun _=>[]) h]
 unfold r8
 exact List.flatten_eq_nil_iff.2 fun l hl=>by obtain ⟨t,_,rfl⟩:=List.mem_map.1 hl;rfl
theorem I75 {α β:Type} (f:α→β) (G:Nat→List α) (a b:Nat):r8 (fun k=>(G k).map f) a b=(r8 G a b).map f:=by
 unfold r8
 rw [List.map_flatten,J44];rfl
theorem G50 {α:Type} (l:List α):∀d i,i+d=l.length→r8 (fun k=>(l[k]?).toList) i (l.length+1)=l.drop i
 | 0,i,h=>by
  rw [show l.length+1=i+1 by omega,B38,J39 (by omega),List.drop_of_length_le (by omega)];rfl
 | d+1,i,h=>by
  have hi:i < l.length:=by omega
  rw [A10 _ (show i≤i+1 by omega) (show i+1≤l.length+1 by omega),B38,G50 l d (i+1) (by omega),J14 hi,J20 hi];rfl
def piece (file:List Int) (c:Change):List Int:=(file.drop c.Old.toNat).take ((c.Old+c.OldLen).toNat - c.Old.toNat)
def A29 (file:List Int) (cs:List Change) (k:Nat) (a:List Int):List Int:=cs.foldl (fun a c=>if k=c.New.toNat then piece file c else a) a
theorem F00 {file:List Int} {k:Nat}:∀{cs:List Change} {a:List Int},(∀c∈cs,k≠c.New.toNat)→A29 file cs k a=a
 | [],_,_=>rfl
 | c::r,a,h=>by
  unfold A29
  rw [J41,if_neg (h c (by simp))]
  exact F00 (fun d hd=>h d (List.mem_cons_of_mem _ hd))
theorem F01 (file:List Int) (a b:List Change) (k:Nat) (z:List Int):A29 file (a++b) k z=A29 file b k (A29 file a k z):=by unfold A29;rw [J45]
theorem G51 (p:Nat) (file:List Int) (k:Nat):∀(cs:List Change) (g:Nat→List (List Int)),cs.foldl (J3 p file) g k=(g k).set p (A29 file cs k ((g k).getD p []))
 | [],g=>by
  refine List.ext_getElem? fun q=>?_
  show (g k)[q]?=((g k).set p ((g k).getD p []))[q]?
  rw [List.getElem?_set]
  split
  ·rename_i h;subst h
   split
   ·rename_i h;rw [J17,J14 h];rfl
   ·rename_i h;exact J39 (by omega)
  ·rfl
 | c::r,g=>by
  rw [J41,G51 p file k r]
  have e:J3 p file g c k=if k=c.New.toNat then (g k).set p (piece file c) else g k:=rfl
  rw [e]
  show _=(g k).set p (A29 file r k (if k=c.New.toNat then piece file c else (g k).getD p []))
  split
  ·rw [List.set_set]
   by_cases hp:p < (g k).length
   ·rw [J17,List.getElem?_set_self hp];rfl
   ·rw [List.set_eq_of_length_le (by omega),List.set_eq_of_length_le (by omega)]
  ·rfl
theorem F02 (a b:List Change) (k:Nat):R8 (a++b) k=(R8 a k||R8 b k):=by unfold R8;rw [List.any_append]
theorem I20 {cs:List Change} {k:Nat} (h:∀c∈cs,(k:Int) < c.New):R8 cs k=false:=by
 unfold R8
 rw [List.any_eq_false]
 intro c hc
 have:=h c hc
 rw [decide_eq_true_eq];omega
def E14 (file base:List Int) (cs:List Change) (k:Nat):List Int:=A29 file cs k []++(if R8 cs k=true then [] else (base[k]?).toList)
theorem G52 {file base:List Int}:∀(ps:List Span) (i j:Nat),Asc file.length base.length i j ps→(∀x∈ps,file[x.From.toNat]?=base[x.To.toNat]?) →
  r8 (E14 file base (L9 i j ps file.length base.length)) j (base.length+1)=file.drop i
 | [],i,j,ha,_=>by
  have h1:(i:Int)≤file.length∧(j:Int)≤base.length:=ha
  unfold L9
  rw [A10 _ (show j≤j+1 by omega) (show j+1≤base.length+1 by omega),B38]
  by_cases h:(file.length:Int) > i∨(base.length:Int) > j
  ·rw [if_pos h]
   have e1:∀k,A29 file [⟨i,(file.length:Int) - i,j,(base.length:Int) - j⟩] k []=if k=j then file.drop i else []:=by
    intro k
    show (if k=(j:Int).toNat then piece file _ else [])=_
    rw [J21]
    have e2:piece file ⟨i,(file.length:Int) - i,j,(base.length:Int) - j⟩=file.drop i:=by
     unfold piece
     dsimp only
     rw [J21,J46 (by rw [J31];omega)]
    rw [e2]
   have e3:∀k,j≤k→(if R8 [⟨i,(file.length:Int) - i,j,(base.length:Int) - j⟩] k=true then [] else (base[k]?).toList)=([]:List Int):=by
    intro k hk
    by_cases hk2:k < base.length
    ·rw [if_pos]
     unfold R8
     simp only [List.any_cons,List.any_nil,Bool.or_false,decide_eq_true_eq,J21]
     omega
    ·rw [J39 (by omega)]
     split<;>rfl
   rw [E13 (fun k hk _=>by unfold E14;rw [e1,e3 k (by omega),if_neg (by omega)];rfl)]
   unfold E14
   rw [e1,e3 j (Nat.le_refl _),if_pos rfl];simp
  ·rw [if_neg h,E13 (fun k hk hk2=>by omega)]
   unfold E14
   rw [J39 (by omega),List.drop_of_length_le (by omega)]
   rfl
 | x :: r,i,j,ha,hx=>by
  obtain ⟨h1,h2,h3⟩:=ha
  have h4:=h3.le
  have e1:((x.From.toNat+1:Nat):Int)=x.From+1:=by omega
  have e2:((x.To.toNat+1:Nat):Int)=x.To+1:=by omega
  have ih:=G52 r (x.From.toNat+1) (x.To.toNat+1) (by rw [e1,e2];exact h3) (fun y hy=>hx y (List.mem_cons_of_mem _ hy))
  rw [e1,e2] at ih
  have hbd:=h3.made
  have hv:=hx x (by simp)
  have hF:x.From.toNat < file.length:=by omega
  have hT:x.To.toNat < base.length:=by omega
  have hd:file.drop i=(file.drop i).take (x.From.toNat - i)++(base[x.To.toNat]?.toList++file.drop (x.From.toNat+1)):=by
   rw [←hv,J14 hF]
   show _=_++(file[x.From.toNat]::file.drop (x.From.toNat+1))
   rw [←J20 hF];exact A09 file (by omega)
  unfold L9
  obtain ⟨R,hR⟩:∃R,R=L9 (x.From+1) (x.To+1) r file.length base.length:=⟨_,rfl⟩
  rw [←hR] at hbd ih ⊢
  have outR:∀k:Nat,(k:Int)≤x.To→∀z,A29 file R k z=z:=fun k hk z=>F00 fun c hc=>by have:=hbd c hc;omega
  have outN:∀k:Nat,(k:Int)≤x.To→R8 R k=false:=fun k hk=>I20 fun c hc=>by have:=hbd c hc;omega
  rw [A10 _ (show j≤x.To.toNat by omega) (show x.To.toNat≤base.length+1 by omega),A10 _ (show x.To.toNat≤x.To.toNat+1 by omega) (show x.To.toNat+1≤base.length+1 by omega),B38]
  by_cases h:x.From > i∨x.To > j
  ·rw [if_pos h]
   have l1:∀k,A29 file [⟨i,x.From - i,j,x.To - j⟩] k []=if k=j then (file.drop i).take (x.From.toNat - i) else []:=by
    intro k
    show (if k=(j:Int).toNat then piece file _ else [])=_
    rw [J21]
    have e3:piece file ⟨i,x.From - i,j,x.To - j⟩=(file.drop i).take (x.From.toNat - i):=by
     unfold piece
     dsimp only
     rw [J21,show ((i:Int)+(x.From - i)).toNat=x.From.toNat by omega]
    rw [e3]
   have l2:∀k,R8 [⟨i,x.From - i,j,x.To - j⟩] k=decide (j≤k∧k < x.To.toNat):=by
    intro k
    unfold R8
    simp only [List.any_cons,List.any_nil,Bool.or_false,J21]
    refine decide_eq_decide.2 ?_
    omega
   have hlow:∀k:Nat,(k:Int)≤x.To→E14 file base ([⟨i,x.From - i,j,x.To - j⟩]++R) k=(if k=j then (file.drop i).take (x.From.toNat - i) else [])++(if j≤k∧k < x.To.toNat then [] else (base[k]?).toList):=by
    intro k hk
    unfold E14
    rw [F01,outR k hk,l1,F02,outN k hk,l2,Bool.or_false]
    by_cases hq:j≤k∧k < x.To.toNat
    ·rw [decide_eq_true hq,if_pos (show true=true from rfl),if_pos hq]
    ·rw [decide_eq_false hq,if_neg (show ¬false=true by decide),if_neg hq]
   have hhigh:r8 (E14 file base ([⟨i,x.From - i,j,x.To - j⟩]++R)) (x.To.toNat+1) (base.length+1)=file.drop (x.From.toNat+1):=by
    rw [←ih]
    refine A87 fun k hk hk2=>?_
    unfold E14
    rw [F01,l1,if_neg (by omega),F02,l2,decide_eq_false (by omega),Bool.false_or]
   rw [hhigh,hlow _ (by omega),if_neg (show ¬(j≤x.To.toNat∧x.To.toNat < x.To.toNat) by omega)]
   conv=>rhs;rw [hd]
   by_cases hj:x.To.toNat=j
   ·rw [if_pos hj,hj,E99];simp
   ·rw [if_neg hj,A10 _ (show j≤j+1 by omega) (show j+1≤x.To.toNat by omega),B38,E13 (fun k hk hk2=>by rw [hlow k (by omega),if_neg (by omega),if_pos (by omega)];rfl),hlow j (by omega),if_pos rfl,if_pos (by omega)]
    simp
  ·rw [if_neg h,J43,ih]
   have e3:x.From.toNat=i:=by omega
   have e4:x.To.toNat=j:=by omega
   conv=>rhs;rw [hd]
   rw [e3,e4,E99]
   unfold E14
   rw [outR j (by omega),outN j (by omega),if_neg (by decide)]
   simp
theorem I76 (file base:List Int):r8 (E14 file base (J7 file base)) 0 (base.length+1)=file:=by
 have hasc:=T5 file base 0 0
 rw [Int.zero_add,Int.zero_add] at hasc
 have:=G52 (F0 0 0 file base) 0 0 hasc (fun x hx=>by
  obtain ⟨_,_,v,h1,h2⟩:=E83 file base 0 0 x hx
  rw [Int.sub_zero] at h1 h2
  rw [h1,h2])
 exact this
theorem G53 (ids:List (List Int)) (lines n:Nat):∀p,p≤n→∀k,((M9 ids lines n p).2 k).length=n∧∀q,((M9 ids lines n p).2 k).getD q []=if q < p then A29 (ids.getD (q+1) []) (J7 (ids.getD (q+1) []) (ids.getD 0 [])) k [] else []
 | 0,_,k=>by
  refine ⟨by simp [M9,u6],fun q=>?_⟩
  rw [if_neg (by omega)]
  show (List.replicate n []).getD q []=[]
  rw [J17,List.getElem?_replicate]
  split<;>rfl
 | p+1,hp,k=>by
  obtain ⟨h1,h2⟩:=G53 ids lines n p (by omega) k
  rw [A23]
  have e:(K7 ids (M9 ids lines n p) p).2 k=((M9 ids lines n p).2 k).set p (A29 (ids.getD (p+1) []) (J7 (ids.getD (p+1) []) (ids.getD 0 [])) k (((M9 ids lines n p).2 k).getD p [])):=G51 p _ k _ _
  rw [e,h2 p,if_neg (by omega)]
  refine ⟨by rw [J67,h1],fun q=>?_⟩
  rw [J17,List.getElem?_set]
  by_cases hq:p=q
  ·subst hq
   rw [if_pos rfl,if_pos (by omega),if_pos (by omega)];rfl
  ·rw [if_neg hq,←J17,h2 q]
   by_cases hq2:q < p
   ·rw [if_pos hq2,if_pos (by omega)]
   ·rw [if_neg hq2,if_neg (by omega)]
theorem F03 {ids:List (List Int)} {base:List Int} {n:Nat} (hb:base=ids.getD 0 []) (hl:∀x∈ids,x.length≤4096) (hbl:base.length≤4096):∀p,p≤32→∀(q k:Nat) (v:Int),(q8 ids base.length n p).1[k]?=some v→V5 v q=(decide (q < p)&&R8 (J7 (ids.getD (q+1) []) base) k)
 | 0,_,q,k,v,h=>by
  have:=List.eq_of_mem_replicate (show v∈List.replicate base.length 0 from J30 h)
  subst this
  rw [decide_eq_false (by omega),Bool.false_and]
  simp [V5]
 | p+1,hp,q,k,v,h=>by
  obtain ⟨h1,h2,h3⟩:=B53 (n:=n) hb hl hbl p (by omega)
  rw [B34] at h
  have e:(v6 ids (q8 ids base.length n p) p).1=(J7 (ids.getD (p+1) []) (ids.getD 0 [])).foldl (O0 p) (q8 ids base.length n p).1:=rfl
  rw [e,D91,←hb] at h
  cases hw:(q8 ids base.length n p).1[k]? with
  | none=>rw [hw] at h;cases h
  | some w =>
   rw [hw] at h
   have ih:=F03 (n:=n) hb hl hbl p (by omega) q k w hw
   have hlow:=h2 w (J30 hw)
   have h2p:=C46 (p:=p) (by omega)
   have h:(if R8 (J7 (ids.getD (p+1) []) base) k=true then I8 w (G4 p) else w)=v:=Option.some.inj h
   rw [←h]
   by_cases hq:p=q
   ·subst hq
    rw [decide_eq_false (Nat.lt_irrefl _),Bool.false_and] at ih
    rw [decide_eq_true (by omega),Bool.true_and]
    cases R8 (J7 (ids.getD (p+1) []) base) k
    ·rw [if_neg (by decide),ih]
    ·rw [if_pos rfl,C47 (by omega) (by omega),decide_eq_true rfl,Bool.or_true]
   ·have e2:decide (q < p+1)=decide (q < p):=by by_cases h:q < p<;>simp [h]<;>omega
    rw [e2,←ih]
    split
    ·rw [C47 (by omega) (by omega),decide_eq_false hq,Bool.or_false]
    ·rfl
end Go.AL
namespace Go.AL
open Go
theorem G54 (s:Str):∀(l:List Str) (k:Int),0≤k→s∈l→l[(G9 l s k - k).toNat]?=some s
 | [],_,_,h=>(by cases h)
 | x::r,k,hk,h=>by
  unfold G9
  by_cases hx:x=s
  ·rw [if_pos hx,Int.sub_self,hx];rfl
  ·rw [if_neg hx]
   have hm:s∈r:=by rcases List.mem_cons.1 h with rfl | h;exact absurd rfl hx;exact h
   have h1:=A70 r s (k+1) (by omega) hm
   have h2:=G54 s r (k+1) (by omega) hm
   rw [show (G9 r s (k+1) - k).toNat=(G9 r s (k+1) - (k+1)).toNat+1 by omega,List.getElem?_cons_succ]
   exact h2
def B39 (names:List Str) (v:Int):Str:=names.getD v.toNat []
theorem H65 {names:List Str} {s:Str} (h:s∈names):B39 names (G9 names s 0)=s:=by
 have:=G54 s names 0 (Int.le_refl _) h
 rw [Int.sub_zero] at this
 unfold B39
 rw [J17,this];rfl
theorem H23 {names f:List Str} (h:∀s∈f,s∈names):(J6 names f).map (B39 names)=f:=by
 unfold J6
 rw [J44]
 conv=>rhs;rw [←List.map_id f]
 exact List.map_congr_left fun s hs=>H65 (h s hs)
theorem F04 (G:Nat→List Row) (a b:Nat) (c:Int):M8 (r8 G a b) c=r8 (fun k=>M8 (G k) c) a b:=by
 unfold M8 r8
 rw [List.filter_flatten,List.map_flatten,J44,J44];rfl
theorem C80 (a b:List Row) (c:Int):M8 (a++b) c=M8 a c++M8 b c:=by unfold M8;rw [J64,J28]
theorem E15 (w:Row) {q:Nat} (hq:q < 32):b9 w q=(V5 w.Marks q == w.Lost):=by
 rw [b9,if_neg (by omega),if_neg (by omega),J21]
theorem G55 (f:Int→Str) {q:Nat} (hq:q < 32):∀l:List Merged,M8 (l.map fun m=>(⟨true,m.Parents,f m.Line⟩:Row)) q=(m3 q l).map f
 | []=>rfl
 | m::r=>by
  have ih:=G55 f hq r
  unfold M8 m3 E6 at ih ⊢
  rw [J24,J61,J61,E15 _ hq]
  dsimp only
  rw [show (V5 m.Parents q == true)=V5 m.Parents q by simp]
  cases V5 m.Parents q
  ·rw [if_neg (by decide),if_neg (by decide)];exact ih
  ·rw [if_pos rfl,if_pos rfl,J24,J24,J24,ih]
theorem I21 (f:Int→Str) (l:List Merged):M8 (l.map fun m=>(⟨true,m.Parents,f m.Line⟩:Row)) (-1)=[]:=by
 unfold M8
 rw [List.filter_eq_nil_iff.2]
 ·rfl
 ·intro w hw
  obtain ⟨m,_,rfl⟩:=List.mem_map.1 hw
  simp [b9]
structure Made16 (x:Str) (r:List Str) (rows:List Row):Prop where
 res:M8 rows (-1)=B8 x
 par:∀q,q < r.length→M8 rows q=B8 (r.getD q [])
 marks:P6 rows r.length=true
 texts:∀w∈rows,K3 w.Text=true
theorem D12 {x:Str} {r:List Str} (hx:(B8 x).length≤4096) (hr:∀b∈r,(B8 b).length≤4096) (h:(F3 x r).2=0) :
  (1≤r.length∧r.length≤32)∧(F3 x r).1.Parents=r.length∧Made16 x r (F3 x r).1.Rows:=by
 by_cases hn:r.length < 1∨32 < r.length
 ·rw [F3,if_pos hn] at h;cases h
 obtain ⟨F,hF⟩:∃F,F=B8 x:=⟨_,rfl⟩
 obtain ⟨N,hN⟩:∃N,N=D8 (F::r.map B8):=⟨_,rfl⟩
 obtain ⟨ids,hids⟩:∃ids,ids=(F::r.map B8).map (J6 N):=⟨_,rfl⟩
 obtain ⟨s,hs⟩:∃s,s=M9 ids F.length r.length r.length:=⟨_,rfl⟩
 have hm:F3 x r=if ∃k,k < F.length+1∧(D9 (s.2 k)).2≠0 then (⟨0,[]⟩,1) else (⟨r.length,S3 N F s (F.length+1)⟩,0):=by
  rw [F3,if_neg hn,hs,hids,hN,hF]
 rw [hm] at h ⊢
 split at h
 ·cases h
 rename_i hno
 rw [if_neg hno]
 have hz:∀k,k < F.length+1→(D9 (s.2 k)).2=0:=fun k hk=>Classical.byContradiction fun hc=>hno ⟨k,hk,hc⟩
 refine ⟨by omega,rfl,?_⟩
 dsimp only
 have hrun:S3 N F s (F.length+1)=r8 (P0 N F s) 0 (F.length+1):=by
  unfold S3 r8
  rw [Nat.sub_zero]
  congr 1
  exact List.map_congr_left fun t _=>by rw [Nat.zero_add]
 rw [hrun]
 have hmem:∀f∈F::r.map B8,∀t∈f,t∈N:=fun f hf t ht=>by rw [hN];exact B24 _ t f hf ht
 have hlok:∀f∈F::r.map B8,f.length≤4096∧∀t∈f,K3 t=true:=by
  intro f hf
  rcases List.mem_cons.1 hf with rfl | hf
  ·rw [hF];exact ⟨hx,(A79 x).1⟩
  ·obtain ⟨b,hb,rfl⟩:=List.mem_map.1 hf
   exact ⟨hr b hb,(A79 b).1⟩
 have hil:∀z∈ids,z.length≤4096:=by
  intro z hz
  rw [hids] at hz
  obtain ⟨f,hf,rfl⟩:=List.mem_map.1 hz
  rw [J6,J29];exact (hlok f hf).1
 obtain ⟨base,hb⟩:∃base,base=J6 N F:=⟨_,rfl⟩
 have hb0:base=ids.getD 0 []:=by rw [hb,hids];rfl
 have hbl:base.length=F.length:=by rw [hb,J6,J29]
 have hFl:F.length≤4096:=(hlok F (by simp)).1
 obtain ⟨p1,p2,p3⟩:=B53 (n:=r.length) hb0 hil (by omega) r.length (by omega)
 rw [hbl] at p1 p2 p3
 rw [←hs] at p1
 rw [p1] at p2 p3
 have hmark:=F03 (n:=r.length) hb0 hil (by omega) r.length (by omega)
 rw [hbl,p1] at hmark
 have hgap:=G53 ids F.length r.length r.length (Nat.le_refl _)
 rw [←hs] at hgap
 have hco:=fun k hk=>D20 (hz k hk)
 have hspec:LoomOk (fun v=>0≤v∧v < (N.length:Int)) 4096 F.length r.length s:=by
  rw [hs]
  refine y5 (fun z hz=>⟨hil z hz,fun v hv=>?_⟩) _
  rw [hids,hN] at hz
  rw [hN]
  exact H01 _ z hz v hv
 have hkeep:∀k,k < F.length→∃v,s.1[k]?=some v∧s.1.getD k 0=v∧0≤v∧v < ((2 ^ r.length:Nat):Int):=by
  intro k hk
  refine ⟨s.1[k]'(by omega),J14 _,?_,p2 _ (J26 _)⟩
  rw [J17,J14 (by omega)];rfl
 have hrow:∀w∈r8 (P0 N F s) 0 (F.length+1),T6 r.length w=true∧K3 w.Text=true:=by
  intro w hw
  unfold r8 at hw
  obtain ⟨l,hl,hwl⟩:=List.mem_flatten.1 hw
  obtain ⟨k,hk,rfl⟩:=List.mem_map.1 hl
  have hk:=List.mem_range.1 hk
  rw [Nat.zero_add] at hwl
  have hpw:((2 ^ r.length:Nat):Int)=2 ^ r.length:=by simp
  unfold P0 at hwl
  rcases List.mem_append.1 hwl with hwl | hwl
  ·obtain ⟨m,hmm,rfl⟩:=List.mem_map.1 hwl
   have h1:=(hco k (by omega)).1 m hmm
   rw [(hgap k).1] at h1
   have h2:=((s7 _ 4096 (s.2 k) (hspec.gaps k).2).2 m hmm).2
   refine ⟨?_,?_⟩
   ·unfold T6
    dsimp only
    rw [Int.ediv_eq_zero_of_lt (by omega) (by omega)]
    have:(m.Parents == 0)=false:=by rw [beq_eq_false_iff_ne];omega
    rw [this];decide
   ·show K3 (N.getD m.Line.toNat [])=true
    have h3:m.Line.toNat < N.length:=by omega
    rw [J17,J14 h3]
    have h4:N[m.Line.toNat]∈D8 (F::r.map B8):=by rw [←hN];exact J26 h3
    obtain ⟨f,hf,ht⟩:=List.mem_flatten.1 (C96 _ _ h4)
    exact (hlok f hf).2 _ ht
  ·split at hwl
   ·rename_i hkF
    rw [List.mem_singleton] at hwl
    subst hwl
    obtain ⟨v,_,g2,g3,g4⟩:=hkeep k hkF
    refine ⟨?_,?_⟩
    ·unfold T6
     dsimp only
     rw [g2,Int.ediv_eq_zero_of_lt g3 (by omega)];rfl
    ·show K3 (F.getD k [])=true
     rw [J17,J14 hkF]
     exact (hlok F (by simp)).2 _ (J26 hkF)
   ·cases hwl
 have hid:∀(z:List Str) (k:Nat) (h:k < z.length),z.getD k []=z[k]:=fun z k h=>by rw [J17,J14 h];rfl
 refine ⟨?_,fun q hq=>?_,List.all_eq_true.2 fun w hw=>(hrow w hw).1,fun w hw=>(hrow w hw).2⟩
 ·rw [F04,←hF]
  have:=G50 F F.length 0 (by omega)
  rw [List.drop_zero] at this
  conv=>rhs;rw [←this]
  refine A87 fun k _ hk=>?_
  unfold P0
  rw [C80,show (fun m:Merged=>(⟨true,m.Parents,N.getD m.Line.toNat []⟩:Row))=fun m=>⟨true,m.Parents,B39 N m.Line⟩ from rfl,I21,J43]
  by_cases hkF:k < F.length
  ·rw [if_pos hkF,J14 hkF,hid F k hkF];rfl
  ·rw [if_neg hkF,J39 (by omega)];rfl
 ·obtain ⟨file,hfile⟩:∃file,file=ids.getD (q+1) []:=⟨_,rfl⟩
  have hfq:file=J6 N (B8 (r.getD q [])):=by
   rw [hfile,hids,hid r q hq,J17,J24,List.getElem?_cons_succ,J40,J40,J14 hq];rfl
  have hback:file.map (B39 N)=B8 (r.getD q []):=by
   rw [hfq]
   refine H23 fun t ht=>hmem _ (List.mem_cons_of_mem _ (List.mem_map_of_mem ?_)) t ht
   rw [hid r q hq];exact J26 hq
  have hcol:=I76 file base
  rw [F04,←hback]
  conv=>rhs;rw [←hcol,←I75,hbl]
  refine A87 fun k _ hk=>?_
  have hgk:=(hgap k).2 q
  rw [if_pos hq,←hfile,←hb0] at hgk
  have hck:=(hco k hk).2 q (by rw [(hgap k).1];exact hq)
  unfold P0 E14
  rw [C80,show (fun m:Merged=>(⟨true,m.Parents,N.getD m.Line.toNat []⟩:Row))=fun m=>⟨true,m.Parents,B39 N m.Line⟩ from rfl,G55 (B39 N) (by omega),hck,hgk,J28]
  congr 1
  by_cases hkF:k < F.length
  ·obtain ⟨v,g1,g2,_⟩:=hkeep k hkF
   have hmk:=hmark q k v g1
   rw [decide_eq_true hq,Bool.true_and,←hfile] at hmk
   rw [if_pos hkF,g2]
   unfold M8
   rw [J61,E15 _ (by omega)]
   dsimp only
   rw [hmk]
   cases R8 (J7 file base) k
   ·rw [if_pos (show (false == false)=true from rfl),if_neg (show ¬false=true by decide)]
    have hbk:base[k]?=some (G9 N F[k] 0):=by rw [hb,J6,J40,J14 hkF];rfl
    rw [hbk,hid F k hkF]
    show [F[k]]=[B39 N (G9 N F[k] 0)]
    rw [H65 (hmem F (by simp) _ (J26 hkF))]
   ·rw [if_neg (show ¬(true == false)=true by decide),if_pos (show true=true from rfl)];rfl
  ·rw [if_neg hkF,J39 (by omega)]
   split<;>rfl
theorem Made16.texts16 {x:Str} {r:List Str} {rows:List Row} (h:Made16 x r rows):j7 rows r.length=true:=by
 unfold j7
 rw [J18]
 refine ⟨List.all_eq_true.2 h.texts,List.all_eq_true.2 fun k hk=>?_⟩
 have hk:=List.mem_range.1 hk
 have hl:=fun b=>A82 (B8 b) (A79 b).1 (A79 b).2
 cases k with
 | zero=>rw [show ((0:Nat):Int) - 1 = -1 from rfl,h.res];exact hl x
 | succ q =>
  rw [show ((q+1:Nat):Int) - 1=(q:Int) by omega,h.par q (by omega)];exact hl _
theorem F57 {x:Str} {r:List Str} (hx:(B8 x).length≤4096) (hr:∀b∈r,(B8 b).length≤4096) (h:(F3 x r).2=0):J2 (F3 x r).1=0:=by
 obtain ⟨h1,h2,h3⟩:=D12 hx hr h
 unfold J2
 rw [h2,if_neg (by omega),J21,h3.marks,if_neg (by decide),h3.texts16,if_neg (by decide)]
theorem G56 {x:Str} {r:List Str} {B:Nat} (hn:1≤r.length∧r.length≤32) (hx:(B8 x).length≤B) (hr:∀b∈r,(B8 b).length≤B) (h:r.length*B≤4096):(F3 x r).2=0:=by
 unfold F3
 rw [if_neg (by omega)]
 dsimp only
 rw [if_neg]
 rintro ⟨k,_,hk⟩
 refine hk ?_
 have hok:=(y5 (Q:=fun _=>True) (B:=B) (lines:=(B8 x).length) (n:=r.length) (ids:=(B8 x::r.map B8).map (J6 (D8 (B8 x::r.map B8)))) (fun z hz=>by
  obtain ⟨f,hf,rfl⟩:=List.mem_map.1 hz
  refine ⟨?_,fun _ _=>trivial⟩
  rw [J6,J29]
  rcases List.mem_cons.1 hf with rfl | hf
  ·exact hx
  ·obtain ⟨b,hb,rfl⟩:=List.mem_map.1 hf
   exact hr b hb) r.length).gaps k
 exact D21 (B:=B) (fun z hz=>(hok.2 z hz).1) (by rw [hok.1];exact hn.2) (by rw [hok.1];exact h)
end Go.AL
namespace Go.AL
open Go
def CutSp (m:Nat):Int→List Span→Prop
 | _,[]=>True
 | e,s::r=>e≤s.From∧s.From < s.To∧s.To≤m∧CutSp m s.To r
def endOf (e:Int):List Span→Int
 | []=>e
 | s::r=>endOf s.To r
theorem CutSp.mono {m m':Nat} (hm:m≤m'):∀{sp:List Span} {e:Int},CutSp m e sp→CutSp m' e sp
 | [],_,_=>trivial
 | s::r,e,h=>⟨h.1,h.2.1,by have:=h.2.2.1;omega,CutSp.mono hm h.2.2.2⟩
theorem CutSp.end_le {m:Nat}:∀{sp:List Span} {e:Int},CutSp m e sp→e≤m→endOf e sp≤m
 | [],_,_,he=>he
 | s::r,_,h,_=>CutSp.end_le (sp:=r) (e:=s.To) h.2.2.2 h.2.2.1
theorem cutSp_snoc {m:Nat} {s:Span}:∀{sp:List Span} {e:Int},CutSp m e (sp++[s])↔CutSp m e sp∧endOf e sp≤s.From∧s.From < s.To∧s.To≤m
 | [],e=>⟨fun h=>⟨trivial,h.1,h.2.1,h.2.2.1⟩,fun h=>⟨h.2.1,h.2.2.1,h.2.2.2,trivial⟩⟩
 | x::r,e=>by
  have ih:=cutSp_snoc (m:=m) (s:=s) (sp:=r) (e:=x.To)
  constructor
  ·intro h
   obtain ⟨h1,h2⟩:=ih.1 h.2.2.2
   exact ⟨⟨h.1,h.2.1,h.2.2.1,h1⟩,h2⟩
  ·rintro ⟨h1,h2⟩
   exact ⟨h1.1,h1.2.1,h1.2.2.1,ih.2 ⟨h1.2.2.2,h2⟩⟩
theorem G57:∀(l:List Bool) (i:Nat) (p:Bool) (out:List Span),CutSp i 0 out→(p=true→∃o a,out=o++[⟨a,i⟩])→CutSp (i+l.length) 0 (A38 l i p out)
 | [],i,p,out,h,_=>h
 | b :: r,i,p,out,h,hp=>by
  rw [A38,J16,show i+(r.length+1)=i+1+r.length by omega]
  have key:(b=true→∃o a,(if b=true then Y7 (if p=true then out else out++[⟨i,i⟩]) ((i:Int)+1) else out)=o++[⟨a,((i+1:Nat):Int)⟩])∧CutSp (i+1) 0 (if b=true then Y7 (if p=true then out else out++[⟨i,i⟩]) ((i:Int)+1) else out):=by
   cases b
   ·exact ⟨fun hb=>(by cases hb),h.mono (by omega)⟩
   ·rw [if_pos rfl]
    cases p
    ·rw [if_neg (by decide),b8]
     refine ⟨fun _=>⟨out,i,by rw [show ((i+1:Nat):Int)=(i:Int)+1 by omega]⟩,?_⟩
     have:=h.end_le (by omega)
     exact cutSp_snoc.2 ⟨h.mono (by omega),this,by dsimp only;omega,by dsimp only;omega⟩
    ·obtain ⟨o,a,rfl⟩:=hp rfl
     rw [if_pos rfl,b8]
     refine ⟨fun _=>⟨o,a,by rw [show ((i+1:Nat):Int)=(i:Int)+1 by omega]⟩,?_⟩
     obtain ⟨h1,h2,h3,h4⟩:=cutSp_snoc.1 h
     dsimp only at h2 h3 h4
     exact cutSp_snoc.2 ⟨h1.mono (by omega),h2,by dsimp only;omega,by dsimp only;omega⟩
  exact G57 r (i+1) b _ key.2 key.1
theorem I22 (l:List Bool):CutSp l.length 0 (P7 l):=by
 have:=G57 l 0 false [] trivial (fun h=>by cases h)
 rwa [Nat.zero_add] at this
def cutH (n:Nat) (rows:List Row) (s:Span):CHunk:=⟨F7 (rows.take s.From.toNat) n,(rows.drop s.From.toNat).take (s.To.toNat - s.From.toNat)⟩
def U0 (n:Nat) (rows:List Row) (sp:List Span):List CHunk:=sp.map (cutH n rows)
theorem E16 (n:Nat) (rows:List Row):∀(sp:List Span) (e:Int) (hs:List CHunk),CutSp rows.length e sp→n4 n rows e hs sp=some (hs++U0 n rows sp)
 | [],_,hs,_=>by simp [n4,U0]
 | s::r,e,hs,h=>by
  obtain ⟨h1,h2,h3,h4⟩:=h
  rw [n4,if_neg (by omega),E16 n rows r _ _ h4]
  simp [U0,cutH]
theorem E17 (a b:List Row) (n k:Nat):N7 (a++b) n k=N7 a n k+N7 b n k:=by
 unfold N7;rw [C80,J15];omega
theorem F58 (a:List Row) (n k:Nat):0≤N7 a n k∧N7 a n k≤a.length:=by
 have:=C65 a (x1 n k)
 unfold N7;omega
theorem C81 (rows:List Row) (n k:Nat) (h:k < n+1):(F7 rows n).getD k 0=N7 rows n k:=A08 _ _ _ h
theorem C00 {α:Type} (rows:List α) {a b:Nat} (h:a≤b):rows.take b=rows.take a++(rows.drop a).take (b - a):=by
 have:=List.take_add (l:=rows) (i:=a) (j:=b - a)
 rwa [show a+(b - a)=b by omega] at this
theorem I77 (n:Nat) (rows:List Row) {s:Span} (h1:0≤s.From) (h2:s.From < s.To):T9 n (cutH n rows s)=F7 (rows.take s.To.toNat) n:=by
 unfold T9 F7
 refine List.map_congr_left fun k hk=>?_
 have hk:=List.mem_range.1 hk
 show (F7 (rows.take s.From.toNat) n).getD k 0+N7 ((rows.drop s.From.toNat).take (s.To.toNat - s.From.toNat)) n k=_
 rw [C81 _ _ _ hk,←E17,←C00 rows (by omega)]
theorem E18 (n:Nat) {rows:List Row} (hl:rows.length≤4096):∀(sp:List Span) (e:Int),0≤e→CutSp rows.length e sp→Y5 n (F7 (rows.take e.toNat) n) (U0 n rows sp)=true
 | [],_,_,_=>rfl
 | s::r,e,he,h=>by
  obtain ⟨h1,h2,h3,h4⟩:=h
  show (B96 n (F7 (rows.take e.toNat) n) (cutH n rows s)&&Y5 n (T9 n (cutH n rows s)) (U0 n rows r))=true
  rw [I77 n rows (by omega) h2,E18 n hl r s.To (by omega) h4,Bool.and_true]
  unfold B96
  rw [J18]
  refine ⟨decide_eq_true ⟨E02 _ _,fun hc=>?_⟩,List.all_eq_true.2 fun k hk=>decide_eq_true ?_⟩
  ·have:((rows.drop s.From.toNat).take (s.To.toNat - s.From.toNat)).length=0:=by
    rw [show (rows.drop s.From.toNat).take (s.To.toNat - s.From.toNat)=[] from hc];rfl
   rw [J36,J31] at this
   omega
  ·have hk:=List.mem_range.1 hk
   show ((F7 (rows.take e.toNat) n).getD k 0≤(F7 (rows.take s.From.toNat) n).getD k 0∧(F7 (rows.take s.From.toNat) n).getD k 0≤4096)∧(F7 (rows.take s.From.toNat) n).getD k 0+N7 ((rows.drop s.From.toNat).take (s.To.toNat - s.From.toNat)) n k≤4096
   rw [C81 _ _ _ hk,C81 _ _ _ hk,←E17,←C00 rows (by omega)]
   have g1:=E17 (rows.take e.toNat) ((rows.drop e.toNat).take (s.From.toNat - e.toNat)) n k
   rw [←C00 rows (by omega)] at g1
   have g2:=F58 ((rows.drop e.toNat).take (s.From.toNat - e.toNat)) n k
   have g3:=F58 (rows.take s.From.toNat) n k
   have g4:=F58 (rows.take s.To.toNat) n k
   rw [J36] at g3 g4
   omega
theorem D13 (n:Nat) (rows:List Row):∀(sp:List Span) (e:Int),0≤e→CutSp rows.length e sp→(l6 (U0 n rows sp)).Sublist (rows.drop e.toNat)
 | [],_,_,_=>List.nil_sublist _
 | s::r,e,he,h=>by
  obtain ⟨h1,h2,h3,h4⟩:=h
  have ih:=D13 n rows r s.To (by omega) h4
  show ((rows.drop s.From.toNat).take (s.To.toNat - s.From.toNat)++l6 (U0 n rows r)).Sublist _
  have e1:rows.drop e.toNat=(rows.drop e.toNat).take (s.From.toNat - e.toNat)++((rows.drop s.From.toNat).take (s.To.toNat - s.From.toNat)++rows.drop s.To.toNat):=by
   rw [←A09 rows (show s.From.toNat≤s.To.toNat by omega)]
   exact A09 rows (by omega)
  rw [e1]
  exact (List.Sublist.append (List.Sublist.refl _) ih).trans (List.sublist_append_right _ _)
theorem E19:∀{l:List Str},B21 l=true→(∀s∈l,K3 s=true)∧R7 l=true
 | [],_=>⟨fun s hs=>(by cases hs),rfl⟩
 | x::r,h=>by
  rw [C97,J18,J18] at h
  obtain ⟨⟨h1,h2⟩,h3⟩:=h
  obtain ⟨i1,i2⟩:=E19 h3
  refine ⟨fun s hs=>?_,?_⟩
  ·rcases List.mem_cons.1 hs with rfl | hs
   ·exact h1
   ·exact i1 s hs
  ·show ((r.isEmpty||ended x)&&R7 r)=true
   rw [h2,i2];rfl
theorem I23 {a b:List Row} {n:Nat} (hs:a.Sublist b) (h:j7 b n=true):j7 a n=true:=by
 unfold j7 at h ⊢
 rw [J18] at h ⊢
 obtain ⟨h1,h2⟩:=h
 refine ⟨List.all_eq_true.2 fun r hr=>List.all_eq_true.1 h1 r (hs.subset hr),List.all_eq_true.2 fun k hk=>?_⟩
 have h3:=E19 (List.all_eq_true.1 h2 k hk)
 have h4:(M8 a ((k:Int) - 1)).Sublist (M8 b ((k:Int) - 1)):=by unfold M8;exact (hs.filter _).map _
 exact A82 _ (fun s hs=>h3.1 s (h4.subset hs)) (A78 h4 h3.2)
theorem B79 {t:Table} (h:J2 t=0):(1≤t.Parents∧t.Parents≤32)∧P6 t.Rows t.Parents.toNat=true∧j7 t.Rows t.Parents.toNat=true:=by
 unfold J2 at h
 split at h
 ·cases h
 ·rename_i h1
  split at h
  ·cases h
  ·rename_i h2
   split at h
   ·cases h
   ·rename_i h3
    exact ⟨by omega,by simpa using h2,by simpa using h3⟩
theorem H24 {path:Str} {t:Table} {sp:List Span} {d:Bool} (hn:R6 path=true) (hc:J2 t=0) (hl:t.Rows.length≤4096) (hsp:CutSp t.Rows.length 0 sp)
  (hW:4*path.length+48+926*t.Rows.length+(t.Rows.map (C78 t.Parents.toNat)).sum≤16777216) :
  Y6 path t sp d=(⟨path,d,t.Parents,U0 t.Parents.toNat t.Rows sp⟩,0)∧L5 ⟨path,d,t.Parents,U0 t.Parents.toNat t.Rows sp⟩=0∧(A37 ⟨path,d,t.Parents,U0 t.Parents.toNat t.Rows sp⟩).length≤4*path.length+48+926*t.Rows.length+(t.Rows.map (C78 t.Parents.toNat)).sum:=by
 obtain ⟨h1,h2,h3⟩:=B79 hc
 have hgo:=E16 t.Parents.toNat t.Rows sp 0 [] hsp
 rw [J43] at hgo
 have hsub:=D13 t.Parents.toNat t.Rows sp 0 (Int.le_refl _) hsp
 rw [show (0:Int).toNat=0 from rfl,List.drop_zero] at hsub
 have hw:=I64 ⟨path,d,t.Parents,U0 t.Parents.toNat t.Rows sp⟩
 have hg:=F55 (C78 t.Parents.toNat) (28*(t.Parents.toNat+1)+2) t.Parents.toNat t.Rows sp 0 [] _ (Int.le_refl _) hgo (by simp) (by simp)
 have hlen:(U0 t.Parents.toNat t.Rows sp).length≤t.Rows.length:=by have:=hg.2;simpa using this
 have hmul:(28*(t.Parents.toNat+1)+2)*(U0 t.Parents.toNat t.Rows sp).length≤926*t.Rows.length:=Nat.mul_le_mul (by omega) hlen
 have hsz:(A37 ⟨path,d,t.Parents,U0 t.Parents.toNat t.Rows sp⟩).length≤4*path.length+48+926*t.Rows.length+(t.Rows.map (C78 t.Parents.toNat)).sum:=by
  have:=hg.1
  dsimp only at hw
  omega
 have hck:L5 ⟨path,d,t.Parents,U0 t.Parents.toNat t.Rows sp⟩=0:=by
  unfold L5
  dsimp only
  have m1:q9 t.Parents.toNat (U0 t.Parents.toNat t.Rows sp)=true:=by
   unfold q9
   refine List.all_eq_true.2 fun h hh=>List.all_eq_true.2 fun r hr=>List.all_eq_true.1 h2 r (hsub.subset ?_)
   exact List.mem_flatten.2 ⟨h.Rows,List.mem_map_of_mem hh,hr⟩
  have m2:V7 t.Parents.toNat (U0 t.Parents.toNat t.Rows sp)=true:=by
   unfold V7
   have e0:List.replicate (t.Parents.toNat+1) 0=F7 (t.Rows.take (0:Int).toNat) t.Parents.toNat:=by
    unfold F7
    refine List.ext_getElem (by simp) fun k h1 h2=>?_
    simp [N7,M8]
   rw [e0,E18 _ hl sp 0 (Int.le_refl _) hsp,I23 hsub h3];rfl
  rw [if_neg (by rw [hn];decide),if_neg (by omega),m1,if_neg (by decide),m2,if_neg (by decide),if_neg (by omega)]
 refine ⟨?_,hck,hsz⟩
 unfold Y6
 rw [if_neg (by rw [hn];decide),hc,if_neg (by decide),hgo]
 dsimp only
 rw [hck,if_neg (by decide)]
theorem F59 {t:Table} {ctx:Int} (d:Bool) (hc:J2 t=0) (h:0≤ctx∧ctx≤1048576):(O1 t ctx d).2=0∧CutSp t.Rows.length 0 (O1 t ctx d).1:=by
 have hi:(H1 t d).2=0:=by
  unfold H1 r7
  rw [hc,if_neg (show ¬(0:Int)≠0 by decide)]
  rfl
 unfold O1
 rw [hi,if_neg (by decide),if_neg (by omega)]
 refine ⟨rfl,?_⟩
 have:=I22 ((List.range t.Rows.length).map (Q9 (H1 t d).1 ctx))
 rwa [J29,J60] at this
end Go.AL
namespace Go.AL
open Go
def W6 (m:Nat):List Span:=if 0 < m then [⟨0,m⟩] else []
theorem G58 (m:Nat):CutSp m 0 (W6 m):=by
 unfold W6
 split
 ·exact ⟨Int.le_refl _,by dsimp only;omega,Int.le_refl _,trivial⟩
 ·trivial
theorem H25 (n:Nat):F7 [] n=List.replicate (n+1) 0:=by
 unfold F7
 refine List.ext_getElem (by simp) fun k h1 h2=>?_
 simp [N7,M8]
theorem E20 (n:Nat) (rows:List Row):U0 n rows (W6 rows.length)=if 0 < rows.length then [⟨List.replicate (n+1) 0,rows⟩] else []:=by
 unfold W6
 by_cases h:0 < rows.length
 ·rw [if_pos h,if_pos h]
  unfold U0 cutH
  simp [H25]
 ·rw [if_neg h,if_neg h];rfl
theorem C82:∀(l:List Bool) (i:Nat) (p:Bool) (out:List Span),(∀b∈l,b=false)→A38 l i p out=out
 | [],_,_,_,_=>rfl
 | b::r,i,p,out,h=>by
  rw [A38,h b (by simp),if_neg (by decide)]
  exact C82 r _ _ _ fun c hc=>h c (by simp [hc])
theorem G59:∀(l:List Bool) (i:Nat),(∀b∈l,b=true)→A38 l i true [⟨0,i⟩]=[⟨0,((i+l.length:Nat):Int)⟩]
 | [],i,_=>rfl
 | b::r,i,h=>by
  rw [A38,h b (by simp),if_pos rfl,if_pos rfl]
  have:=G59 r (i+1) fun c hc=>h c (by simp [hc])
  have e:Y7 [(⟨0,i⟩:Span)] ((i:Int)+1)=[⟨0,((i+1:Nat):Int)⟩]:=by
   have:=b8 [] 0 i ((i:Int)+1)
   rw [J43,J43] at this
   rw [this,show ((i+1:Nat):Int)=(i:Int)+1 by omega]
  rw [e,this,J16,show i+1+r.length=i+(r.length+1) by omega]
theorem I24 {l:List Bool} (h:∀b∈l,b=true):P7 l=W6 l.length:=by
 cases l with
 | nil=>rfl
 | cons b r =>
  unfold P7 W6
  rw [if_pos (by simp),A38,h b (by simp),if_pos rfl,if_neg (by decide),b8,J43]
  have:=G59 r 1 fun c hc=>h c (by simp [hc])
  rw [show ((0:Nat):Int)+1=((1:Nat):Int) from rfl,show ((0:Nat):Int)=0 from rfl,this,J16,show 1+r.length=r.length+1 by omega]
theorem I78 {out:List Span} {v:Int} (h:out≠[]):Y7 out v≠[]:=by
 unfold Y7
 rw [List.getLast?_eq_some_getLast h]
 simp
theorem F60:∀(l:List Bool) (i:Nat) (p:Bool) (out:List Span),(p=true→out≠[])→(out≠[]∨true∈l)→A38 l i p out≠[]
 | [],_,_,_,_,h=>by
  rcases h with h | h
  ·exact h
  ·cases h
 | b::r,i,p,out,hp,h=>by
  rw [A38]
  cases b
  ·rw [if_neg (by decide)]
   refine F60 r _ _ _ (fun h=>by cases h) ?_
   rcases h with h | h
   ·exact .inl h
   ·rcases List.mem_cons.1 h with h | h
    ·cases h
    ·exact .inr h
  ·rw [if_pos rfl]
   have hne:Y7 (if p=true then out else out++[⟨i,i⟩]) ((i:Int)+1)≠[]:=by
    refine I78 ?_
    cases p
    ·rw [if_neg (by decide)];simp
    ·rw [if_pos rfl];exact hp rfl
   exact F60 r _ _ _ (fun _=>hne) (.inl hne)
theorem I25 {n:Nat} {r:Row} (h:T6 n r=true):S4 r=true↔r.Marks=0:=by
 have h1:=(A83 h).2.2
 unfold S4
 cases hl:r.Lost
 ·simp
 ·have:=h1 hl
  simp [this]
theorem H26 {t:Table} (hc:J2 t=0) (hl:t.Rows.length≤4096):(O1 t 1048576 false).2=0∧(O1 t 1048576 false).1=if ∃r∈t.Rows,r.Marks≠0 then W6 t.Rows.length else []:=by
 obtain ⟨_,hm,_⟩:=B79 hc
 have hbl:∀r∈t.Rows,(S4 r=true↔r.Marks=0):=fun r hr=>I25 (List.all_eq_true.1 hm r hr)
 have hi:H1 t false=(P7 (t.Rows.map fun r=>!S4 r),0):=by
  unfold H1 r7
  rw [hc,if_neg (show ¬(0:Int)≠0 by decide),if_neg (show ¬(0:Int)≠0 by decide)]
  simp
 unfold O1
 rw [hi]
 dsimp only
 rw [if_neg (by decide),if_neg (by decide)]
 refine ⟨rfl,?_⟩
 dsimp only
 by_cases hs:∃r∈t.Rows,r.Marks≠0
 ·rw [if_pos hs]
  obtain ⟨r,hr,hr2⟩:=hs
  have hne:P7 (t.Rows.map fun r=>!S4 r)≠[]:=by
   refine F60 _ _ _ _ (fun h=>by cases h) (.inr ?_)
   refine List.mem_map.2 ⟨r,hr,?_⟩
   cases hb:S4 r
   ·rfl
   ·exact absurd ((hbl r hr).1 hb) hr2
  have hin:=C45 (t.Rows.map fun r=>!S4 r)
  rw [J29] at hin
  obtain ⟨s,hs⟩:=List.exists_mem_of_ne_nil _ hne
  have h1:=hin.2 s hs
  have:=I24 (l:=(List.range t.Rows.length).map (Q9 (P7 (t.Rows.map fun r=>!S4 r)) 1048576)) (by
   intro b hb
   obtain ⟨k,hk,rfl⟩:=List.mem_map.1 hb
   have hk:=List.mem_range.1 hk
   unfold Q9
   rw [List.any_eq_true]
   exact ⟨s,hs,decide_eq_true (by omega)⟩)
  rw [this,J29,J60]
 ·rw [if_neg hs]
  have hz:P7 (t.Rows.map fun r=>!S4 r)=[]:=by
   refine C82 _ _ _ _ fun b hb=>?_
   obtain ⟨r,hr,rfl⟩:=List.mem_map.1 hb
   have:r.Marks=0:=Classical.byContradiction fun h=>hs ⟨r,hr,h⟩
   rw [(hbl r hr).2 this];rfl
  rw [hz]
  refine C82 _ _ _ _ fun b hb=>?_
  obtain ⟨k,_,rfl⟩:=List.mem_map.1 hb
  rfl
end Go.AL
namespace Go.AL
open Go
def A49 (f:Nat→Nat):Nat→Nat
 | 0=>0
 | m+1=>A49 f m+f m
theorem E21 {f g:Nat→Nat}:∀{m:Nat},(∀k,f k≤g k)→A49 f m≤A49 g m
 | 0,_=>Nat.le_refl _
 | m+1,h=>by
  have h1:=E21 (f:=f) (g:=g) (m:=m) h
  have h2:=h m
  show A49 f m+f m≤A49 g m+g m
  omega
theorem F05 {f g:Nat→Nat} {k0:Nat} (h:∀k,f k≤g k) (h0:f k0+1≤g k0):∀{m:Nat},k0 < m→A49 f m+1≤A49 g m
 | 0,hm=>absurd hm (Nat.not_lt_zero _)
 | m+1,hm=>by
  show A49 f m+f m+1≤A49 g m+g m
  by_cases hk:k0=m
  ·subst hk
   have:=E21 (f:=f) (g:=g) (m:=k0) h
   omega
  ·have h1:=F05 h h0 (m:=m) (by omega)
   have h2:=h m
   omega
theorem I26 {n:Nat} (hn:n≤32) {r:Row} (h:T6 n r=true):∃k,k < n+1∧b9 r ((k:Int) - 1)=true:=by
 obtain ⟨h1,h2,h3⟩:=A83 h
 cases hl:r.Lost
 ·exact ⟨0,by omega,by rw [show ((0:Nat):Int) - 1 = -1 from rfl,b9,if_pos rfl,hl];rfl⟩
 ·have h4:=h3 hl
  obtain ⟨m,hm⟩:∃m:Nat,r.Marks=m:=⟨r.Marks.toNat,by omega⟩
  have h5:((2 ^ n:Nat):Int)=2 ^ n:=by simp
  have hm0:m≠0:=by omega
  obtain ⟨q,hq⟩:=Nat.exists_testBit_of_ne_zero hm0
  have hqn:q < n:=by
   refine Classical.byContradiction fun hc=>?_
   have:m < 2 ^ n:=by omega
   rw [Nat.testBit_lt_two_pow (Nat.lt_of_lt_of_le this (Nat.pow_le_pow_right (by decide) (by omega)))] at hq
   cases hq
  refine ⟨q+1,by omega,?_⟩
  rw [show ((q+1:Nat):Int) - 1=(q:Int) by omega,E15 _ (by omega),hm,p8,hq,hl];rfl
theorem F06 {f:Nat→Nat} {B:Nat}:∀{m:Nat},(∀k,k < m→f k≤B)→A49 f m≤m*B
 | 0,_=>by simp [A49]
 | m+1,h=>by
  have h1:=F06 (f:=f) (B:=B) (m:=m) fun k hk=>h k (by omega)
  have h2:=h m (by omega)
  show A49 f m+f m≤(m+1)*B
  rw [J37,Nat.one_mul];omega
theorem G60 {n:Nat} (hn:n≤32):∀{rows:List Row},(∀r∈rows,T6 n r=true)→rows.length≤A49 (fun k=>(M8 rows ((k:Int) - 1)).length) (n+1)
 | [],_=>Nat.zero_le _
 | r::rs,h=>by
  have ih:=G60 hn (rows:=rs) fun x hx=>h x (by simp [hx])
  obtain ⟨k,hk,hv⟩:=I26 hn (h r (by simp))
  have:=F05 (f:=fun k=>(M8 rs ((k:Int) - 1)).length) (g:=fun k=>(M8 (r::rs) ((k:Int) - 1)).length) (k0:=k) (fun q=>by
   unfold M8
   simp only [J29,J61]
   split
   ·rw [J16];omega
   ·exact Nat.le_refl _) (by
   unfold M8
   simp only [J29,J61]
   rw [hv,if_pos rfl,J16]
   exact Nat.le_refl _) hk
  rw [J16];omega
theorem Made16.few {x:Str} {r:List Str} {rows:List Row} (h:Made16 x r rows) (hn:r.length≤32) {L:Nat} (hx:(B8 x).length≤L) (hr:∀b∈r,(B8 b).length≤L):rows.length≤(r.length+1)*L:=by
 refine Nat.le_trans (G60 hn (List.all_eq_true.1 h.marks)) (F06 fun k hk=>?_)
 cases k with
 | zero=>rw [show ((0:Nat):Int) - 1 = -1 from rfl,h.res];exact hx
 | succ q =>
  rw [show ((q+1:Nat):Int) - 1=(q:Int) by omega,h.par q (by omega)]
  refine hr _ ?_
  rw [J17,J14 (by omega)]
  exact J26 _
end Go.AL
