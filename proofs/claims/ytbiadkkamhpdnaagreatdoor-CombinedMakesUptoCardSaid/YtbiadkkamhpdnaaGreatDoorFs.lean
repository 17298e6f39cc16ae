/- Plain facts about data; no project text. -/
import Derived.Test.YtbiadkkamhpdnaaGreatDoorD
import Derived.Lib.Strings
import Derived.Lib.Bytealg
import Derived.Lib.Join
import Derived.Lib.ItoaNum
import Derived.Test.YtbiadkkamhpdnaaGreatDoorAn
namespace Go.AL
open Go
theorem E62 (c:UInt8):((c.toNat:Int)=10)↔c=10:=by
 constructor
 ·intro h
  have:c.toNat=10:=by omega
  exact UInt8.toNat_inj.1 (by simpa using this)
 ·rintro rfl;rfl
def I4 (cur:Str):Str→List Str
 | []=>if cur=[] then [] else [cur]
 | c::r=>if c=10 then (cur++[c])::I4 [] r else I4 (cur++[c]) r
def C7 (b:Str):List Str:=I4 [] b
theorem A96 (cur:Str) (s:Str):(I4 cur s).length≤s.length+1:=by
 induction s generalizing cur with
 | nil=>unfold I4;split<;>simp
 | cons c r ih=>unfold I4;split<;>simp<;>(have:=ih [];have:=ih (cur++[c]);omega)
theorem B59 (s:Str):(I4 [] s).length≤s.length:=by
 have key:∀(s cur:Str),cur≠[]→(I4 cur s).length≤s.length+1:=fun s cur _=>A96 cur s
 induction s with
 | nil=>simp [I4]
 | cons c r ih=>unfold I4;split<;>simp<;>(have:=A96 ([]++[c]) r;simp at this;omega)
theorem R6 (b:Str):(C7 b).length≤b.length:=B59 b
theorem A33 (cur r:Str) (c:UInt8):I4 cur (c::r)=if c=10 then (cur++[c])::I4 [] r else I4 (cur++[c]) r:=rfl
theorem F18 (cur:Str) (h:cur≠[]):I4 cur []=[cur]:=by simp [I4,h]
theorem or_pick {p q:Prop} [Decidable p] [Decidable q]:(if decide p=true then true else decide q)=decide (p∨q):=by by_cases p<;>simp [*]
theorem P4 {p q:Prop} [Decidable p] [Decidable q]:(if decide p=true then decide q else false)=decide (p∧q):=by by_cases p<;>simp [*]
theorem T3 {α:Type} (l:List (List α)) (i:Nat) (h:i < l.length):(l.take (i+1)).flatten=(l.take i).flatten++l[i]:=by
 rw [List.take_add_one,I80 h,Option.toList_some,J04];simp
theorem V5 {α:Type} (l:List (List α)) (i:Nat):(l.take i).flatten.length≤l.flatten.length:=by
 conv=>rhs;rw [←J20 i l,J04,I78]
 omega
theorem G68 (i:Nat):((i:Int)+1).toNat=i+1:=by omega
theorem E63 {α:Type} (b:List α) (f i:Nat) (hf:f≤i) (hi:i < b.length):(b.drop f).take (i - f)++[b[i]]=(b.drop f).take (i+1 - f):=by
 rw [show i+1 - f=(i - f)+1 by omega,List.take_add_one,J14,show f+(i - f)=i by omega,I80 hi]
 rfl
def ended (s:Str):Bool:=s.getLast? == some 10
theorem I25 (s:Str):ended s=(if decide (s≠[])=true then decide (((s.getLastD 0).toNat:Int)=10) else false):=by
 unfold ended
 by_cases h:s=[]
 ·simp [h]
 ·rw [List.getLast?_eq_some_getLast h,List.getLastD_eq_getLast?,List.getLast?_eq_some_getLast h]
  simp only [ne_eq,h,not_false_eq_true,decide_true,if_true,Option.getD_some,E62]
  rfl
def I1:List Str→Str→Int→Int
 | [],_,_ => -1
 | x::r,s,i=>if x=s then i else I1 r s (i+1)
theorem F19 (l:List Str) (s:Str) (k:Nat) (h:k < l.length):I1 (l.drop k) s k=if l[k]=s then (k:Int) else I1 (l.drop (k+1)) s ((k:Int)+1):=by
 rw [I84 h]
 simp [I1]
theorem F96 (l:List Str) (s:Str):∀(k:Int),0≤k→((I1 l s k < 0)↔s∉l):=by
 induction l with
 | nil=>intro k _;simp [I1]
 | cons x r ih =>
  intro k hk
  unfold I1
  by_cases h:x=s
  ·simp [h];omega
  ·have:=ih (k+1) (by omega)
   simp [h,this,Ne.symm h]
def K0 (s:Str):Bool:=s.dropLast.all (·≠10)&&s != []
def Y7:List Str→Bool
 | []=>true
 | s::r=>K0 s&&(r.isEmpty||ended s)&&Y7 r
def Y1 (b:Str):Int:=if b.length > 1048576∨(C7 b).length > 4096 then 1 else 0
def H4 (out:List Str) (s:Str):List Str:=if s∈out then out else out++[s]
def E2 (files:List (List Str)):List Str:=files.flatten.foldl H4 []
def L3 (names:List Str) (file:List Str):List Int:=file.map (fun s=>I1 names s 0)
theorem C53 (out:List Str) (s:Str):(H4 out s).length≤out.length+1:=by unfold H4;split<;>simp
theorem y8 (l out:List Str):(l.foldl H4 out).length≤out.length+l.length:=by
 induction l generalizing out with
 | nil=>simp
 | cons s r ih=>have h1:=ih (H4 out s);have h2:=C53 out s;simp only [J05,I79];omega
theorem B26 (fs:List (List Str)):(E2 fs).length≤fs.flatten.length:=by have:=y8 fs.flatten [];simpa [E2] using this
end Go.AL
namespace Go.AL
open Go
def O5 (i j:Int):List Span→Int→Int→List Change
 | [],m,n=>if m > i∨n > j then [⟨i,m - i,j,n - j⟩] else []
 | x::r,m,n=>(if x.From > i∨x.To > j then [⟨i,x.From - i,j,x.To - j⟩] else [])++O5 (x.From+1) (x.To+1) r m n
def Y8 (p:List Span) (m n:Int):List Change:=O5 0 0 p m n
theorem p9 (p:List Span) (i j m n:Int):(O5 i j p m n).length≤p.length+1:=by
 induction p generalizing i j with
 | nil=>unfold O5;split<;>simp
 | cons x r ih=>unfold O5;have:=ih (x.From+1) (x.To+1);split<;>simp<;>omega
def O1 (i j:Int) (n:Nat):List Span:=(List.range n).map fun (t:Nat)=>⟨i+(t:Int),j+(t:Int)⟩
theorem y9 (i j:Int) (n:Nat):(O1 i j n).length=n:=by simp [O1]
theorem A64 (i j:Int) (n:Nat):O1 i j (n+1)=⟨i,j⟩::O1 (i+1) (j+1) n:=by
 unfold O1
 rw [List.range_succ_eq_map,I89,J18]
 congr 1
 ·simp
 ·refine List.map_congr_left fun t _=>?_
  simp only [Function.comp,Span.mk.injEq]
  omega
def K1 (i j:Int):List Change→Int→List Span
 | [],m=>O1 i j (m - i).toNat
 | c::r,m=>O1 i j (c.Old - i).toNat++K1 (max i c.Old+c.OldLen) (j+(c.Old - i).toNat+c.NewLen) r m
def P5 (l:List Change) (m:Int):List Span:=K1 0 0 l m
def dist:List Int→List Int→Nat
 | [],b=>b.length
 | x::a,[]=>(x::a).length
 | x::a,y::b=>if x=y then dist a b else 1+min (dist a (y::b)) (dist (x::a) b)
theorem z6 (a:List Int):dist a []=a.length:=by cases a<;>simp [dist]
theorem B49 (a b:List Int):dist a b≤a.length+b.length:=by
 induction a generalizing b with
 | nil=>simp [dist]
 | cons x a iha =>
  induction b with
  | nil=>simp [dist]
  | cons y b ihb =>
   unfold dist
   split
   ·have:=iha b;simp;omega
   ·have:=iha (y::b);have:=ihb;simp only [I79] at *;omega
def F6 (i j:Int):List Int→List Int→List Span
 | [],_=>[]
 | _::_,[]=>[]
 | x::a,y::b=>if x=y then ⟨i,j⟩::F6 (i+1) (j+1) a b else if dist a (y::b)+1=dist (x::a) (y::b) then F6 (i+1) j a (y::b) else F6 i (j+1) (x::a) b
def L6 (a b:List Int):List Change:=Y8 (F6 0 0 a b) a.length b.length
theorem E64 (a b:List Int) (i j:Nat) (hi:i < a.length) (hj:j < b.length) :
  dist (a.drop i) (b.drop j)=if a[i]=b[j] then dist (a.drop (i+1)) (b.drop (j+1)) else 1+min (dist (a.drop (i+1)) (b.drop j)) (dist (a.drop i) (b.drop (j+1))):=by
 rw [I84 hi,I84 hj]
 conv=>lhs;rw [dist]
theorem s8 (a b:List Int) (i j:Nat) (hi:i < a.length) (hj:j < b.length) (p q:Int) :
  F6 p q (a.drop i) (b.drop j)=if a[i]=b[j] then ⟨p,q⟩::F6 (p+1) (q+1) (a.drop (i+1)) (b.drop (j+1)) else
   if dist (a.drop (i+1)) (b.drop j)+1=dist (a.drop i) (b.drop j) then F6 (p+1) q (a.drop (i+1)) (b.drop j) else F6 p (q+1) (a.drop i) (b.drop (j+1)):=by
 rw [I84 hi,I84 hj]
 conv=>lhs;rw [F6]
theorem V6 (p q:Int) (b:List Int):F6 p q [] b=[]:=by simp [F6]
theorem Y2 (p q:Int) (a:List Int):F6 p q a []=[]:=by cases a<;>simp [F6]
theorem T8 (p q:Int) (a b:List Int):(F6 p q a b).length≤a.length:=by
 induction a generalizing p q b with
 | nil=>simp [F6]
 | cons x a iha =>
  induction b generalizing p q with
  | nil=>simp [F6]
  | cons y b ihb =>
   unfold F6
   split
   ·have:=iha (p+1) (q+1) b;simp;omega
   ·split
    ·have:=iha (p+1) q (y::b);simp;omega
    ·exact ihb p (q+1)
universe u
theorem n9 {α:Type u} (n k:Nat) (f g:Nat→α) (v:α) (hv:k < n→g k=v) (h:∀q,q < n→q≠k→g q=f q):((List.range n).map f).set k v=(List.range n).map g:=by
 refine List.ext_getElem (by simp) fun q h1 h2=>?_
 have hq:q < n:=by simpa using h2
 rw [List.getElem_set]
 by_cases he:k=q
 ·subst he;simp [hv hq]
 ·rw [if_neg he];simp [h q hq (Ne.symm he)]
theorem y1 {α:Type u} (n k:Nat) (f:Nat→α) (h:k < n):((List.range n).map f)[k]?=some (f k):=by simp [h]
def Q1 (a b:List Int) (i q:Nat):List Int:=(List.range (b.length+1)).map fun j=>if q≤j then (dist (a.drop i) (b.drop j):Int) else 0
def O6 (a b:List Int) (i:Nat):List (List Int):=(List.range (a.length+1)).map fun r=>if i≤r then Q1 a b r 0 else []
def B50 (a b:List Int):List (List Int):=O6 a b 0
theorem D69 (a b:List Int) (i q:Nat):(Q1 a b i q).length=b.length+1:=by simp [Q1]
theorem u7 (a b:List Int) (i:Nat):(O6 a b i).length=a.length+1:=by simp [O6]
theorem F20 (a b:List Int) (i:Nat):List.replicate (b.length+1) 0=Q1 a b i (b.length+1):=by
 refine List.ext_getElem (by simp [Q1]) fun q h1 h2=>?_
 have:¬(b.length+1≤q):=by simp at h1;omega
 simp [Q1,this]
theorem E23 (a b:List Int):List.replicate (a.length+1) []=O6 a b (a.length+1):=by
 refine List.ext_getElem (by simp [O6]) fun q h1 h2=>?_
 have:¬(a.length+1≤q):=by simp at h1;omega
 simp [O6,this]
theorem F97 (a b:List Int) (i j:Nat):(Q1 a b i (j+1)).set j (dist (a.drop i) (b.drop j):Int)=Q1 a b i j:=by
 unfold Q1
 refine n9 _ _ _ _ _ (fun _=>by simp) fun q hq hne=>?_
 by_cases h:j≤q
 ·rw [if_pos h,if_pos (by omega)]
 ·rw [if_neg h,if_neg (by omega)]
theorem s9 (a b:List Int) (i q j:Nat) (h:q≤j) (hj:j≤b.length):(Q1 a b i q)[j]?=some (dist (a.drop i) (b.drop j):Int):=by
 unfold Q1
 rw [y1 _ _ _ (by omega),if_pos h]
theorem F21 (a b:List Int) (i:Nat):(O6 a b (i+1)).set i (Q1 a b i 0)=O6 a b i:=by
 unfold O6
 refine n9 _ _ _ _ _ (fun _=>by simp) fun q hq hne=>?_
 by_cases h:i≤q
 ·rw [if_pos h,if_pos (by omega)]
 ·rw [if_neg h,if_neg (by omega)]
theorem A65 (a b:List Int) (i r:Nat) (h:i≤r) (hr:r≤a.length):(O6 a b i)[r]?=some (Q1 a b r 0):=by
 unfold O6
 rw [y1 _ _ _ (by omega),if_pos h]
def F7 (l:List Merged):List Int:=l.map (·.Line)
theorem l6 (i j:Int):O1 i j 0=[]:=rfl
theorem A66 (i j:Int) (n:Nat):O1 i j (n+1)=O1 i j n++[⟨i+n,j+n⟩]:=by simp [O1,J15]
def Asc (m n:Int):Int→Int→List Span→Prop
 | i,j,[]=>i≤m∧j≤n
 | i,j,x::r=>i≤x.From∧j≤x.To∧Asc m n (x.From+1) (x.To+1) r
theorem Asc.le {m n:Int}:∀{p:List Span} {i j:Int},Asc m n i j p→i≤m∧j≤n
 | [],i,j,h=>h
 | x::r,i,j,h=>by have:=Asc.le h.2.2;have:=h.1;have:=h.2.1;omega
theorem Asc.weaken {m n:Int} {p:List Span} {i j i' j':Int} (h:Asc m n i j p) (hi:i'≤i) (hj:j'≤j):Asc m n i' j' p:=by
 cases p with
 | nil=>exact ⟨by have:=h.1;omega,by have:=h.2;omega⟩
 | cons x r=>exact ⟨by have:=h.1;omega,by have:=h.2.1;omega,h.2.2⟩
theorem X2 (a b:List Int):∀(p q:Int),Asc (p+a.length) (q+b.length) p q (F6 p q a b):=by
 induction a generalizing b with
 | nil=>intro p q;rw [V6];simp only [Asc,I81];omega
 | cons x a iha =>
  induction b with
  | nil=>intro p q;rw [Y2];simp only [Asc,I81];omega
  | cons y b ihb =>
   intro p q
   rw [F6]
   split
   ·have:=iha b (p+1) (q+1)
    refine ⟨Int.le_refl _,Int.le_refl _,?_⟩
    simp only [I79]
    rwa [show p+((a.length+1:Nat):Int)=p+1+a.length by omega,show q+((b.length+1:Nat):Int)=q+1+b.length by omega]
   ·split
    ·have:=(iha (y::b) (p+1) q).weaken (i':=p) (j':=q) (by omega) (Int.le_refl _)
     rwa [show p+((x::a).length:Int)=p+1+a.length by simp;omega]
    ·have:=(ihb p (q+1)).weaken (i':=p) (j':=q) (Int.le_refl _) (by omega)
     rwa [show q+((y::b).length:Int)=q+1+b.length by simp;omega]
theorem Asc.made {m n:Int}:∀{p:List Span} {i j:Int},Asc m n i j p→∀c∈O5 i j p m n,i≤c.Old∧j≤c.New∧0≤c.OldLen∧0≤c.NewLen∧c.Old+c.OldLen≤m∧c.New+c.NewLen≤n
 | [],i,j,h,c,hc=>by
  unfold O5 at hc
  split at hc
  ·simp only [List.mem_singleton] at hc;subst hc
   have:=h.1;have:=h.2
   simp only;omega
  ·cases hc
 | x::r,i,j,h,c,hc=>by
  unfold O5 at hc
  obtain ⟨h1,h2,h3⟩:=h
  have h4:=h3.le
  rcases List.mem_append.1 hc with hc | hc
  ·split at hc
   ·simp only [List.mem_singleton] at hc;subst hc
    simp only;omega
   ·cases hc
  ·have:=Asc.made h3 c hc;omega
theorem D70 (i j m:Int) (l:List Change) (h:∀c∈l,i+1≤c.Old) (hm:l=[]→i+1≤m):K1 i j l m=⟨i,j⟩::K1 (i+1) (j+1) l m:=by
 cases l with
 | nil =>
  have:=hm rfl
  rw [K1,K1,show (m - i).toNat=(m - (i+1)).toNat+1 by omega,A64]
 | cons c r =>
  have:=h c (List.mem_cons_self ..)
  rw [K1,K1,show (c.Old - i).toNat=(c.Old - (i+1)).toNat+1 by omega,A64]
  rw [show max (i+1) c.Old=max i c.Old by omega,show (j+1+((c.Old - (i+1)).toNat:Int))=j+(((c.Old - (i+1)).toNat+1:Nat):Int) by omega]
  rfl
theorem C21 {m n:Int}:∀{p:List Span} {i j:Int},Asc m n i j p→K1 i j (O5 i j p m n) m=p
 | [],i,j,h=>by
  have h1:=h.1;have h2:=h.2
  unfold O5
  split
  ·rw [K1,K1,show (i - i).toNat=0 by omega,show (m - (max i i+(m - i))).toNat=0 by omega];rfl
  ·rw [K1,show (m - i).toNat=0 by omega];rfl
 | x::r,i,j,h=>by
  obtain ⟨h1,h2,h3⟩:=h
  have ih:=C21 h3
  have hm:=h3.le
  have hd:=D70 x.From x.To m (O5 (x.From+1) (x.To+1) r m n) (fun c hc=>(h3.made c hc).1) (fun _=>hm.1)
  rw [ih] at hd
  unfold O5
  split
  ·rw [J25,K1,show (i - i).toNat=0 by omega,show max i i+(x.From - i)=x.From by omega,show j+((0:Nat):Int)+(x.To - j)=x.To by omega,hd];rfl
  ·have e1:i=x.From:=by omega
   have e2:j=x.To:=by omega
   rw [J11,e1,e2,hd]
theorem A67 (a b:List Int):P5 (L6 a b) a.length=F6 0 0 a b:=by
 have:=X2 a b 0 0
 rw [Int.zero_add,Int.zero_add] at this
 exact C21 this
theorem A68 (a b:List Int):∀c∈L6 a b,0≤c.Old∧0≤c.New∧0≤c.OldLen∧0≤c.NewLen∧c.Old+c.OldLen≤a.length∧c.New+c.NewLen≤b.length:=by
 have:=X2 a b 0 0
 rw [Int.zero_add,Int.zero_add] at this
 exact this.made
def I0 (p:Int):Int:=IntKind.u32.wrap (1*2 ^ (min (IntKind.u64.wrap p).toNat IntKind.u32.bits))
def K4 (a b:Int):Int:=IntKind.u32.wrap ((BitVec.ofInt IntKind.u32.bits a ||| BitVec.ofInt IntKind.u32.bits b).toNat:Int)
def Q4 (l:List Merged) (list:List Int) (bit:Int) (i j:Nat):List Span→List Merged
 | []=>(l.drop i).take (l.length - i)++((list.drop j).take (list.length - j)).map fun v=>⟨v,bit⟩
 | x::r=>(l.drop i).take (x.From.toNat - i)++(((list.drop j).take (x.To.toNat - j)).map fun v=>⟨v,bit⟩)++((l[x.From.toNat]?.map fun y=>(⟨y.Line,K4 y.Parents bit⟩:Merged)).toList++Q4 l list bit (x.From.toNat+1) (x.To.toNat+1) r)
def U2 (l:List Merged) (list:List Int) (p:Int):List Merged:=Q4 l list (I0 p) 0 0 (F6 0 0 (F7 l) list)
theorem z7 {α:Type} (l:List α) (i t:Nat) (h:i+t < l.length):(l.drop i).take (t+1)=(l.drop i).take t++[l[i+t]]:=by
 rw [List.take_add_one,J14,I80 h];rfl
theorem B70 (l:List Merged) (list:List Int) (bit:Int):∀(p:List Span) (i j:Nat),(Q4 l list bit i j p).length≤l.length*(p.length+1)+list.length*(p.length+1)+p.length
 | [],i,j=>by simp [Q4];omega
 | x::r,i,j=>by
  have:=B70 l list bit r (x.From.toNat+1) (x.To.toNat+1)
  have h1:((l.drop i).take (x.From.toNat - i)).length≤l.length:=by simp;omega
  have h2:((list.drop j).take (x.To.toNat - j)).length≤list.length:=by simp;omega
  have h3:((l[x.From.toNat]?.map fun y=>(⟨y.Line,K4 y.Parents bit⟩:Merged)).toList).length≤1:=by cases l[x.From.toNat]?<;>simp
  simp only [Q4,I78,J00,I79,Nat.mul_add,Nat.mul_one] at *
  omega
end Go.AL
namespace Go.AL
open Go
def A16 (m:Int) (c:Nat):Bool:=m / 2 ^ c % 2 == 1
def X3 (r:Row) (c:Int):Bool:=if c = -1 then !r.Lost else if c < -1∨32≤c then false else A16 r.Marks c.toNat == r.Lost
def M8 (rows:List Row) (c:Int):List Str:=(rows.filter (X3 · c)).map (·.Text)
def V1 (n:Nat) (r:Row):Bool:=r.Marks / 2 ^ n == 0&&!(r.Lost&&r.Marks == 0)
def L4 (rows:List Row) (n:Nat):Bool:=rows.all (V1 n)
def l7 (rows:List Row) (n:Nat):Bool:=rows.all (fun r=>K0 r.Text)&&(List.range (n+1)).all fun k=>Y7 (M8 rows ((k:Int) - 1))
def I7 (t:Table):Int:=if t.Parents < 1∨32 < t.Parents then 2 else if L4 t.Rows t.Parents.toNat=false then 180 else if l7 t.Rows t.Parents.toNat=false then 4 else 0
theorem A69 (r:Row) (rs:List Row) (n:Nat):L4 (r::rs) n=(V1 n r&&L4 rs n):=rfl
def H8 (rows:List Row):Prop:=∀r∈rows,0≤r.Marks∧r.Marks < 4294967296
def N8 (rows:List Row):Nat:=(rows.map (·.Text)).flatten.length
theorem B51 (rows:List Row) (c:Int):(M8 rows c).length≤rows.length:=by unfold M8;rw [J00];exact List.length_filter_le _ _
theorem G69 (rows:List Row) (c:Int):(M8 rows c).flatten.length≤N8 rows:=by
 unfold M8 N8
 induction rows with
 | nil=>simp
 | cons r rs ih =>
  rw [J27]
  split
  ·simp only [I89,I96,I78];omega
  ·simp only [I89,I96,I78];omega
theorem H73 (rows:List Row) (c:Int):∀s∈M8 rows c,∃r∈rows,r.Text=s:=by
 intro s hs
 unfold M8 at hs
 obtain ⟨r,hr,rfl⟩:=List.mem_map.1 hs
 exact ⟨r,(List.mem_filter.1 hr).1,rfl⟩
theorem C22 (rows:List Row):∀r∈rows,r.Text.length≤N8 rows:=by
 intro r hr
 unfold N8
 exact (List.sublist_flatten_of_mem (List.mem_map_of_mem hr)).length_le
theorem B27 (x:Int) (h:0≤x∧x < 4294967296):IntKind.u32.wrap ((BitVec.ofInt IntKind.u32.bits x &&& BitVec.ofInt IntKind.u32.bits 1).toNat:Int)=x % 2:=by
 have h1:(BitVec.ofInt IntKind.u32.bits x &&& BitVec.ofInt IntKind.u32.bits 1).toNat=x.toNat % 2:=by
  rw [BitVec.toNat_and,BitVec.toNat_ofInt,BitVec.toNat_ofInt]
  have e1:(x % ((2 ^ IntKind.u32.bits:Nat):Int)).toNat=x.toNat:=by
   rw [show ((2 ^ IntKind.u32.bits:Nat):Int)=4294967296 by rfl];omega
  have e2:((1:Int) % ((2 ^ IntKind.u32.bits:Nat):Int)).toNat=1:=by rfl
  rw [e1,e2,Nat.and_one_is_mod]
 rw [h1]
 have h2:IntKind.u32.wrap ((x.toNat % 2:Nat):Int)=((x.toNat % 2:Nat):Int):=by
  simp [IntKind.wrap,IntKind.signed,IntKind.bits];omega
 rw [h2];omega
theorem A34 {n:Int} (h:0≤n∧n < 18446744073709551616):IntKind.u64.wrap n=n:=by simp [IntKind.wrap,IntKind.signed,IntKind.bits];omega
theorem D71 (m c:Int) (hc:0≤c∧c≤32):m.fdiv (2 ^ (min c.toNat IntKind.u32.bits))=m / 2 ^ c.toNat:=by
 rw [show min c.toNat IntKind.u32.bits=c.toNat from Nat.min_eq_left (by show c.toNat≤32;omega),Int.fdiv_eq_ediv_of_nonneg _ (Int.pow_nonneg (by decide))]
theorem shr64' (m c:Int) (hc:0≤c∧c≤64):m.fdiv (2 ^ (min c.toNat IntKind.u64.bits))=m / 2 ^ c.toNat:=by
 rw [show min c.toNat IntKind.u64.bits=c.toNat from Nat.min_eq_left (by show c.toNat≤64;omega),Int.fdiv_eq_ediv_of_nonneg _ (Int.pow_nonneg (by decide))]
theorem shr_eq (m c:Int) (b:Nat) (hc:0≤c∧c≤b):m.fdiv (2 ^ (min c.toNat b))=m / 2 ^ c.toNat:=by
 rw [show min c.toNat b=c.toNat by omega,Int.fdiv_eq_ediv_of_nonneg _ (Int.pow_nonneg (by decide))]
end Go.AL
namespace Go.AL
open Go
theorem D72 (n:Int):0≤IntKind.u32.wrap n∧IntKind.u32.wrap n < 4294967296:=by simp [IntKind.wrap,IntKind.signed,IntKind.bits];omega
def b9 (a b:Int):Int:=IntKind.u32.wrap ((BitVec.ofInt IntKind.u32.bits a &&& ~~~BitVec.ofInt IntKind.u32.bits b).toNat:Int)
def J3 (acc:List Merged) (p:Nat):List (List Int)→List Merged × Int
 | []=>(acc,0)
 | x::r=>if 4096 < acc.length∨4096 < x.length then ([],1) else J3 (U2 acc x p) (p+1) r
def F2 (lists:List (List Int)):List Merged × Int:=if 32 < lists.length then ([],1) else J3 [] 0 lists
theorem C83 (l:List Merged) (list:List Int) (bit:Int):∀(ps:List Span) (i j:Nat),i≤l.length→j≤list.length→Asc l.length list.length i j ps→(Q4 l list bit i j ps).length≤(l.length - i)+(list.length - j)
 | [],i,j,hi,hj,_=>by simp [Q4]
 | x::r,i,j,hi,hj,ha=>by
  obtain ⟨h1,h2,h3⟩:=ha
  have h4:=h3.le
  have e1:((x.From.toNat+1:Nat):Int)=x.From+1:=by omega
  have e2:((x.To.toNat+1:Nat):Int)=x.To+1:=by omega
  have ih:=C83 l list bit r (x.From.toNat+1) (x.To.toNat+1) (by omega) (by omega) (by rw [e1,e2];exact h3)
  have h5:((l[x.From.toNat]?.map fun y=>(⟨y.Line,K4 y.Parents bit⟩:Merged)).toList).length≤1:=by cases l[x.From.toNat]?<;>simp
  simp only [Q4,I78,J00,I93,I95]
  omega
theorem B28 (l:List Merged) (list:List Int) (p:Int):(U2 l list p).length≤l.length+list.length:=by
 have hasc:=X2 (F7 l) list 0 0
 rw [Int.zero_add,Int.zero_add,show (F7 l).length=l.length by simp [F7]] at hasc
 have:=C83 l list (I0 p) (F6 0 0 (F7 l) list) 0 0 (Nat.zero_le _) (Nat.zero_le _) hasc
 simpa [U2] using this
theorem Z2 {α:Type} {l:List α} {i n:Nat} {x:α} (h:x∈(l.drop i).take n):x∈l:=List.mem_of_mem_drop (List.mem_of_mem_take h)
theorem D73 (l:List Merged) (list:List Int) (bit:Int) (hb:0≤bit∧bit < 4294967296) (hl:∀m∈l,0≤m.Parents∧m.Parents < 4294967296) (Q:Int→Prop) (hq1:∀m∈l,Q m.Line) (hq2:∀v∈list,Q v) :
  ∀(ps:List Span) (i j:Nat),∀m∈Q4 l list bit i j ps,(0≤m.Parents∧m.Parents < 4294967296)∧Q m.Line
 | [],i,j,m,hm=>by
  rcases List.mem_append.1 hm with h | h
  ·have:=Z2 h;exact ⟨hl _ this,hq1 _ this⟩
  ·obtain ⟨v,hv,rfl⟩:=List.mem_map.1 h
   exact ⟨hb,hq2 _ (Z2 hv)⟩
 | x :: r,i,j,m,hm=>by
  unfold Q4 at hm
  rcases List.mem_append.1 hm with h | h
  ·rcases List.mem_append.1 h with h | h
   ·have:=Z2 h;exact ⟨hl _ this,hq1 _ this⟩
   ·obtain ⟨v,hv,rfl⟩:=List.mem_map.1 h
    exact ⟨hb,hq2 _ (Z2 hv)⟩
  ·rcases List.mem_append.1 h with h | h
   ·cases hx:l[x.From.toNat]? with
    | none=>simp [hx] at h
    | some y =>
     simp [hx] at h
     subst h
     exact ⟨D72 _,hq1 y (I98 hx)⟩
   ·exact D73 l list bit hb hl Q hq1 hq2 r _ _ m h
theorem A17 (Q:Int→Prop) (B:Nat):∀(ls:List (List Int)) (acc:List Merged) (p:Nat),(∀x∈ls,x.length≤B∧∀v∈x,Q v)→(∀m∈acc,(0≤m.Parents∧m.Parents < 4294967296)∧Q m.Line) →
  (J3 acc p ls).1.length≤acc.length+ls.length*B∧∀m∈(J3 acc p ls).1,(0≤m.Parents∧m.Parents < 4294967296)∧Q m.Line
 | [],acc,p,_,ha=>by simp only [J3];exact ⟨by simp,ha⟩
 | x::r,acc,p,hl,ha=>by
  unfold J3
  split
  ·exact ⟨by simp,by simp⟩
  ·have hx:=hl x (List.mem_cons_self ..)
   have hj:=B28 acc x p
   have hm:=D73 acc x (I0 p) (D72 _) (fun m hm=>(ha m hm).1) Q (fun m hm=>(ha m hm).2) hx.2 (F6 0 0 (F7 acc) x) 0 0
   have ih:=A17 Q B r (U2 acc x p) (p+1) (fun y hy=>hl y (List.mem_cons_of_mem _ hy)) hm
   refine ⟨?_,ih.2⟩
   have h1:=ih.1
   have h2:=hx.1
   simp only [I79,J01,Nat.one_mul]
   omega
theorem A35 (Q:Int→Prop) (B:Nat) (ls:List (List Int)) (h:∀x∈ls,x.length≤B∧∀v∈x,Q v):(F2 ls).1.length≤ls.length*B∧∀m∈(F2 ls).1,(0≤m.Parents∧m.Parents < 4294967296)∧Q m.Line:=by
 unfold F2
 split
 ·exact ⟨by simp,by simp⟩
 ·have:=A17 Q B ls [] 0 h (by simp)
  simpa using this
def K2 (p:Int) (ms:List Int) (x:Span):List Int:=ms.set x.To.toNat (b9 (ms.getD x.To.toNat 0) (I0 p))
def J5 (p:Nat) (file:List Int) (g:Nat→List (List Int)) (c:Change):Nat→List (List Int):=fun k =>
 if k=c.New.toNat then (g k).set p ((file.drop c.Old.toNat).take ((c.Old+c.OldLen).toNat - c.Old.toNat)) else g k
abbrev Loom:=List Int × (Nat→List (List Int))
def L7 (ids:List (List Int)) (s:Loom) (p:Nat):Loom :=
 let file:=ids.getD (p+1) []
 let sc:=L6 file (ids.getD 0 [])
 ((P5 sc file.length).foldl (K2 p) (s.1.map (K4 · (I0 p))),sc.foldl (J5 p file) s.2)
def w9 (lines n:Nat):Loom:=(List.replicate lines 0,fun _=>List.replicate n [])
def Q9 (ids:List (List Int)) (lines n p:Nat):Loom:=(List.range p).foldl (L7 ids) (w9 lines n)
def W0 (names:List Str) (file:List Str) (s:Loom) (k:Nat):List Row :=
 (F2 (s.2 k)).1.map (fun m=>(⟨true,m.Parents,names.getD m.Line.toNat []⟩:Row))++(if k < file.length then [⟨false,s.1.getD k 0,file.getD k []⟩] else [])
def V2 (names:List Str) (file:List Str) (s:Loom) (k:Nat):List Row:=((List.range k).map (W0 names file s)).flatten
def I6 (result:Str) (parents:List Str):Table × Int :=
 if parents.length < 1∨32 < parents.length then (⟨0,[]⟩,2) else
 let fs:=C7 result::parents.map C7
 let names:=E2 fs
 let s:=Q9 (fs.map (L3 names)) (C7 result).length parents.length parents.length
 if ∃k,k < (C7 result).length+1∧(F2 (s.2 k)).2≠0 then (⟨0,[]⟩,1) else (⟨parents.length,V2 names (C7 result) s ((C7 result).length+1)⟩,0)
theorem d6 (names file:List Str) (s:Loom) (k:Nat):V2 names file s (k+1)=V2 names file s k++W0 names file s k:=by
 unfold V2;rw [J15,I92,J04];simp
structure LoomOk (Q:Int→Prop) (B lines n:Nat) (s:Loom):Prop where
 len:s.1.length=lines
 marks:∀m∈s.1,0≤m∧m < 4294967296
 gaps:∀k,(s.2 k).length=n∧∀x∈s.2 k,x.length≤B∧∀v∈x,Q v
theorem I26 (Q:Int→Prop) (B lines n:Nat):LoomOk Q B lines n (w9 lines n) where
 len:=by simp [w9]
 marks:=fun m hm=>by have:=List.eq_of_mem_replicate hm;subst this;decide
 gaps:=fun k=>⟨by simp [w9],fun x hx=>by have:=List.eq_of_mem_replicate hx;subst this;simp⟩
theorem H74 {Q:Int→Prop} {B n p:Nat} {file:List Int} (hf:file.length≤B∧∀v∈file,Q v) {g:Nat→List (List Int)} (hg:∀k,(g k).length=n∧∀x∈g k,x.length≤B∧∀v∈x,Q v) (c:Change) :
  ∀k,(J5 p file g c k).length=n∧∀x∈J5 p file g c k,x.length≤B∧∀v∈x,Q v:=by
 intro k
 unfold J5
 split
 ·refine ⟨by rw [J31];exact (hg k).1,fun x hx=>?_⟩
  rcases List.mem_or_eq_of_mem_set hx with h | rfl
  ·exact (hg k).2 x h
  ·exact ⟨by simp;omega,fun v hv=>hf.2 v (Z2 hv)⟩
 ·exact hg k
theorem A70 {Q:Int→Prop} {B n p:Nat} {file:List Int} (hf:file.length≤B∧∀v∈file,Q v):∀(sc:List Change) {g:Nat→List (List Int)},(∀k,(g k).length=n∧∀x∈g k,x.length≤B∧∀v∈x,Q v) →
  ∀k,(sc.foldl (J5 p file) g k).length=n∧∀x∈sc.foldl (J5 p file) g k,x.length≤B∧∀v∈x,Q v
 | [],_,hg=>hg
 | c::r,_,hg=>A70 hf r (H74 hf hg c)
theorem F98 {p:Int} {ms:List Int} {x:Span} (h:∀m∈ms,0≤m∧m < 4294967296):(K2 p ms x).length=ms.length∧∀m∈K2 p ms x,0≤m∧m < 4294967296:=by
 refine ⟨by simp [K2],fun m hm=>?_⟩
 rcases List.mem_or_eq_of_mem_set hm with h' | rfl
 ·exact h m h'
 ·exact D72 _
theorem B29 {p:Int}:∀(ps:List Span) {ms:List Int},(∀m∈ms,0≤m∧m < 4294967296)→(ps.foldl (K2 p) ms).length=ms.length∧∀m∈ps.foldl (K2 p) ms,0≤m∧m < 4294967296
 | [],ms,h=>⟨rfl,h⟩
 | x::r,ms,h=>by
  have h1:=F98 (p:=p) (x:=x) h
  have h2:=B29 (p:=p) r h1.2
  exact ⟨h2.1.trans h1.1,h2.2⟩
theorem E24 {Q:Int→Prop} {B lines n:Nat} {ids:List (List Int)} (hids:∀x∈ids,x.length≤B∧∀v∈x,Q v) {s:Loom} (h:LoomOk Q B lines n s) (p:Nat):LoomOk Q B lines n (L7 ids s p):=by
 have hf:(ids.getD (p+1) []).length≤B∧∀v∈ids.getD (p+1) [],Q v:=by
  rw [I82]
  cases hx:ids[p+1]? with
  | none=>simp
  | some x=>exact hids x (I98 hx)
 have hr:∀m∈s.1.map (K4 · (I0 p)),0≤m∧m < 4294967296:=fun m hm=>by
  obtain ⟨v,_,rfl⟩:=List.mem_map.1 hm;exact D72 _
 have hc:=B29 (p:=p) (P5 (L6 (ids.getD (p+1) []) (ids.getD 0 [])) (ids.getD (p+1) []).length) hr
 exact { len:=by rw [L7];simp only;rw [hc.1,J00];exact h.len,marks:=hc.2,gaps:=A70 hf _ h.gaps }
theorem B30 (ids:List (List Int)) (lines n p:Nat):Q9 ids lines n (p+1)=L7 ids (Q9 ids lines n p) p:=by
 unfold Q9;rw [J15,J07];rfl
theorem B52 {Q:Int→Prop} {B lines n:Nat} {ids:List (List Int)} (hids:∀x∈ids,x.length≤B∧∀v∈x,Q v):∀p,LoomOk Q B lines n (Q9 ids lines n p)
 | 0=>I26 Q B lines n
 | p+1=>by rw [B30];exact E24 hids (B52 hids p) p
theorem B87 (l:List Str) (s:Str):∀k:Int,0≤k→s∈l→k≤I1 l s k∧I1 l s k < k+l.length:=by
 induction l with
 | nil=>intro k _ h;cases h
 | cons x r ih =>
  intro k hk h
  unfold I1
  by_cases hx:x=s
  ·rw [if_pos hx];simp;omega
  ·rw [if_neg hx]
   have:=ih (k+1) (by omega) (by rcases List.mem_cons.1 h with rfl | h;exact absurd rfl hx;exact h)
   simp only [I79];omega
theorem D07 (l:List Str):∀(out:List Str) (s:Str),s∈out∨s∈l→s∈l.foldl H4 out:=by
 induction l with
 | nil=>intro out s h;rcases h with h | h;exact h;cases h
 | cons x r ih =>
  intro out s h
  apply ih
  rcases h with h | h
  ·left;unfold H4;split;exact h;exact List.mem_append_left _ h
  ·rcases List.mem_cons.1 h with rfl | h
   ·left;unfold H4;split;assumption;simp
   ·exact .inr h
theorem C84 (fs:List (List Str)) (s:Str) (f:List Str) (hf:f∈fs) (hs:s∈f):s∈E2 fs:=D07 _ _ _ (.inr (List.mem_flatten.2 ⟨f,hf,hs⟩))
theorem ids_in (fs:List (List Str)):∀x∈fs.map (L3 (E2 fs)),∀v∈x,0≤v∧v < (E2 fs).length:=by
 intro x hx v hv
 obtain ⟨f,hf,rfl⟩:=List.mem_map.1 hx
 obtain ⟨s,hs,rfl⟩:=List.mem_map.1 hv
 have:=B87 (E2 fs) s 0 (Int.le_refl _) (C84 fs s f hf hs)
 omega
theorem D08 (l:List Str):∀(out:List Str) (s:Str),s∈l.foldl H4 out→s∈out∨s∈l:=by
 induction l with
 | nil=>intro out s h;exact .inl h
 | cons x r ih =>
  intro out s h
  rcases ih _ _ h with h | h
  ·unfold H4 at h
   split at h
   ·exact .inl h
   ·rcases List.mem_append.1 h with h | h
    ·exact .inl h
    ·simp at h;subst h;exact .inr (by simp)
  ·exact .inr (List.mem_cons_of_mem _ h)
theorem F99 (fs:List (List Str)) (s:Str) (h:s∈E2 fs):s∈fs.flatten:=by
 rcases D08 _ _ _ h with h | h
 ·cases h
 ·exact h
end Go.AL
namespace Go.AL
open Go
theorem C23 (s:Str):Lib.hasSuffix s [10]=ended s:=by
 unfold Lib.hasSuffix ended
 rw [Bool.eq_iff_iff,List.isSuffixOf_iff_suffix,beq_iff_eq]
 constructor
 ·rintro ⟨t,rfl⟩;simp
 ·intro h
  obtain ⟨hne,h2⟩:=List.getLast?_eq_some_iff.1 h
  exact ⟨hne,h2.symm⟩
def B31 (s:Str):Str:=if ended s then s.dropLast else s
theorem E25 (s:Str):Lib.trimSuffix s [10]=B31 s:=by
 unfold Lib.trimSuffix B31
 rw [C23,List.dropLast_eq_take];rfl
theorem u9 (c:UInt8):∀l:Str,(c∉l∧Lib.indexByte l c = -1)∨∃a b,l=a++c::b∧c∉a∧Lib.indexByte l c=a.length
 | []=>.inl ⟨by simp,rfl⟩
 | x::l=>by
  unfold Lib.indexByte
  by_cases hx:x=c
  ·exact .inr ⟨[],l,by rw [hx];rfl,by simp,by simp [hx]⟩
  ·rcases u9 c l with ⟨h1,h2⟩ | ⟨a,b,h1,h2,h3⟩
   ·exact .inl ⟨by simp [h1,Ne.symm hx],by simp [hx,h2]⟩
   ·refine .inr ⟨x::a,b,by rw [h1];rfl,by simp [h2,Ne.symm hx],?_⟩
    have h4:¬((a.length:Int) = -1):=by omega
    simp [hx,h3,h4]
theorem E26 (c:UInt8) (l:Str):0≤Lib.indexByte l c↔c∈l:=by
 rcases u9 c l with ⟨h1,h2⟩ | ⟨a,b,h1,h2,h3⟩
 ·rw [h2];simp [h1]
 ·rw [h3,h1];simp
theorem G70 (s:Str):K0 s=true↔s≠[]∧10∉s.dropLast:=by
 unfold K0
 rw [I83,List.all_eq_true]
 constructor
 ·rintro ⟨h1,h2⟩
  exact ⟨by simpa using h2,fun h=>by have:=h1 10 h;simp at this⟩
 ·rintro ⟨h1,h2⟩
  exact ⟨fun x hx=>by simpa using fun e:x=10=>h2 (e ▸ hx),by simpa using h1⟩
theorem I27 (s:Str):10∈B31 s↔10∈s.dropLast:=by
 unfold B31
 split
 ·exact Iff.rfl
 ·rename_i h
  by_cases hs:s=[]
  ·subst hs;simp
  ·constructor
   ·intro h2
    have e:=(List.dropLast_concat_getLast hs).symm
    rw [e] at h2
    rcases List.mem_append.1 h2 with h3 | h3
    ·exact h3
    ·exfalso
     refine h ?_
     unfold ended
     rw [List.getLast?_eq_some_getLast hs]
     simp at h3;simp [←h3]
   ·exact fun h2=>List.dropLast_subset s h2
theorem H75 (s:Str):(if decide (s≠[])=true then !decide (0≤Lib.indexByte (B31 s) 10) else false)=K0 s:=by
 rw [Bool.eq_iff_iff,G70]
 have h:=I27 s
 have h2:=E26 10 (B31 s)
 by_cases hs:s=[]
 ·simp [hs]
 ·simp [hs,h2,h]
theorem G00 (s:Str) (r:List Str):Y7 (s::r)=(K0 s&&(r.isEmpty||ended s)&&Y7 r):=rfl
def G01 (a b:Int):Int:=IntKind.u32.wrap ((BitVec.ofInt IntKind.u32.bits a &&& BitVec.ofInt IntKind.u32.bits b).toNat:Int)
def not32 (a:Int):Int:=IntKind.u32.wrap ((BitVec.ofInt IntKind.u32.bits IntKind.u32.max ^^^ BitVec.ofInt IntKind.u32.bits a).toNat:Int)
theorem C54 (n c:Nat):A16 (n:Int) c=n.testBit c:=by
 unfold A16
 rw [Nat.testBit_eq_decide_div_mod_eq]
 have:((n:Int) / 2 ^ c % 2 == 1)=decide (n / 2 ^ c % 2=1):=by
  rw [Bool.eq_iff_iff,beq_iff_eq,decide_eq_true_iff]
  have e:(n:Int) / 2 ^ c % 2=((n / 2 ^ c % 2:Nat):Int):=by simp
  rw [e];omega
 exact this
theorem A18 (n:Nat) (h:n < 4294967296):IntKind.u32.wrap (n:Int)=n:=by simp [IntKind.wrap,IntKind.signed,IntKind.bits];omega
theorem C55 (n:Nat):BitVec.ofInt IntKind.u32.bits (n:Int)=BitVec.ofNat 32 n:=BitVec.ofInt_natCast 32 n
theorem H76 (n m:Nat) (hn:n < 4294967296) (hm:m < 4294967296):G01 n m=((n &&& m:Nat):Int):=by
 unfold G01
 rw [C55,C55]
 have e:(BitVec.ofNat 32 n &&& BitVec.ofNat 32 m).toNat=n &&& m:=by
  rw [BitVec.toNat_and,BitVec.toNat_ofNat,BitVec.toNat_ofNat,Nat.mod_eq_of_lt (by omega),Nat.mod_eq_of_lt (by omega)]
 have h2:n &&& m < 2 ^ 32:=Nat.and_lt_two_pow n (by omega)
 show IntKind.u32.wrap ((BitVec.ofNat 32 n &&& BitVec.ofNat 32 m).toNat:Int)=_
 rw [e,A18 _ (by omega)]
theorem C24 (n m:Nat) (hn:n < 4294967296) (hm:m < 4294967296):K4 n m=((n ||| m:Nat):Int)∧n ||| m < 4294967296:=by
 unfold K4
 rw [C55,C55]
 have e:(BitVec.ofNat 32 n ||| BitVec.ofNat 32 m).toNat=n ||| m:=by
  rw [BitVec.toNat_or,BitVec.toNat_ofNat,BitVec.toNat_ofNat,Nat.mod_eq_of_lt (by omega),Nat.mod_eq_of_lt (by omega)]
 have h2:n ||| m < 2 ^ 32:=Nat.or_lt_two_pow (by omega) (by omega)
 refine ⟨?_,by omega⟩
 show IntKind.u32.wrap ((BitVec.ofNat 32 n ||| BitVec.ofNat 32 m).toNat:Int)=_
 rw [e,A18 _ (by omega)]
theorem H77 (n:Nat) (hn:n < 4294967296):not32 n=((4294967295 ^^^ n:Nat):Int)∧4294967295 ^^^ n < 4294967296:=by
 unfold not32
 rw [C55,show IntKind.u32.max=((4294967295:Nat):Int) from rfl,C55]
 have e:(BitVec.ofNat 32 4294967295 ^^^ BitVec.ofNat 32 n).toNat=4294967295 ^^^ n:=by
  rw [BitVec.toNat_xor,BitVec.toNat_ofNat,BitVec.toNat_ofNat,Nat.mod_eq_of_lt (by omega),Nat.mod_eq_of_lt (by omega)]
 have h2:4294967295 ^^^ n < 2 ^ 32:=Nat.xor_lt_two_pow (by omega) (by omega)
 refine ⟨?_,by omega⟩
 show IntKind.u32.wrap ((BitVec.ofNat 32 4294967295 ^^^ BitVec.ofNat 32 n).toNat:Int)=_
 rw [e,A18 _ (by omega)]
theorem I28 (c:Nat) (h:c < 32):(4294967295:Nat).testBit c=true:=by
 have:(4294967295:Nat)=2 ^ 32 - 1:=rfl
 rw [this,Nat.testBit_two_pow_sub_one];simpa using h
def E27 (r:Row):Int:=if r.Lost then r.Marks else not32 r.Marks
def B71 (res:Bool) (par:Int) (r:Row):Bool:=decide (G01 par (E27 r)=0)&&(r.Lost||!res)
def B32 (res:Bool) (r:Row):Bool:=if ended r.Text then res else res||!r.Lost
def B33 (par:Int) (r:Row):Int:=if ended r.Text then par else K4 par (E27 r)
def R0:Bool→Int→List Row→Bool
 | _,_,[]=>true
 | res,par,r::rs=>K0 r.Text&&B71 res par r&&R0 (B32 res r) (B33 par r) rs
theorem G02 (r:Row) (hr:0≤r.Marks∧r.Marks < 4294967296):∃m:Nat,m < 4294967296∧E27 r=m∧∀c,c < 32→m.testBit c=X3 r c:=by
 obtain ⟨k,hk⟩:∃k:Nat,r.Marks=k:=⟨r.Marks.toNat,by omega⟩
 have hv:∀c:Nat,c < 32→X3 r c=(k.testBit c == r.Lost):=by
  intro c hc
  rw [X3,if_neg (by omega),if_neg (by omega),hk,I85,C54]
 unfold E27
 cases hl:r.Lost
 ·have:=H77 k (by omega)
  refine ⟨4294967295 ^^^ k,this.2,by rw [if_neg (by simp),hk];exact this.1,fun c hc=>?_⟩
  rw [hv c hc,hl,Nat.testBit_xor,I28 c hc]
  cases k.testBit c<;>rfl
 ·refine ⟨k,by omega,by rw [if_pos rfl];exact hk,fun c hc=>?_⟩
  rw [hv c hc,hl]
  cases k.testBit c<;>rfl
theorem A71 (r:Row):X3 r (-1)=!r.Lost:=by rw [X3,if_pos rfl]
def Z6:Bool→List Str→Bool
 | _,[]=>true
 | b,s::r=>!b&&K0 s&&Z6 (!ended s) r
theorem F22 (l:List Str):Z6 true l=l.isEmpty:=by cases l<;>simp [Z6]
theorem G03 (l:List Str):Y7 l=Z6 false l:=by
 induction l with
 | nil=>rfl
 | cons s r ih =>
  rw [G00,ih,Z6]
  cases he:ended s
  ·rw [show (!false)=true from rfl,F22]
   cases r<;>simp [Z6]
  ·simp
structure EndsAt (res:Bool) (par:Int) (bad:Int→Bool):Prop where
 res:res=bad (-1)
 par:∃p:Nat,p < 4294967296∧par=p∧∀c:Nat,c < 32→p.testBit c=bad c
theorem I29 (n m:Nat) (hm:m < 4294967296):n &&& m=0↔∀c,c < 32→m.testBit c=true→n.testBit c=false:=by
 constructor
 ·intro h c hc hm1
  have:(n &&& m).testBit c=false:=by rw [h];simp
  rw [Nat.testBit_and,hm1] at this
  simpa using this
 ·intro h
  refine Nat.eq_of_testBit_eq fun c=>?_
  rw [Nat.testBit_and,Nat.zero_testBit]
  by_cases hc:c < 32
  ·cases hm1:m.testBit c
   ·simp
   ·rw [h c hc hm1];rfl
  ·have:m.testBit c=false:=Nat.testBit_lt_two_pow (Nat.lt_of_lt_of_le (by omega:m < 2 ^ 32) (Nat.pow_le_pow_right (by omega) (by omega)))
   rw [this];simp
theorem H78 {res:Bool} {par:Int} {bad:Int→Bool} (h:EndsAt res par bad) (r:Row) (hr:0≤r.Marks∧r.Marks < 4294967296):B71 res par r=true↔∀c:Int,-1≤c→c < 32→X3 r c=true→bad c=false:=by
 obtain ⟨m,hm,he,hb⟩:=G02 r hr
 obtain ⟨p,hp,hpe,hpb⟩:=h.par
 unfold B71
 rw [he,hpe,H76 p m hp hm,I83,decide_eq_true_iff,show (((p &&& m:Nat):Int)=0)↔p &&& m=0 by omega,I29 p m hm]
 constructor
 ·rintro ⟨h1,h2⟩ c hc1 hc2 hv
  by_cases hc:c = -1
  ·subst hc
   rw [A71] at hv
   rw [←h.res]
   simpa [show r.Lost=false by simpa using hv] using h2
  ·obtain ⟨k,rfl⟩:∃k:Nat,c=k:=⟨c.toNat,by omega⟩
   rw [←hpb k (by omega)]
   exact h1 k (by omega) (by rw [hb k (by omega)];exact hv)
 ·intro h1
  refine ⟨fun c hc hm1=>?_,?_⟩
  ·rw [hpb c hc]
   exact h1 c (by omega) (by omega) (by rw [←hb c hc];exact hm1)
  ·cases hl:r.Lost
   ·have:=h1 (-1) (by omega) (by omega) (by rw [A71,hl];rfl)
    rw [h.res,this];rfl
   ·rfl
theorem H79 {res:Bool} {par:Int} {bad:Int→Bool} (h:EndsAt res par bad) (r:Row) (hr:0≤r.Marks∧r.Marks < 4294967296):EndsAt (B32 res r) (B33 par r) (fun c=>bad c||(X3 r c&&!ended r.Text)):=by
 obtain ⟨m,hm,he,hb⟩:=G02 r hr
 obtain ⟨p,hp,hpe,hpb⟩:=h.par
 unfold B32 B33
 cases hen:ended r.Text
 ·have ho:=C24 p m hp hm
  refine ⟨?_,p ||| m,ho.2,?_,fun c hc=>?_⟩
  ·rw [if_neg (by simp),h.res,A71];simp
  ·rw [if_neg (by simp),he,hpe];exact ho.1
  ·rw [Nat.testBit_or,hpb c hc,hb c hc];simp
 ·refine ⟨?_,p,hp,?_,fun c hc=>?_⟩
  ·rw [if_pos rfl,h.res];simp
  ·rw [if_pos rfl];exact hpe
  ·rw [hpb c hc];simp
theorem B88 (r:Row) (rs:List Row) (c:Int):M8 (r::rs) c=if X3 r c then r.Text::M8 rs c else M8 rs c:=by
 unfold M8
 cases hv:X3 r c<;>simp [hv]
theorem D74:∀(rows:List Row) (res:Bool) (par:Int) (bad:Int→Bool),EndsAt res par bad→H8 rows→(R0 res par rows=true↔(∀r∈rows,K0 r.Text=true)∧∀c:Int,-1≤c→c < 32→Z6 (bad c) (M8 rows c)=true)
 | [],res,par,bad,_,_=>by simp [R0,M8,Z6]
 | r :: rs,res,par,bad,h,hr=>by
  have hr1:=hr r (by simp)
  have ih:=D74 rs _ _ _ (H79 h r hr1) (fun x hx=>hr x (by simp [hx]))
  rw [R0,I83,I83,H78 h r hr1,ih]
  constructor
  ·rintro ⟨⟨h1,h2⟩,h3,h4⟩
   refine ⟨fun x hx=>?_,fun c hc1 hc2=>?_⟩
   ·rcases List.mem_cons.1 hx with rfl | hx
    ·exact h1
    ·exact h3 x hx
   ·have h5:=h4 c hc1 hc2
    rw [B88]
    cases hv:X3 r c
    ·rw [if_neg (by simp)];simpa [hv] using h5
    ·rw [if_pos rfl,Z6,h2 c hc1 hc2 hv,h1]
     rw [h2 c hc1 hc2 hv,hv] at h5
     simpa using h5
  ·rintro ⟨h1,h2⟩
   refine ⟨⟨h1 r (by simp),fun c hc1 hc2 hv=>?_⟩,fun x hx=>h1 x (by simp [hx]),fun c hc1 hc2=>?_⟩
   ·have h3:=h2 c hc1 hc2
    rw [B88,hv,if_pos rfl,Z6] at h3
    simp only [I83,Bool.not_eq_true'] at h3
    exact h3.1.1
   ·have h3:=h2 c hc1 hc2
    rw [B88] at h3
    cases hv:X3 r c
    ·rw [hv,if_neg (by simp)] at h3;simpa using h3
    ·rw [hv,if_pos rfl,Z6] at h3
     simp only [I83,Bool.not_eq_true'] at h3
     rw [h3.1.1];simpa using h3.2
theorem ends0:EndsAt false 0 (fun _=>false):=⟨rfl,0,by omega,rfl,fun c _=>by simp⟩
theorem F23 (m:Int) (n c:Nat) (h0:0≤m) (h:m / 2 ^ n=0) (hc:n≤c):A16 m c=false:=by
 obtain ⟨k,rfl⟩:∃k:Nat,m=k:=⟨m.toNat,by omega⟩
 rw [C54]
 have h1:(k:Int) / 2 ^ n=((k / 2 ^ n:Nat):Int):=by simp
 rw [h1] at h
 have h2:k / 2 ^ n=0:=by omega
 have h3:k < 2 ^ n:=by
  rcases Nat.div_eq_zero_iff.1 h2 with h3 | h3
  ·have:=Nat.two_pow_pos n;omega
  ·exact h3
 exact Nat.testBit_lt_two_pow (Nat.lt_of_lt_of_le h3 (Nat.pow_le_pow_right (by omega) hc))
theorem F24 (rows:List Row) (n:Nat) (hm:L4 rows n=true) (hr:H8 rows) (c:Int) (h1:(n:Int)≤c) (h2:c < 32):M8 rows c=M8 rows (-1):=by
 unfold M8
 have:rows.filter (X3 · c)=rows.filter (X3 · (-1)):=by
  refine List.filter_congr fun r hmem=>?_
  have h3:V1 n r=true:=List.all_eq_true.1 hm r hmem
  unfold V1 at h3
  simp only [I83,beq_iff_eq] at h3
  have h4:=F23 r.Marks n c.toNat (hr r hmem).1 h3.1 (by omega)
  rw [A71,X3,if_neg (by omega),if_neg (by omega),h4]
  cases r.Lost<;>rfl
 rw [this]
theorem D75 (rows:List Row) (n:Nat) (hn:n≤32) (hm:L4 rows n=true) (hr:H8 rows):R0 false 0 rows=l7 rows n:=by
 rw [Bool.eq_iff_iff,D74 rows false 0 _ ends0 hr,l7,I83,List.all_eq_true,List.all_eq_true]
 refine and_congr Iff.rfl ?_
 constructor
 ·intro h k hk
  have hk:=List.mem_range.1 hk
  rw [G03]
  exact h _ (by omega) (by omega)
 ·intro h c hc1 hc2
  have key:∀c:Int,-1≤c→c < n→Z6 false (M8 rows c)=true:=by
   intro c h1 h2
   have:=h (c+1).toNat (List.mem_range.2 (by omega))
   rw [show (((c+1).toNat:Nat):Int) - 1=c by omega,G03] at this
   exact this
  by_cases hcn:c < n
  ·exact key c hc1 hcn
  ·rw [F24 rows n hm hr c (by omega) hc2]
   exact key (-1) (by omega) (by omega)
end Go.AL
namespace Go.AL
open Go
def A72 (c:UInt8):Bool:=decide (33≤c.toNat∧c.toNat≤126∧c.toNat≠34∧c.toNat≠92)
def digs8:Str:=[48,49,50,51,52,53,54,55]
def digs10:Str:=[48,49,50,51,52,53,54,55,56,57]
def C85 (c:UInt8):Str:=(digs8.drop (c.toNat / 64)).take 1++(digs8.drop (c.toNat / 8 % 8)).take 1++(digs8.drop (c.toNat % 8)).take 1
def X4 (c:UInt8):Str:=if c.toNat=34∨c.toNat=92 then [92,c] else if c.toNat=10 then [92,110] else if c.toNat=9 then [92,116] else if c.toNat < 32∨126 < c.toNat then 92::C85 c else [c]
def Y3 (s:Str):Str:=if s≠[]∧s.all A72=true then s else 34::((s.map X4).flatten++[34])
theorem E65 (c:UInt8):(C85 c).length≤3:=by unfold C85;simp only [I78,I93];omega
theorem E66 (c:UInt8):(X4 c).length≤4:=by
 have:=E65 c
 unfold X4;split
 ·simp
 ·split
  ·simp
  ·split
   ·simp
   ·split
    ·simp only [I79];omega
    ·simp
theorem C25 (s:Str):((s.map X4).flatten).length≤4*s.length:=by
 induction s with
 | nil=>simp
 | cons c r ih=>have:=E66 c;simp only [I89,I96,I78,I79];omega
theorem G04 (s:Str):(Y3 s).length≤4*s.length+2:=by
 unfold Y3;have:=C25 s
 split
 ·omega
 ·simp only [I79,I78,I81];omega
def Z3 (n:Int):Str:=if n < 0∨2147483647 < n then [] else Lib.itoa n
def O7 (a n:Int):Str:=if a < 0∨n < 0∨2147483647 < a∨2147483647 - a < n then [] else if n=0 then Z3 a++[44,48] else if n=1 then Z3 (a+1) else Z3 (a+1)++[44]++Z3 n
theorem B72:∀(k u:Nat),u < 10 ^ (k+1)→(Lib.decDigits u).length≤k+1
 | 0,u,h=>by rw [Lib.decDigits,dif_pos (by omega)];simp
 | k+1,u,h=>by
  rw [Lib.decDigits]
  split
  ·simp
  ·have:=B72 k (u / 10) (by rw [Nat.div_lt_iff_lt_mul (by omega)];rw [Nat.pow_succ] at h;omega)
   simp only [I78,I79,I81];omega
theorem U3 (n:Int):(Z3 n).length≤10:=by
 unfold Z3;split
 ·simp
 ·unfold Lib.itoa
  rw [if_neg (by omega)]
  exact B72 9 n.toNat (by omega)
theorem A19 (a n:Int):(O7 a n).length≤21:=by
 have:=U3 a;have:=U3 (a+1);have:=U3 n
 unfold O7
 split
 ·simp
 ·split
  ·simp only [I78,I79,I81];omega
  ·split
   ·omega
   ·simp only [I78,I79,I81];omega
theorem dig10 (k:Nat) (h:k < 10):(digs10.drop k).take 1=[UInt8.ofNat (48+k)]:=by
 have:∀k:Fin 10,(digs10.drop k.1).take 1=[UInt8.ofNat (48+k.1)]:=by decide
 exact this ⟨k,h⟩
theorem H80 (n:Int) (h0:0≤n) (h:n < 10):Z3 n=(digs10.drop n.toNat).take 1:=by
 unfold Z3 Lib.itoa
 rw [if_neg (by omega),if_neg (by omega),dig10 _ (by omega),Lib.decDigits,dif_pos (by omega)]
theorem fmt_big (n:Int) (h0:10≤n) (h:n≤2147483647):Z3 n=Z3 (n / 10)++(digs10.drop (n % 10).toNat).take 1:=by
 unfold Z3 Lib.itoa
 rw [if_neg (by omega),if_neg (by omega),if_neg (by omega),if_neg (by omega),dig10 _ (by omega),Lib.decDigits,dif_neg (by omega)]
 have e1:n.toNat / 10=(n / 10).toNat:=by omega
 have e2:n.toNat % 10=(n % 10).toNat:=by omega
 rw [e1,e2]
theorem dig8 (k:Nat) (h:k < 8):(digs8.drop k).take 1=[UInt8.ofNat (48+k)]:=by
 have:∀k:Fin 8,(digs8.drop k.1).take 1=[UInt8.ofNat (48+k.1)]:=by decide
 exact this ⟨k,h⟩
theorem G05 (c:UInt8):C85 c=[UInt8.ofNat (48+c.toNat / 64),UInt8.ofNat (48+c.toNat / 8 % 8),UInt8.ofNat (48+c.toNat % 8)]:=by
 have:=c.toNat_lt
 unfold C85
 rw [dig8 _ (by omega),dig8 _ (by omega),dig8 _ (by omega)];rfl
def escs (s:Str) (i:Nat):Str:=((s.take i).map X4).flatten
theorem H81 (s:Str):escs s 0=[]:=rfl
theorem E67 (s:Str) (i:Nat) (h:i < s.length):escs s (i+1)=escs s i++X4 s[i]:=by
 unfold escs;rw [I86 h,I92,J04];simp only [I89,J09,I96,J24,I97]
theorem G06 (s:Str) (i:Nat) (h:i≤s.length):(escs s i).length≤4*i:=by
 have:=C25 (s.take i);unfold escs;rw [I93] at this;omega
def plains (s:Str) (i:Nat):Bool:=decide (s≠[])&&(s.take i).all A72
theorem C86 (s:Str):plains s 0=decide (s≠[]):=by simp [plains]
theorem C87 (s:Str) (i:Nat) (h:i < s.length):plains s (i+1)=(plains s i&&A72 s[i]):=by
 unfold plains;rw [I86 h,J29];simp only [List.all_cons,List.all_nil,Bool.and_true,Bool.and_assoc]
theorem A73 (s:Str):Y3 s=if plains s s.length=true then s else (34::escs s s.length)++[34]:=by
 unfold Y3 plains escs
 rw [I94]
 simp only [I83,decide_eq_true_eq,J19]
end Go.AL
namespace Go.AL
open Go
def O8 (cur:Str):Str→List Str
 | []=>[cur]
 | c::r=>if c=10 then (cur++[c])::O8 [] r else O8 (cur++[c]) r
def R1 (b:Str):List Str:=O8 [] b
theorem E28 (a cur:Str) (h:(10:UInt8)∉a):O8 cur a=[cur++a]:=by
 induction a generalizing cur with
 | nil=>simp [O8]
 | cons c r ih =>
  simp only [J16,not_or] at h
  rw [O8,if_neg (fun e=>h.1 e.symm),ih _ h.2];simp
theorem F25 (a b cur:Str) (h:(10:UInt8)∉a):O8 cur (a++10::b)=(cur++a++[10])::O8 [] b:=by
 induction a generalizing cur with
 | nil=>simp [O8]
 | cons c r ih =>
  simp only [J16,not_or] at h
  rw [J19,O8,if_neg (fun e=>h.1 e.symm),ih _ h.2];simp
theorem X5 (s cur:Str):(O8 cur s).length=s.count 10+1:=by
 induction s generalizing cur with
 | nil=>rfl
 | cons c r ih =>
  by_cases hc:c=10
  ·subst hc;rw [O8,if_pos rfl,I79,ih,List.count_cons_self]
  ·rw [O8,if_neg hc,ih,List.count_cons_of_ne hc]
theorem G07 (s cur:Str):I4 cur s=if (O8 cur s).getLastD []=[] then (O8 cur s).dropLast else O8 cur s:=by
 induction s generalizing cur with
 | nil=>by_cases h:cur=[]<;>simp [I4,O8,h]
 | cons c r ih =>
  rw [I4,O8]
  by_cases hc:c=10
  ·rw [if_pos hc,if_pos hc,ih]
   have hn:O8 [] r≠[]:=fun e=>by have:=X5 r [];rw [e] at this;simp at this
   obtain ⟨x,y,hxy⟩:=List.exists_cons_of_ne_nil hn
   rw [hxy]
   have e1:((cur++[c])::x::y).getLastD []=(x::y).getLastD []:=by cases y<;>simp [List.getLastD]
   rw [e1]
   split
   ·rfl
   ·rfl
  ·rw [if_neg hc,if_neg hc,ih]
theorem D76 (s cur:Str):(I4 cur s).length=s.count 10+if s=[] then (if cur=[] then 0 else 1) else if ended s=true then 0 else 1:=by
 induction s generalizing cur with
 | nil=>by_cases h:cur=[]<;>simp [I4,h]
 | cons c r ih =>
  have he:ended (c::r)=if r=[] then c == 10 else ended r:=by
   cases r with
   | nil=>simp [ended]
   | cons d t=>simp [ended,List.getLast?_cons_cons]
  rw [I4,if_neg (List.cons_ne_nil _ _),he]
  by_cases hc:c=10
  ·subst hc
   rw [if_pos rfl,I79,ih,List.count_cons_self]
   by_cases hr:r=[]<;>simp [hr]
   omega
  ·rw [if_neg hc,ih,List.count_cons_of_ne hc]
   by_cases hr:r=[]<;>simp [hr,hc]
theorem E29 (s:Str):(C7 s).length=s.count 10+if s≠[]∧ended s=false then 1 else 0:=by
 unfold C7
 rw [D76]
 by_cases hs:s=[]<;>simp [hs]
 cases ended s<;>simp
theorem G71 {P:List Str} {i:Nat} {r a b:Str} (h:P.drop i=R1 r) (hr:r=a++10::b) (ha:(10:UInt8)∉a):P[i]?=some (a++[10])∧P.drop (i+1)=R1 b:=by
 have e:R1 r=(a++[10])::R1 b:=by rw [hr];unfold R1;rw [F25 _ _ _ ha];rfl
 rw [e] at h
 refine ⟨by rw [←List.head?_drop,h];rfl,?_⟩
 rw [←List.tail_drop,h];rfl
theorem E68 {α:Type} (P:List α) (z x:α) (i:Nat) (h:P[i]?=some x):(P.take i++List.replicate (P.length - i) z).set i x=P.take (i+1)++List.replicate (P.length - (i+1)) z:=by
 obtain ⟨hi,hx⟩:=List.getElem?_eq_some_iff.1 h
 have hl:(P.take i).length=i:=by rw [I93];omega
 rw [List.set_append_right _ _ (by omega),hl,Nat.sub_self,show P.length - i=(P.length - (i+1))+1 by omega,List.replicate_succ,List.set_cons_zero,I86 hi,hx,I88]
 rfl
def B53 (b:Str):List Str × Int:=if b.length > 1048576∨(C7 b).length > 4096 then ([],1) else (C7 b,0)
end Go.AL
namespace Go.AL
open Go
def M9 (n:Int):Prop:=0≤n∧n≤4096
instance (n:Int):Decidable (M9 n):=by unfold M9;exact inferInstance
def F26 (k:Nat) (i j:Int) (c:Change):Prop:=((((((¬M9 c.Old∨¬M9 c.OldLen)∨¬M9 c.New)∨¬M9 c.NewLen)∨c.OldLen+c.NewLen=0)∨c.Old - i≠c.New - j)∨c.Old < i)∨(0 < (k:Int)∧c.Old=i)
instance (k:Nat) (i j:Int) (c:Change):Decidable (F26 k i j c):=by unfold F26;exact inferInstance
def L1 (k:Nat) (i j:Int):List Change→Int→Int→Bool
 | [],m,n=>decide (¬(m - i≠n - j∨m < i))
 | c::r,m,n=>decide (¬F26 k i j c)&&L1 (k+1) (c.Old+c.OldLen) (c.New+c.NewLen) r m n
def check8 (l:List Change) (m n:Int):Int:=if ¬M9 m∨¬M9 n then 80 else if L1 0 0 0 l m n=true then 0 else 80
def ScOk (i j:Int):List Change→Int→Int→Prop
 | [],m,n=>i≤m∧j≤n
 | c::r,m,n=>M9 c.Old∧M9 c.OldLen∧M9 c.New∧M9 c.NewLen∧i≤c.Old∧j≤c.New∧ScOk (c.Old+c.OldLen) (c.New+c.NewLen) r m n
theorem A20:∀(l:List Change) (k:Nat) (i j m n:Int),L1 k i j l m n=true→ScOk i j l m n
 | [],k,i,j,m,n,h=>by simp only [L1,decide_eq_true_eq] at h;simp only [ScOk];omega
 | c::r,k,i,j,m,n,h=>by
  simp only [L1,I83,decide_eq_true_eq] at h
  obtain ⟨h1,h2⟩:=h
  unfold F26 at h1
  refine ⟨?_,?_,?_,?_,?_,?_,A20 r _ _ _ m n h2⟩
  all_goals (by_cases a1:M9 c.Old<;>by_cases a2:M9 c.OldLen<;>by_cases a3:M9 c.New<;>by_cases a4:M9 c.NewLen<;>simp [a1,a2,a3,a4] at h1 ⊢<;>omega)
def cAt (l:List Change) (k:Nat):Change:=l.getD k ⟨0,0,0,0⟩
theorem ScOk.end_le:∀{l:List Change} {i j m n:Int},ScOk i j l m n→i≤m∧j≤n
 | [],_,_,_,_,h=>h
 | c::r,i,j,m,n,⟨h1,h2,h3,h4,h5,h6,h7⟩=>by have:=h7.end_le;unfold M9 at *;omega
theorem ScOk.get:∀{l:List Change} {i j m n:Int} (k:Nat),ScOk i j l m n→k < l.length→M9 (cAt l k).Old∧M9 (cAt l k).OldLen∧M9 (cAt l k).New∧M9 (cAt l k).NewLen∧(cAt l k).Old+(cAt l k).OldLen≤m∧(cAt l k).New+(cAt l k).NewLen≤n
 | c::r,i,j,m,n,0,⟨h1,h2,h3,h4,h5,h6,h7⟩,_=>by have:=h7.end_le;exact ⟨h1,h2,h3,h4,this.1,this.2⟩
 | c::r,i,j,m,n,k+1,⟨h1,h2,h3,h4,h5,h6,h7⟩,hk=>by
  have:=h7.get k (by simpa using hk)
  simpa [cAt] using this
theorem ScOk.next:∀{l:List Change} {i j m n:Int} (k:Nat),ScOk i j l m n→k+1 < l.length→(cAt l k).Old+(cAt l k).OldLen≤(cAt l (k+1)).Old
 | [c],_,_,_,_,_,_,hk=>by simp at hk
 | c::c2::r,i,j,m,n,0,⟨_,_,_,_,_,_,h7⟩,_=>by simpa [cAt] using h7.2.2.2.2.1
 | c::c2::r,i,j,m,n,k+1,⟨_,_,_,_,_,_,h7⟩,hk=>by
  have:=h7.next k (by simpa using hk)
  simpa [cAt] using this
theorem ScOk.mono {l:List Change} {m n:Int} (h:ScOk 0 0 l m n):∀(a b:Nat),a≤b→b < l.length→(cAt l a).Old≤(cAt l b).Old∧(cAt l a).Old+(cAt l a).OldLen≤(cAt l b).Old+(cAt l b).OldLen
 | a,0,h1,h2=>by rw [show a=0 by omega];omega
 | a,b+1,h1,h2=>by
  by_cases hab:a=b+1
  ·subst hab;omega
  ·have h3:=h.mono a b (by omega) (by omega)
   have h4:=h.next b h2
   have h5:=h.get b (by omega)
   have h6:=h.get (b+1) h2
   unfold M9 at *;omega
def F27 (a b:Int):Int:=if b < a then b else a
def opens (l:List Change) (ctx:Int) (k:Nat):Prop:=k=0∨2*ctx < (cAt l k).Old - (cAt l (k - 1)).Old - (cAt l (k - 1)).OldLen
instance (l:List Change) (ctx:Int) (k:Nat):Decidable (opens l ctx k):=by unfold opens;exact inferInstance
def H16:Hunk:=⟨0,0,⟨0,0⟩,⟨0,0⟩⟩
def A45 (l:List Change) (ctx:Int) (k:Nat):Hunk:=⟨k,0,⟨(cAt l k).Old - F27 ctx (cAt l k).Old,0⟩,⟨(cAt l k).New - F27 ctx (cAt l k).Old,0⟩⟩
def C26 (l:List Change) (m ctx:Int) (k:Nat) (h:Hunk):Hunk :=
 let c:=cAt l k
 let a:=F27 ctx (m - (c.Old+c.OldLen))
 ⟨h.First,k+1,⟨h.Old.From,c.Old+c.OldLen+a⟩,⟨h.New.From,c.New+c.NewLen+a⟩⟩
def C56 (l:List Change) (ctx:Int) (k:Nat) (out:List Hunk):List Hunk:=if opens l ctx k then out++[A45 l ctx k] else out
def W4 (l:List Change) (m ctx:Int):Nat→List Hunk
 | 0=>[]
 | k+1=>let out:=C56 l ctx k (W4 l m ctx k);out.set (out.length - 1) (C26 l m ctx k (out.getD (out.length - 1) H16))
theorem C88 (l:List Change) (m ctx:Int):∀k,(W4 l m ctx k).length≤k∧(0 < k→0 < (W4 l m ctx k).length)
 | 0=>by simp [W4]
 | k+1=>by
  have h:=C88 l m ctx k
  simp only [W4,J31,C56]
  split
  ·simp only [I78,I79,I81];omega
  ·rename_i ho
   have:k≠0:=fun e=>ho (.inl e)
   omega
end Go.AL
namespace Go.AL
open Go
def N6 (s:Str):Bool:=decide (1≤s.length∧s.length≤200)
def H1 (ls:List PatchLine) (k:UInt8):List Str:=(ls.filter (fun x=>decide (x.Kind≠k))).map (·.Text)
def badLn (x:PatchLine):Prop:=((x.Kind≠32∧x.Kind≠45)∧x.Kind≠43)∨K0 x.Text=false
instance (x:PatchLine):Decidable (badLn x):=by unfold badLn;exact inferInstance
def B89 (x:PatchLine):Bool:=decide (¬badLn x)
def A36 (ls:List PatchLine):Bool:=ls.any (fun x=>decide (x.Kind≠32))
def C27 (some:Bool) (i j:Int) (h:PatchHunk):Prop:=((((some=false∨h.Old < i)∨h.New < j)∨4096 < h.Old)∨4096 < h.New)∨h.Old - i≠h.New - j
instance (s:Bool) (i j:Int) (h:PatchHunk):Decidable (C27 s i j h):=by unfold C27;exact inferInstance
def B60 (h:PatchHunk):Int:=(H1 h.Lines 43).length
def B61 (h:PatchHunk):Int:=(H1 h.Lines 45).length
def C57 (i j:Int):List PatchHunk→Bool
 | []=>true
 | h::r=>h.Lines.all B89&&(decide (¬C27 (A36 h.Lines) i j h)&&(decide (¬(4096 < h.Old+B60 h∨4096 < h.New+B61 h))&&C57 (h.Old+B60 h) (h.New+B61 h) r))
def N9 (hs:List PatchHunk) (k:UInt8):List Str:=(hs.map (fun h=>H1 h.Lines k)).flatten
def t6:List Str→Bool
 | []=>true
 | x::r=>(r.isEmpty||ended x)&&t6 r
def G72 (hs:List PatchHunk) (k:UInt8):Bool:=t6 (N9 hs k)
def C58 (hs:List PatchHunk):Bool:=C57 0 0 hs&&(G72 hs 43&&G72 hs 45)
def markS:Str:=[10,92,32,78,111,32,110,101,119,108,105,110,101,32,97,116,32,101,110,100,32,111,102,32,102,105,108,101,10]
def linePs (x:PatchLine):List Str:=if ended x.Text then [[x.Kind]++x.Text] else [[x.Kind]++x.Text,markS]
def headW (h:PatchHunk):Str:=[64,64,32,45]++O7 h.Old (B60 h)++[32,43]++O7 h.New (B61 h)++[32,64,64,10]
def hunkPs (h:PatchHunk):List Str:=headW h::(h.Lines.map linePs).flatten
def namePs (p:Patch):List Str:=[[45,45,45,32]++Y3 p.OldName++[10],[43,43,43,32]++Y3 p.NewName++[10]]
def writePs (p:Patch):List Str:=namePs p++(p.Hunks.map hunkPs).flatten
def H17 (p:Patch):Str:=(writePs p).flatten
def C28 (p:Patch):Int:=if N6 p.OldName=false∨N6 p.NewName=false then 120 else if C58 p.Hunks=false then 121 else if 16777216 < (H17 p).length then 1 else 0
def szL (x:PatchLine):Nat:=x.Text.length+64
def szH (h:PatchHunk):Nat:=64+(h.Lines.map szL).sum
def szP (hs:List PatchHunk):Nat:=(hs.map szH).sum
structure PFit (p:Patch):Prop where
 old:p.OldName.length≤4194304
 new:p.NewName.length≤4194304
 hunks:szP p.Hunks≤268435456
theorem szL_len (ls:List PatchLine):64*ls.length≤(ls.map szL).sum:=by
 induction ls with
 | nil=>simp
 | cons x r ih=>simp only [I89,J10,I79,szL];omega
end Go.AL
namespace Go.AL
open Go
def A21 (k:UInt8) (ts:List Str):List PatchLine:=ts.map fun t=>⟨k,t⟩
def sub (x:List Str) (a b:Int):List Str:=(x.drop a.toNat).take (b.toNat - a.toNat)
def B04 (c:Change):Int:=c.Old+c.OldLen
def A22 (l:List Change) (i0:Int) (a t:Nat):Int:=if t=0 then i0 else B04 (cAt l (a+t - 1))
theorem G73 (l:List Change) (i0:Int) (a t:Nat):A22 l i0 a (t+1)=B04 (cAt l (a+t)):=by
 unfold A22;rw [if_neg (by omega)];congr 2
def v6 (l:List Change) (x y:List Str) (i0:Int) (a:Nat):Nat→List PatchLine
 | 0=>[]
 | t+1=>v6 l x y i0 a t++A21 32 (sub x (A22 l i0 a t) (cAt l (a+t)).Old)++A21 45 (sub x (cAt l (a+t)).Old (B04 (cAt l (a+t))))++A21 43 (sub y (cAt l (a+t)).New ((cAt l (a+t)).New+(cAt l (a+t)).NewLen))
def Z7 (l:List Change) (x y:List Str) (h:Hunk):PatchHunk :=
 ⟨h.Old.From,h.New.From,v6 l x y h.Old.From h.First.toNat (h.Last.toNat - h.First.toNat)++A21 32 (sub x (A22 l h.Old.From h.First.toNat (h.Last.toNat - h.First.toNat)) h.Old.To)⟩
end Go.AL
namespace Go.AL
open Go
end Go.AL
namespace Go.AL
open Go
def G08 (i j:Int) (h:PatchHunk):Prop:=((((h.Old < 0∨h.New < 0)∨4096 < h.Old)∨4096 < h.New)∨h.Old < i)∨h.Old - i≠h.New - j
instance (i j:Int) (h:PatchHunk):Decidable (G08 i j h):=by unfold G08;exact inferInstance
end Go.AL
namespace Go.AL
open Go
theorem textsLen_le (rows:List Row) (B:Nat) (h:∀r∈rows,r.Text.length≤B):N8 rows≤rows.length*B:=by
 unfold N8
 induction rows with
 | nil=>simp
 | cons r rs ih =>
  have h1:=ih fun x hx=>h x (by simp [hx])
  have h2:=h r (by simp)
  simp only [I89,I96,I78,I79,J01,Nat.one_mul]
  omega
theorem G09 (b s:Str) (h:s∈C7 b):s.length≤b.length:=by
 have h1:(C7 b).flatten=b:=by
  have key:∀(s cur:Str),(I4 cur s).flatten=cur++s:=by
   intro s
   induction s with
   | nil=>intro cur;unfold I4;split<;>simp [*]
   | cons c r ih=>intro cur;unfold I4;split<;>simp [ih]
  exact key b []
 have h2:∀(l:List Str),s∈l→s.length≤l.flatten.length:=by
  intro l
  induction l with
  | nil=>intro h;cases h
  | cons x r ih =>
   intro h
   rcases List.mem_cons.1 h with rfl | h
   ·simp
   ·have:=ih h;simp only [I96,I78];omega
 have:=h2 _ h;rw [h1] at this;exact this
end Go.AL
namespace Go.AL
open Go
theorem D16 {x:List Str} {a b:Int} {s:Str} (h:s∈sub x a b):s∈x:=by
 unfold sub at h
 exact List.mem_of_mem_drop (List.mem_of_mem_take h)
end Go.AL
namespace Go.AL
open Go
end Go.AL
namespace Go.AL
open Go
def F28 (c:Change):Int:=c.New+c.NewLen
def eoI (i:Int) (l:List Change) (k:Nat):Int:=if k=0 then i else B04 (cAt l (k - 1))
def enI (j:Int) (l:List Change) (k:Nat):Int:=if k=0 then j else F28 (cAt l (k - 1))
theorem t7 (i:Int) (c:Change) (r:List Change) (k:Nat):eoI i (c::r) (k+1)=eoI (B04 c) r k:=by
 cases k<;>rfl
theorem t8 (j:Int) (c:Change) (r:List Change) (k:Nat):enI j (c::r) (k+1)=enI (F28 c) r k:=by
 cases k<;>rfl
theorem B34 (i:Int) (l:List Change) (k:Nat):eoI i l (k+1)=B04 (cAt l k):=rfl
theorem B35 (j:Int) (l:List Change) (k:Nat):enI j l (k+1)=F28 (cAt l k):=rfl
theorem C29 (c:Change) (r:List Change) (k:Nat):cAt (c::r) (k+1)=cAt r k:=rfl
def C59 (x y:List Str) (i j:Int):List Change→Prop
 | []=>sub x i x.length=sub y j y.length
 | c::r=>sub x i c.Old=sub y j c.New∧C59 x y (B04 c) (F28 c) r
theorem z8 (m n:Int):∀(l:List Change) (k0:Nat) (i j:Int),L1 k0 i j l m n=true→∀k,k < l.length →
  M9 (cAt l k).Old∧M9 (cAt l k).OldLen∧M9 (cAt l k).New∧M9 (cAt l k).NewLen∧(cAt l k).OldLen+(cAt l k).NewLen≠0∧(cAt l k).Old - eoI i l k=(cAt l k).New - enI j l k∧eoI i l k≤(cAt l k).Old∧(0 < k0+k→eoI i l k < (cAt l k).Old)
 | [],_,_,_,_,k,hk=>by simp at hk
 | c :: r,k0,i,j,h,k,hk=>by
  simp only [L1,I83,decide_eq_true_eq] at h
  obtain ⟨h1,h2⟩:=h
  cases k with
  | zero =>
   unfold F26 at h1
   show M9 c.Old∧M9 c.OldLen∧M9 c.New∧M9 c.NewLen∧c.OldLen+c.NewLen≠0∧c.Old - i=c.New - j∧i≤c.Old∧(0 < k0+0→i < c.Old)
   have d1:M9 c.Old:=by by_cases q:M9 c.Old;exact q;exact absurd (.inl (.inl (.inl (.inl (.inl (.inl (.inl q))))))) h1
   have d2:M9 c.OldLen:=by by_cases q:M9 c.OldLen;exact q;exact absurd (.inl (.inl (.inl (.inl (.inl (.inl (.inr q))))))) h1
   have d3:M9 c.New:=by by_cases q:M9 c.New;exact q;exact absurd (.inl (.inl (.inl (.inl (.inl (.inr q)))))) h1
   have d4:M9 c.NewLen:=by by_cases q:M9 c.NewLen;exact q;exact absurd (.inl (.inl (.inl (.inl (.inr q))))) h1
   refine ⟨d1,d2,d3,d4,fun q=>h1 (.inl (.inl (.inl (.inr q)))),?_,?_,fun h0=>?_⟩
   ·by_cases q:c.Old - i=c.New - j
    ·exact q
    ·exact absurd (.inl (.inl (.inr q))) h1
   ·by_cases q:c.Old < i
    ·exact absurd (.inl (.inr q)) h1
    ·omega
   ·by_cases q:c.Old < i
    ·exact absurd (.inl (.inr q)) h1
    ·by_cases q2:c.Old=i
     ·exact absurd (.inr ⟨by omega,q2⟩) h1
     ·omega
  | succ k =>
   have:=z8 m n r (k0+1) _ _ h2 k (by simpa using hk)
   rw [C29,t7,t8]
   obtain ⟨e1,e2,e3,e4,e5,e6,e7,e8⟩:=this
   exact ⟨e1,e2,e3,e4,e5,e6,e7,fun h0=>e8 (by omega)⟩
theorem G74 (m n:Int):∀(l:List Change) (k0:Nat) (i j:Int),L1 k0 i j l m n=true→m - eoI i l l.length=n - enI j l l.length∧eoI i l l.length≤m
 | [],_,i,j,h=>by
  simp only [L1,decide_eq_true_eq] at h
  show m - i=n - j∧i≤m
  omega
 | c::r,k0,i,j,h=>by
  simp only [L1,I83,decide_eq_true_eq] at h
  rw [I79,t7,t8]
  exact G74 m n r _ _ _ h.2
theorem F29 (x y:List Str):∀(l:List Change) (i j:Int),C59 x y i j l→∀k,k < l.length→sub x (eoI i l k) (cAt l k).Old=sub y (enI j l k) (cAt l k).New
 | [],_,_,_,k,hk=>by simp at hk
 | c::r,i,j,h,k,hk=>by
  cases k with
  | zero=>exact h.1
  | succ k=>rw [t7,t8,C29];exact F29 x y r _ _ h.2 k (by simpa using hk)
theorem G75 (x y:List Str):∀(l:List Change) (i j:Int),C59 x y i j l→sub x (eoI i l l.length) x.length=sub y (enI j l l.length) y.length
 | [],_,_,h=>h
 | c::r,i,j,h=>by rw [I79,t7,t8];exact G75 x y r _ _ h.2
def mkH (l:List Change) (m ctx:Int) (a b:Nat):Hunk:=C26 l m ctx (b - 1) (A45 l ctx a)
def GrOk (l:List Change) (m ctx:Int):Nat→List Hunk→Nat→Prop
 | a,[],k=>a=k
 | a,h::r,k=>∃b,a < b∧opens l ctx a∧h=mkH l m ctx a b∧GrOk l m ctx b r k
theorem GrOk.le {l:List Change} {m ctx:Int}:∀{hs:List Hunk} {a k:Nat},GrOk l m ctx a hs k→a≤k
 | [],a,k,h=>Nat.le_of_eq h
 | _::_,a,k,⟨b,h1,_,_,h2⟩=>by have:=GrOk.le h2;omega
theorem GrOk.snoc {l:List Change} {m ctx:Int} {k:Nat} (ho:opens l ctx k):∀{hs:List Hunk} {a:Nat},GrOk l m ctx a hs k→GrOk l m ctx a (hs++[mkH l m ctx k (k+1)]) (k+1)
 | [],a,h=>by
  obtain rfl:a=k:=h
  exact ⟨a+1,by omega,ho,rfl,rfl⟩
 | _::_,a,⟨b,h1,h2,h3,h4⟩=>⟨b,h1,h2,h3,GrOk.snoc ho h4⟩
theorem GrOk.last {l:List Change} {m ctx:Int} {k:Nat}:∀{hs:List Hunk} {a:Nat},GrOk l m ctx a hs k→hs≠[]→GrOk l m ctx a (hs.set (hs.length - 1) (C26 l m ctx k (hs.getD (hs.length - 1) H16))) (k+1)
 | [],_,_,h0=>absurd rfl h0
 | [h],a,⟨b,h1,h2,h3,h4⟩,_=>by
  obtain rfl:b=k:=h4
  subst h3
  exact ⟨b+1,by omega,h2,rfl,rfl⟩
 | h::h'::r,a,⟨b,h1,h2,h3,h4⟩,_=>by
  have ih:=GrOk.last h4 (by simp)
  refine ⟨b,h1,h2,h3,?_⟩
  simpa using ih
theorem A74 (l:List Change) (m ctx:Int):∀k,GrOk l m ctx 0 (W4 l m ctx k) k
 | 0=>rfl
 | k+1=>by
  have ih:=A74 l m ctx k
  have hne:=(C88 l m ctx k).2
  simp only [W4,C56]
  by_cases ho:opens l ctx k
  ·rw [if_pos ho]
   have e:(W4 l m ctx k++[A45 l ctx k]).set ((W4 l m ctx k++[A45 l ctx k]).length - 1) (C26 l m ctx k ((W4 l m ctx k++[A45 l ctx k]).getD ((W4 l m ctx k++[A45 l ctx k]).length - 1) H16))=W4 l m ctx k++[mkH l m ctx k (k+1)]:=by
    simp [mkH]
   rw [e]
   exact ih.snoc ho
  ·rw [if_neg ho]
   refine ih.last ?_
   have:k≠0:=fun e=>ho (.inl e)
   have:=hne (by omega)
   intro e;rw [e] at this;simp at this
theorem A75 (x:List Str) {a b c:Int} (h0:0≤a) (h1:a≤b) (h2:b≤c):sub x a b++sub x b c=sub x a c:=by
 unfold sub
 obtain ⟨u,rfl⟩:∃u:Nat,(u:Int)=a:=⟨a.toNat,by omega⟩
 obtain ⟨v,rfl⟩:∃v:Nat,(v:Int)=b:=⟨b.toNat,by omega⟩
 obtain ⟨w,rfl⟩:∃w:Nat,(w:Int)=c:=⟨c.toNat,by omega⟩
 simp only [I85]
 have h3:x.drop v=(x.drop u).drop (v - u):=by rw [List.drop_drop];congr 1;omega
 rw [h3,show w - u=(v - u)+(w - v) by omega,List.take_add]
theorem H18 (x:List Str) (a:Int):sub x a a=[]:=by simp [sub]
theorem A76 (x:List Str) {a b:Int} (h0:0≤a) (h1:a≤b) (h2:b≤x.length):((sub x a b).length:Int)=b - a:=by
 unfold sub;rw [I93,I95];omega
theorem D77 {x y:List Str} {p q p' q' e:Int} (h:sub x p q=sub y p' q') (h0:0≤p) (h0':0≤p') (he:0≤e) (h1:e≤q - p) (h2:q - p=q' - p'):sub x (q - e) q=sub y (q' - e) q':=by
 have key:∀(z:List Str) (a b:Int),0≤a→e≤b - a→sub z (b - e) b=(sub z a b).drop (b - a - e).toNat:=by
  intro z a b ha hb
  unfold sub
  rw [List.drop_take,List.drop_drop]
  congr 1
  ·omega
  ·congr 1;omega
 rw [key x p q h0 h1,key y p' q' h0' (by omega),h,h2]
theorem G10 {x y:List Str} {p q p' q' e:Int} (h:sub x p q=sub y p' q') (h0:0≤p) (h0':0≤p') (he:0≤e) (h1:e≤q - p) (h2:q - p=q' - p'):sub x p (p+e)=sub y p' (p'+e):=by
 have key:∀(z:List Str) (a b:Int),0≤a→e≤b - a→sub z a (a+e)=(sub z a b).take e.toNat:=by
  intro z a b ha hb
  unfold sub
  rw [List.take_take]
  congr 1
  omega
 rw [key x p q h0 h1,key y p' q' h0' (by omega),h]
theorem A77 (p q:List PatchLine) (k:UInt8):H1 (p++q) k=H1 p k++H1 q k:=by simp [H1]
theorem A78 (k k':UInt8) (ts:List Str):H1 (A21 k ts) k'=if k=k' then [] else ts:=by
 unfold H1 A21
 by_cases h:k=k'
 ·rw [if_pos h];subst h
  simp [List.filter_eq_nil_iff]
 ·rw [if_neg h]
  rw [List.filter_eq_self.2 (by simp [h])]
  simp [Function.comp_def]
structure ScFit (x y:List Str) (l:List Change):Prop where
 lx:(x.length:Int)≤4096
 ly:(y.length:Int)≤4096
 sc:L1 0 0 0 l x.length y.length=true
 eq:C59 x y 0 0 l
section
variable {x y:List Str} {l:List Change}
theorem ScFit.ok (h:ScFit x y l):ScOk 0 0 l x.length y.length:=A20 _ _ _ _ _ _ h.sc
theorem ScFit.check (h:ScFit x y l):check8 l x.length y.length=0:=by
 have h1:=h.lx
 have h2:=h.ly
 unfold check8
 rw [if_neg (by unfold M9;omega),if_pos h.sc]
theorem ScFit.nn (h:ScFit x y l) (k:Nat) (hk:k≤l.length):0≤eoI 0 l k∧0≤enI 0 l k∧eoI 0 l k≤x.length∧enI 0 l k≤y.length:=by
 cases k with
 | zero=>exact ⟨Int.le_refl _,Int.le_refl _,Int.natCast_nonneg _,Int.natCast_nonneg _⟩
 | succ k =>
  obtain ⟨⟨a1,a2⟩,⟨b1,b2⟩,⟨c1,c2⟩,⟨d1,d2⟩,h5,h6⟩:=h.ok.get k (by omega)
  rw [B34,B35];unfold B04 F28
  omega
def eA (l:List Change) (ctx:Int) (a:Nat):Int:=F27 ctx (cAt l a).Old
def eB (l:List Change) (m ctx:Int) (b:Nat):Int:=F27 ctx (m - eoI 0 l b)
theorem H19 {a b:Int} (h:0≤a) (h':0≤b):0≤F27 a b∧F27 a b≤a∧F27 a b≤b:=by unfold F27;split<;>omega
theorem C60 {ctx:Int} {a:Nat} (ho:opens l ctx a) (ha:a≠0):2*ctx < (cAt l a).Old - eoI 0 l a:=by
 rcases ho with h | h
 ·exact absurd h ha
 ·unfold eoI;rw [if_neg ha];unfold B04;omega
theorem ScFit.before (h:ScFit x y l) {ctx:Int} (hc:0≤ctx) {a:Nat} (ha:a < l.length) (ho:opens l ctx a) :
  0≤eA l ctx a∧eA l ctx a≤ctx∧eA l ctx a≤(cAt l a).Old - eoI 0 l a:=by
 obtain ⟨⟨a1,a2⟩,_⟩:=h.ok.get a ha
 have h3:=H19 hc a1
 unfold eA
 by_cases h0:a=0
 ·subst h0
  show _∧_∧_≤(cAt l 0).Old - 0
  omega
 ·have:=C60 ho h0;omega
theorem ScFit.after (h:ScFit x y l) {ctx:Int} (hc:0≤ctx) {b:Nat} (hb:b≤l.length) (ho:b < l.length→opens l ctx b) (hb0:b≠0) :
  0≤eB l x.length ctx b∧eB l x.length ctx b≤ctx∧eoI 0 l b+eB l x.length ctx b≤x.length∧enI 0 l b+eB l x.length ctx b≤y.length ∧
   sub x (eoI 0 l b) (eoI 0 l b+eB l x.length ctx b)=sub y (enI 0 l b) (enI 0 l b+eB l x.length ctx b):=by
 obtain ⟨h1,h2,h3,h4⟩:=h.nn b hb
 have h5:=H19 hc (show 0≤(x.length:Int) - eoI 0 l b by omega)
 unfold eB
 rcases Nat.lt_or_ge b l.length with hlt | hge
 ·obtain ⟨g1,g2,g3,g4,g5,g6,g7,g8⟩:=z8 _ _ _ _ _ _ h.sc b hlt
  obtain ⟨⟨a1,a2⟩,⟨b1,b2⟩,⟨c1,c2⟩,⟨d1,d2⟩,k5,k6⟩:=h.ok.get b hlt
  have hg:=C60 (ho hlt) hb0
  refine ⟨h5.1,h5.2.1,by omega,by omega,G10 (F29 x y l 0 0 h.eq b hlt) h1 h2 h5.1 (by omega) (by omega)⟩
 ·have e:b=l.length:=by omega
  subst e
  obtain ⟨g1,g2⟩:=G74 _ _ _ _ _ _ h.sc
  refine ⟨h5.1,h5.2.1,by omega,by omega,G10 (G75 x y l 0 0 h.eq) h1 h2 h5.1 (by omega) (by omega)⟩
def F30 (l:List Change) (j0:Int) (a t:Nat):Int:=if t=0 then j0 else F28 (cAt l (a+t - 1))
theorem D78 (i0:Int) (a t:Nat) (ht:t≠0):A22 l i0 a t=eoI 0 l (a+t):=by
 unfold A22 eoI;rw [if_neg ht,if_neg (by omega)]
theorem H20 (j0:Int) (a t:Nat) (ht:t≠0):F30 l j0 a t=enI 0 l (a+t):=by
 unfold F30 enI;rw [if_neg ht,if_neg (by omega)]
theorem ScFit.made (h:ScFit x y l) {ctx:Int} (hc:0≤ctx) {a:Nat} (ho:opens l ctx a):∀t,a+t≤l.length→(t=0→a < l.length) →
  H1 (v6 l x y ((cAt l a).Old - eA l ctx a) a t) 43=sub x ((cAt l a).Old - eA l ctx a) (A22 l ((cAt l a).Old - eA l ctx a) a t) ∧
  H1 (v6 l x y ((cAt l a).Old - eA l ctx a) a t) 45=sub y ((cAt l a).New - eA l ctx a) (F30 l ((cAt l a).New - eA l ctx a) a t)
 | 0,_,_=>by
  unfold A22 F30
  rw [if_pos rfl,if_pos rfl,H18,H18]
  exact ⟨rfl,rfl⟩
 | t + 1,hl,_=>by
  have hlt:a+t < l.length:=by omega
  have hla:a < l.length:=by omega
  obtain ⟨ih1,ih2⟩:=ScFit.made h hc ho t (by omega) (fun _=>hla)
  obtain ⟨q1,q2,q3⟩:=h.before hc hla ho
  obtain ⟨p1,p2,p3,p4⟩:=h.nn (a+t) (by omega)
  obtain ⟨r1,r2,r3,r4⟩:=h.nn a (by omega)
  obtain ⟨g1,g2,g3,g4,g5,g6,g7,g8⟩:=z8 _ _ _ _ _ _ h.sc (a+t) hlt
  obtain ⟨k1,⟨k2,k2'⟩,k3,⟨k4,k4'⟩,k5,k6,k7,k8⟩:=z8 _ _ _ _ _ _ h.sc a hla
  obtain ⟨⟨a1,a2⟩,⟨b1,b2⟩,⟨c1,c2⟩,⟨d1,d2⟩,w5,w6⟩:=h.ok.get (a+t) hlt
  have hrun:sub x (A22 l ((cAt l a).Old - eA l ctx a) a t) (cAt l (a+t)).Old=sub y (F30 l ((cAt l a).New - eA l ctx a) a t) (cAt l (a+t)).New ∧
    (cAt l a).Old - eA l ctx a≤A22 l ((cAt l a).Old - eA l ctx a) a t∧A22 l ((cAt l a).Old - eA l ctx a) a t≤(cAt l (a+t)).Old ∧
    (cAt l a).New - eA l ctx a≤F30 l ((cAt l a).New - eA l ctx a) a t∧F30 l ((cAt l a).New - eA l ctx a) a t≤(cAt l (a+t)).New:=by
   have hrun:=F29 x y l 0 0 h.eq (a+t) hlt
   by_cases ht:t=0
   ·subst ht
    unfold A22 F30
    rw [if_pos rfl,if_pos rfl]
    rw [show a+0=a from rfl] at *
    exact ⟨D77 hrun r1 r2 q1 (by omega) (by omega),by omega,by omega,by omega,by omega⟩
   ·rw [D78 _ _ _ ht,H20 _ _ _ ht]
    have m1:=h.ok.mono a (a+t - 1) (by omega) (by omega)
    have m2:eoI 0 l (a+t)=(cAt l (a+t - 1)).Old+(cAt l (a+t - 1)).OldLen:=by unfold eoI;rw [if_neg (by omega)];rfl
    have m4:∀u,u≤t→(cAt l a).New≤enI 0 l (a+u)∨u=0:=by
     intro u
     induction u with
     | zero=>exact fun _=>.inr rfl
     | succ u ihu =>
      intro hu
      obtain ⟨e1,e2,⟨e3,e3'⟩,⟨e4,e4'⟩,e5,e6,e7,e8⟩:=z8 _ _ _ _ _ _ h.sc (a+u) (by omega)
      have e9:enI 0 l (a+(u+1))=(cAt l (a+u)).New+(cAt l (a+u)).NewLen:=rfl
      rcases ihu (by omega) with h' | h'
      ·left;omega
      ·left;subst h';rw [e9];show (cAt l a).New≤(cAt l a).New+(cAt l a).NewLen;exact Int.le_add_of_nonneg_right e4
    have m5:=(m4 t (Nat.le_refl _)).resolve_right ht
    refine ⟨hrun,by omega,by omega,by omega,by omega⟩
  obtain ⟨hr1,hr2,hr3,hr4,hr5⟩:=hrun
  simp (decide:=true) only [v6,A77,A78,ih1,ih2,if_true,if_false,I97]
  have e1:A22 l ((cAt l a).Old - eA l ctx a) a (t+1)=B04 (cAt l (a+t)):=G73 _ _ _ _
  have e2:F30 l ((cAt l a).New - eA l ctx a) a (t+1)=F28 (cAt l (a+t)):=rfl
  rw [e1,e2]
  have s0:0≤(cAt l a).Old - eA l ctx a:=by omega
  have s1:0≤(cAt l a).New - eA l ctx a:=by omega
  refine ⟨?_,?_⟩
  ·rw [A75 x s0 hr2 hr3,A75 x s0 (by omega) (by unfold B04;omega)]
  ·rw [hr1,A75 y s1 hr4 hr5]
   exact A75 y s1 (by omega) (by omega)
end
end Go.AL
namespace Go.AL
open Go
section
variable {x y:List Str} {l:List Change}
structure HunkIs (x y:List Str) (l:List Change) (ctx:Int) (a b:Nat) (h:PatchHunk):Prop where
 old:h.Old=(cAt l a).Old - eA l ctx a
 new:h.New=(cAt l a).New - eA l ctx a
 o0:0≤h.Old
 n0:0≤h.New
 oe:h.Old+B60 h=eoI 0 l b+eB l x.length ctx b
 ne:h.New+B61 h=enI 0 l b+eB l x.length ctx b
 ox:h.Old+B60 h≤x.length
 ny:h.New+B61 h≤y.length
 ol:H1 h.Lines 43=sub x h.Old (h.Old+B60 h)
 nl:H1 h.Lines 45=sub y h.New (h.New+B61 h)
 ch:A36 h.Lines=true
 gl:(∀s∈x,K0 s=true)→(∀s∈y,K0 s=true)→h.Lines.all B89=true
theorem D79 (p q:List PatchLine):A36 (p++q)=(A36 p||A36 q):=by simp [A36]
theorem D80 {k:UInt8} {ts:List Str} (hk:k≠32) (h:ts≠[]):A36 (A21 k ts)=true:=by
 cases ts with
 | nil=>exact absurd rfl h
 | cons t ts=>simp [A36,A21,hk]
theorem A79 {k:UInt8} {ts:List Str} (hk:k=32∨k=45∨k=43) (h:∀t∈ts,K0 t=true):(A21 k ts).all B89=true:=by
 rw [List.all_eq_true]
 intro q hq
 unfold A21 at hq
 obtain ⟨t,ht,rfl⟩:=List.mem_map.1 hq
 unfold B89
 refine decide_eq_true ?_
 rintro (⟨⟨h1,h2⟩,h3⟩ | h1)
 ·rcases hk with e | e | e
  ·exact h1 e
  ·exact h2 e
  ·exact h3 e
 ·rw [show (PatchLine.mk k t).Text=t from rfl,h t ht] at h1;cases h1
theorem C89 (hx:∀s∈x,K0 s=true) (hy:∀s∈y,K0 s=true) (i0:Int) (a:Nat):∀t,(v6 l x y i0 a t).all B89=true
 | 0=>rfl
 | t+1=>by
  simp only [v6,J29,C89 hx hy i0 a t,Bool.true_and,I83]
  exact ⟨⟨A79 (.inl rfl) (fun s hs=>hx s (D16 hs)),A79 (.inr (.inl rfl)) (fun s hs=>hx s (D16 hs))⟩,A79 (.inr (.inr rfl)) (fun s hs=>hy s (D16 hs))⟩
theorem ScFit.hunk (h:ScFit x y l) {ctx:Int} (hc:0≤ctx) {a b:Nat} (hab:a < b) (hb:b≤l.length) (ho:opens l ctx a) (hob:b < l.length→opens l ctx b) :
  HunkIs x y l ctx a b (Z7 l x y (mkH l x.length ctx a b)):=by
 have hla:a < l.length:=by omega
 obtain ⟨q1,q2,q3⟩:=h.before hc hla ho
 obtain ⟨w1,w2,w3,w4,w5⟩:=h.after hc hb hob (by omega)
 obtain ⟨m1,m2⟩:=h.made hc ho (b - a) (by omega) (fun e=>by omega)
 rw [D78 _ _ _ (by omega)] at m1
 rw [H20 _ _ _ (by omega)] at m2
 rw [show a+(b - a)=b by omega] at m1 m2
 obtain ⟨r1,r2,r3,r4⟩:=h.nn a (by omega)
 obtain ⟨s1,s2,s3,s4⟩:=h.nn b hb
 obtain ⟨k1,⟨k2,k2'⟩,k3,⟨k4,k4'⟩,k5,k6,k7,k8⟩:=z8 _ _ _ _ _ _ h.sc a hla
 have hlb:b - 1 < l.length:=by omega
 obtain ⟨g1,⟨g2,g2'⟩,g3,⟨g4,g4'⟩,g5,g6,g7,g8⟩:=z8 _ _ _ _ _ _ h.sc (b - 1) hlb
 have eo:eoI 0 l b=(cAt l (b - 1)).Old+(cAt l (b - 1)).OldLen:=by unfold eoI;rw [if_neg (by omega)];rfl
 have en:enI 0 l b=(cAt l (b - 1)).New+(cAt l (b - 1)).NewLen:=by unfold enI;rw [if_neg (by omega)];rfl
 have mo:=h.ok.mono a (b - 1) (by omega) (by omega)
 have mn:(cAt l a).New≤enI 0 l b:=by
  have m4:∀u,a+u≤l.length→(cAt l a).New≤enI 0 l (a+u)∨u=0:=by
   intro u
   induction u with
   | zero=>exact fun _=>.inr rfl
   | succ u ihu =>
    intro hu
    obtain ⟨e1,e2,⟨e3,e3'⟩,⟨e4,e4'⟩,e5,e6,e7,e8⟩:=z8 _ _ _ _ _ _ h.sc (a+u) (by omega)
    have e9:enI 0 l (a+(u+1))=(cAt l (a+u)).New+(cAt l (a+u)).NewLen:=rfl
    rcases ihu (by omega) with h' | h'
    ·left;omega
    ·left;subst h';rw [e9];show (cAt l a).New≤(cAt l a).New+(cAt l a).NewLen;exact Int.le_add_of_nonneg_right e4
  have:=(m4 (b - a) (by omega)).resolve_right (by omega)
  rwa [show a+(b - a)=b by omega] at this
 have hF:(mkH l x.length ctx a b).First.toNat=a:=by show ((a:Int)).toNat=a;omega
 have hL:(mkH l x.length ctx a b).Last.toNat - (mkH l x.length ctx a b).First.toNat=b - a:=by
  show (((b - 1:Nat):Int)+1).toNat - ((a:Int)).toNat=b - a;omega
 have hOF:(mkH l x.length ctx a b).Old.From=(cAt l a).Old - eA l ctx a:=rfl
 have hNF:(mkH l x.length ctx a b).New.From=(cAt l a).New - eA l ctx a:=rfl
 have hOT:(mkH l x.length ctx a b).Old.To=eoI 0 l b+eB l x.length ctx b:=by
  unfold eB;rw [eo];rfl
 obtain ⟨P,hP⟩:∃P,P=Z7 l x y (mkH l x.length ctx a b):=⟨_,rfl⟩
 have hPl:P.Lines=v6 l x y ((cAt l a).Old - eA l ctx a) a (b - a)++A21 32 (sub x (eoI 0 l b) (eoI 0 l b+eB l x.length ctx b)):=by
  rw [hP];unfold Z7
  show v6 l x y _ (mkH l x.length ctx a b).First.toNat ((mkH l x.length ctx a b).Last.toNat - (mkH l x.length ctx a b).First.toNat)++A21 32 (sub x (A22 l _ (mkH l x.length ctx a b).First.toNat ((mkH l x.length ctx a b).Last.toNat - (mkH l x.length ctx a b).First.toNat)) _)=_
  rw [hL,hF,hOF,hOT,D78 _ _ _ (by omega),show a+(b - a)=b by omega]
 have hPO:P.Old=(cAt l a).Old - eA l ctx a:=by rw [hP];rfl
 have hPN:P.New=(cAt l a).New - eA l ctx a:=by rw [hP];rfl
 have h43:H1 P.Lines 43=sub x ((cAt l a).Old - eA l ctx a) (eoI 0 l b+eB l x.length ctx b):=by
  rw [hPl,A77,A78,if_neg (by decide),m1]
  exact A75 x (by omega) (by omega) (by omega)
 have h45:H1 P.Lines 45=sub y ((cAt l a).New - eA l ctx a) (enI 0 l b+eB l x.length ctx b):=by
  rw [hPl,A77,A78,if_neg (by decide),m2,w5]
  exact A75 y (by omega) (by omega) (by omega)
 have hon:B60 P=eoI 0 l b+eB l x.length ctx b - ((cAt l a).Old - eA l ctx a):=by
  unfold B60;rw [h43];exact A76 x (by omega) (by omega) (by omega)
 have hnn:B61 P=enI 0 l b+eB l x.length ctx b - ((cAt l a).New - eA l ctx a):=by
  unfold B61;rw [h45];exact A76 y (by omega) (by omega) (by omega)
 rw [←hP]
 refine ⟨hPO,hPN,by omega,by omega,by omega,by omega,by omega,by omega,?_,?_,?_,?_⟩
 ·rw [h43];congr 1
  ·exact hPO.symm
  ·omega
 ·rw [h45];congr 1
  ·exact hPN.symm
  ·omega
 ·rw [hPl,D79]
  have e:v6 l x y ((cAt l a).Old - eA l ctx a) a (b - a)=v6 l x y ((cAt l a).Old - eA l ctx a) a (b - 1 - a+1):=by congr 1;omega
  rw [e]
  simp only [v6,D79]
  rw [show a+(b - 1 - a)=b - 1 by omega]
  have key:A36 (A21 45 (sub x (cAt l (b - 1)).Old (B04 (cAt l (b - 1)))))=true∨A36 (A21 43 (sub y (cAt l (b - 1)).New ((cAt l (b - 1)).New+(cAt l (b - 1)).NewLen)))=true:=by
   obtain ⟨g3a,g3b⟩:=g3
   obtain ⟨g1a,g1b⟩:=g1
   by_cases h0:(cAt l (b - 1)).OldLen=0
   ·right
    refine D80 (by decide) fun e0=>?_
    have:=A76 y (a:=(cAt l (b - 1)).New) (b:=(cAt l (b - 1)).New+(cAt l (b - 1)).NewLen) g3a (by omega) (by omega)
    rw [e0] at this;simp at this;omega
   ·left
    refine D80 (by decide) fun e0=>?_
    have:=A76 x (a:=(cAt l (b - 1)).Old) (b:=B04 (cAt l (b - 1))) g1a (by unfold B04;omega) (by unfold B04;omega)
    rw [e0] at this;unfold B04 at this;simp at this;omega
  rcases key with e1 | e1<;>rw [e1]<;>simp
 ·intro hx hy
  rw [hPl,J29,C89 hx hy,Bool.true_and]
  exact A79 (.inl rfl) (fun s hs=>hx s (D16 hs))
theorem ScFit.hunks (h:ScFit x y l) {ctx:Int} (hc:0≤ctx) (hx:∀s∈x,K0 s=true) (hy:∀s∈y,K0 s=true):∀(hs:List Hunk) (a:Nat),GrOk l x.length ctx a hs l.length →
  ∀(i j e:Int),i=eoI 0 l a+e→j=enI 0 l a+e→0≤e→e≤ctx→(a=0→e=0) →
  C57 i j (hs.map (Z7 l x y))=true∧(N9 (hs.map (Z7 l x y)) 43).Sublist (x.drop i.toNat)∧(N9 (hs.map (Z7 l x y)) 45).Sublist (y.drop j.toNat) ∧
   ∀p∈hs.map (Z7 l x y),(p.Old+B60 p≤x.length∧p.New+B61 p≤y.length∧0≤p.Old∧0≤p.New)∧H1 p.Lines 43=sub x p.Old (p.Old+B60 p)∧H1 p.Lines 45=sub y p.New (p.New+B61 p)
 | [],a,_,i,j,e,_,_,_,_,_=>⟨rfl,by simp [N9],by simp [N9],by simp⟩
 | hk::hs,a,⟨b,hab,ho,hE,hr⟩,i,j,e,hi,hj,he,hec,he0=>by
  have hb:=hr.le
  have hob:b < l.length→opens l ctx b:=by
   intro hlt
   cases hs with
   | nil=>exact absurd hr (by show ¬b=l.length;omega)
   | cons h2 hs2=>obtain ⟨_,_,ho2,_⟩:=hr;exact ho2
  obtain ⟨w1,w2,w3,w4,w5⟩:=h.after hc hb hob (by omega)
  obtain ⟨q1,q2,q3⟩:=h.before hc (show a < l.length by omega) ho
  have H:=h.hunk hc hab hb ho hob
  rw [←hE] at H
  obtain ⟨P,hP⟩:∃P,P=Z7 l x y hk:=⟨_,rfl⟩
  rw [←hP] at H
  obtain ⟨i1,i2,i3,i4⟩:=ScFit.hunks h hc hx hy hs b hr (P.Old+B60 P) (P.New+B61 P) (eB l x.length ctx b) H.oe H.ne w1 w2 (by omega)
  obtain ⟨k1,⟨k2,k2'⟩,k3,⟨k4,k4'⟩,k5,k6,k7,k8⟩:=z8 _ _ _ _ _ _ h.sc a (show a < l.length by omega)
  have h1:=H.old
  have h2:=H.new
  have h3:=H.o0
  have h4:=H.n0
  have h5:=H.ox
  have h6:=H.ny
  have h7:=h.lx
  have h8:=h.ly
  have n1:0≤B60 P:=by unfold B60;omega
  have n2:0≤B61 P:=by unfold B61;omega
  have hgap:e+eA l ctx a≤(cAt l a).Old - eoI 0 l a:=by
   by_cases h0:a=0
   ·have:=he0 h0;omega
   ·have:=C60 ho h0;omega
  obtain ⟨r1,r2,r3,r4⟩:=h.nn a (by omega)
  have hij:i≤P.Old∧j≤P.New∧P.Old - i=P.New - j∧0≤i∧0≤j:=by omega
  have hsub:∀(z:List Str) (i f t:Int),0≤i→i≤f→f≤t→∀r:List Str,r.Sublist (z.drop t.toNat)→(sub z f t++r).Sublist (z.drop i.toNat):=by
   intro z i f t h0 h1 h2 r hr
   have e1:z.drop f.toNat=sub z f t++z.drop t.toNat:=by
    unfold sub
    rw [show t.toNat=f.toNat+(t.toNat - f.toNat) by omega,←List.drop_drop,show f.toNat+(t.toNat - f.toNat) - f.toNat=t.toNat - f.toNat by omega,J20]
   have e2:z.drop f.toNat=(z.drop i.toNat).drop (f.toNat - i.toNat):=by rw [List.drop_drop];congr 1;omega
   refine List.Sublist.trans ?_ (List.drop_sublist (f.toNat - i.toNat) (z.drop i.toNat))
   rw [←e2,e1]
   exact List.Sublist.append_left hr _
  have key:∀(k:UInt8),N9 ((hk::hs).map (Z7 l x y)) k=H1 P.Lines k++N9 (hs.map (Z7 l x y)) k:=by
   intro k;rw [hP];simp [N9]
  refine ⟨?_,?_,?_,?_⟩
  ·rw [I89,←hP]
   simp only [C57,H.gl hx hy,i1,Bool.and_true,Bool.true_and,I83,decide_eq_true_eq]
   refine ⟨?_,by omega⟩
   unfold C27
   rw [H.ch]
   rintro (((((e0 | e0) | e0) | e0) | e0) | e0)
   ·cases e0
   all_goals omega
  ·rw [key,H.ol]
   exact hsub x i P.Old (P.Old+B60 P) hij.2.2.2.1 hij.1 (by omega) _ i2
  ·rw [key,H.nl]
   exact hsub y j P.New (P.New+B61 P) hij.2.2.2.2 hij.2.1 (by omega) _ i3
  ·rw [I89,←hP]
   intro p hp
   rcases List.mem_cons.1 hp with rfl | hp
   ·exact ⟨⟨h5,h6,h3,h4⟩,H.ol,H.nl⟩
   ·exact i4 p hp
theorem C30:∀{s z:List Str},s.Sublist z→t6 z=true→t6 s=true:=by
 intro s z hs
 induction hs with
 | slnil=>exact fun h=>h
 | cons a _ ih =>
  intro h
  simp only [t6,I83] at h
  exact ih h.2
 | cons_cons a hs2 ih =>
  intro h
  simp only [t6,I83,J23] at h ⊢
  refine ⟨?_,ih h.2⟩
  rcases h.1 with h1 | h1
  ·left
   rw [List.isEmpty_iff] at h1 ⊢
   rw [h1] at hs2
   exact List.sublist_nil.1 hs2
  ·exact .inr h1
def Z8 (l:List Change) (x y:List Str) (ctx:Int):List PatchHunk:=(W4 l x.length ctx l.length).map (Z7 l x y)
theorem ScFit.good (h:ScFit x y l) {ctx:Int} (hc:0≤ctx) (hx:∀s∈x,K0 s=true) (hy:∀s∈y,K0 s=true) (ex:t6 x=true) (ey:t6 y=true):C58 (Z8 l x y ctx)=true:=by
 obtain ⟨h1,h2,h3,_⟩:=h.hunks hc hx hy _ 0 (A74 l x.length ctx l.length) 0 0 0 rfl rfl (Int.le_refl _) hc (fun _=>rfl)
 unfold C58 G72 Z8
 rw [h1,C30 h2 (by simpa using ex),C30 h3 (by simpa using ey)]
 rfl
theorem ScFit.texts (h:ScFit x y l) {ctx:Int} (hc:0≤ctx) (hx:∀s∈x,K0 s=true) (hy:∀s∈y,K0 s=true):∀p∈Z8 l x y ctx,(p.Old+B60 p≤x.length∧p.New+B61 p≤y.length∧0≤p.Old∧0≤p.New)∧H1 p.Lines 43=sub x p.Old (p.Old+B60 p)∧H1 p.Lines 45=sub y p.New (p.New+B61 p) :=
 (h.hunks hc hx hy _ 0 (A74 l x.length ctx l.length) 0 0 0 rfl rfl (Int.le_refl _) hc (fun _=>rfl)).2.2.2
end
end Go.AL
namespace Go.AL
open Go
theorem B54 {m n:Int} (hm:M9 m) (hn:M9 n):∀(p:List Span) (i j i0 j0:Int) (k0:Nat),Asc m n i j p→0≤i0→0≤j0→i0≤i→i - i0=j - j0→(0 < k0→i0 < i)→L1 k0 i0 j0 (O5 i j p m n) m n=true
 | [],i,j,i0,j0,k0,ha,h1,h2,h3,h4,h5=>by
  obtain ⟨a1,a2⟩:i≤m∧j≤n:=ha
  obtain ⟨m1,m2⟩:=hm
  obtain ⟨n1,n2⟩:=hn
  unfold O5
  split
  ·rename_i hc
   simp only [L1,I83,decide_eq_true_eq]
   refine ⟨?_,by omega⟩
   unfold F26 M9
   show ¬(((((((¬(0≤i∧i≤4096)∨¬(0≤m - i∧m - i≤4096))∨¬(0≤j∧j≤4096))∨¬(0≤n - j∧n - j≤4096))∨m - i+(n - j)=0)∨i - i0≠j - j0)∨i < i0)∨(0 < (k0:Int)∧i=i0))
   omega
  ·simp only [L1,decide_eq_true_eq];omega
 | x::r,i,j,i0,j0,k0,ha,h1,h2,h3,h4,h5=>by
  obtain ⟨a1,a2,a3⟩:=ha
  have hle:=a3.le
  unfold O5
  split
  ·rename_i hc
   simp only [J19,J11,L1,I83,decide_eq_true_eq]
   refine ⟨?_,?_⟩
   ·obtain ⟨m1,m2⟩:=hm
    obtain ⟨n1,n2⟩:=hn
    unfold F26 M9
    show ¬(((((((¬(0≤i∧i≤4096)∨¬(0≤x.From - i∧x.From - i≤4096))∨¬(0≤j∧j≤4096))∨¬(0≤x.To - j∧x.To - j≤4096))∨x.From - i+(x.To - j)=0)∨i - i0≠j - j0)∨i < i0)∨(0 < (k0:Int)∧i=i0))
    omega
   ·exact B54 hm hn r _ _ _ _ _ a3 (by omega) (by omega) (by omega) (by omega) (fun _=>by omega)
  ·rw [J11]
   exact B54 hm hn r _ _ _ _ _ a3 h1 h2 (by omega) (by omega) (fun h=>by omega)
def EqAt (X Y:List Str) (s:Span):Prop:=0≤s.From∧0≤s.To∧∃v,X[s.From.toNat]?=some v∧Y[s.To.toNat]?=some v
theorem G11 {X:List Str} {a b:Int} {v:Str} (h0:0≤a) (h1:a≤b) (hv:X[b.toNat]?=some v):sub X a (b+1)=sub X a b++[v]:=by
 rw [←A75 X h0 h1 (by omega:b≤b+1)]
 congr 1
 unfold sub
 obtain ⟨hl,e⟩:=List.getElem?_eq_some_iff.1 hv
 rw [I84 hl,e,show (b+1).toNat - b.toNat=1 by omega]
 rfl
theorem E69:∀(ls:List PatchLine),ls.all B89=true→(ls.map szL).sum≤64*((H1 ls 43).length+(H1 ls 45).length)+((H1 ls 43).flatten.length+(H1 ls 45).flatten.length)
 | [],_=>by simp
 | q::ls,h=>by
  rw [List.all_cons,I83] at h
  have ih:=E69 ls h.2
  have hk:q.Kind=32∨q.Kind=45∨q.Kind=43:=by
   have hg:=h.1
   unfold B89 at hg
   have hg:=A0 hg
   by_cases h1:q.Kind=32
   ·exact .inl h1
   by_cases h2:q.Kind=45
   ·exact .inr (.inl h2)
   by_cases h3:q.Kind=43
   ·exact .inr (.inr h3)
   exact absurd (.inl ⟨⟨h1,h2⟩,h3⟩) hg
  have hd:∀k:UInt8,H1 (q::ls) k=if q.Kind≠k then q.Text::H1 ls k else H1 ls k:=by
   intro k
   unfold H1
   by_cases e:q.Kind=k
   ·rw [if_neg (by simpa using e),List.filter_cons_of_neg (by simpa using e)]
   ·rw [if_pos e,List.filter_cons_of_pos (by simpa using e)];rfl
  rw [hd 43,hd 45,I89,J10]
  have hz:szL q=q.Text.length+64:=rfl
  rcases hk with e | e | e<;>rw [e]<;>simp (decide:=true) only [if_true,if_false,ne_eq,not_true_eq_false,not_false_eq_true,I79,I96,I78]<;>omega
theorem C31:∀(hs:List PatchHunk) (i j:Int),C57 i j hs=true→szP hs≤128*((N9 hs 43).length+(N9 hs 45).length)+((N9 hs 43).flatten.length+(N9 hs 45).flatten.length)
 | [],_,_,_=>by simp [szP]
 | h :: hs,i,j,hg=>by
  simp only [C57,I83,decide_eq_true_eq] at hg
  obtain ⟨h1,h2,h3,h4⟩:=hg
  have ih:=C31 hs _ _ h4
  have hl:=E69 h.Lines h1
  have hne:1≤h.Lines.length:=by
   cases hq:h.Lines with
   | nil=>exact absurd (.inl (.inl (.inl (.inl (.inl (by rw [hq];rfl)))))) h2
   | cons a b=>simp
  have hcnt:h.Lines.length≤(H1 h.Lines 43).length+(H1 h.Lines 45).length:=by
   have:64*h.Lines.length≤(h.Lines.map szL).sum:=szL_len h.Lines
   have key:∀ls:List PatchLine,ls.length≤(H1 ls 43).length+(H1 ls 45).length:=by
    intro ls
    induction ls with
    | nil=>simp
    | cons q ls ih =>
     have hd:∀k:UInt8,(H1 (q::ls) k).length=if q.Kind≠k then (H1 ls k).length+1 else (H1 ls k).length:=by
      intro k
      unfold H1
      by_cases e:q.Kind=k
      ·rw [if_neg (by simpa using e),List.filter_cons_of_neg (by simpa using e)]
      ·rw [if_pos e,List.filter_cons_of_pos (by simpa using e)];simp
     rw [hd 43,hd 45,I79]
     by_cases e:q.Kind=43
     ·have e2:q.Kind≠45:=by rw [e];decide
      rw [if_pos e2];split<;>omega
     ·rw [if_pos e];split<;>omega
   exact key h.Lines
  have hsz:szP (h::hs)=szH h+szP hs:=by simp [szP]
  have hszh:szH h=64+(h.Lines.map szL).sum:=rfl
  have hs1:∀k,N9 (h::hs) k=H1 h.Lines k++N9 hs k:=by intro k;simp [N9]
  rw [hsz,hszh,hs1 43,hs1 45]
  simp only [I78,J04]
  omega
theorem C90:∀{s z:List Str},s.Sublist z→s.flatten.length≤z.flatten.length:=by
 intro s z hs
 induction hs with
 | slnil=>exact Nat.le_refl _
 | cons a _ ih=>simp only [I96,I78];omega
 | cons_cons a _ ih=>simp only [I96,I78];omega
theorem ScFit.size {x y:List Str} {l:List Change} (h:ScFit x y l) {ctx:Int} (hc:0≤ctx) (hx:∀s∈x,K0 s=true) (hy:∀s∈y,K0 s=true):szP (Z8 l x y ctx)≤128*(x.length+y.length)+(x.flatten.length+y.flatten.length):=by
 obtain ⟨h1,h2,h3,_⟩:=h.hunks hc hx hy _ 0 (A74 l x.length ctx l.length) 0 0 0 rfl rfl (Int.le_refl _) hc (fun _=>rfl)
 have h4:=C31 _ _ _ h1
 have e:Z8 l x y ctx=(W4 l x.length ctx l.length).map (Z7 l x y):=rfl
 rw [←e] at h2 h3 h4
 have h2':(N9 (Z8 l x y ctx) 43).Sublist x:=by simpa using h2
 have h3':(N9 (Z8 l x y ctx) 45).Sublist y:=by simpa using h3
 have:=h2'.length_le
 have:=h3'.length_le
 have:=C90 h2'
 have:=C90 h3'
 omega
theorem E30 {a:Str} (h:a.length≤4096):B53 a=(C7 a,0):=by
 have:=R6 a
 unfold B53;rw [if_neg (by omega)]
end Go.AL
namespace Go.AL
open Go
end Go.AL
namespace Go.AL
open Go
abbrev B90:Int→Nat→Cell:=fun x _=>.v (.int .u16 x)
abbrev pU16s (l:List Int):PV:=.one (.list Int 1 B90 l)
theorem G76 (n:Int) (h:0≤n∧n < 65536):IntKind.u16.wrap n=n:=by
 simp [IntKind.wrap,IntKind.signed,IntKind.bits];omega
def flat (a b:List Int) (done:Nat→Nat→Bool):List Int :=
 (List.range ((a.length+1)*(b.length+1))).map fun p=>if done (p / (b.length+1)) (p % (b.length+1))=true then (dist (a.drop (p / (b.length+1))) (b.drop (p % (b.length+1))):Int) else 0
theorem C91 (a b:List Int) (done:Nat→Nat→Bool):(flat a b done).length=(a.length+1)*(b.length+1):=by simp [flat]
theorem D17 {a b:List Int} {i j:Nat} (hi:i≤a.length) (hj:j≤b.length):i*(b.length+1)+j < (a.length+1)*(b.length+1)∧(i*(b.length+1)+j) / (b.length+1)=i∧(i*(b.length+1)+j) % (b.length+1)=j:=by
 refine ⟨?_,?_,?_⟩
 ·have:(i+1)*(b.length+1)≤(a.length+1)*(b.length+1):=I91 _ (by omega)
  rw [J01,Nat.one_mul] at this;omega
 ·rw [Nat.mul_comm,Nat.mul_add_div (by omega),Nat.div_eq_of_lt (by omega),Nat.add_zero]
 ·rw [Nat.mul_comm,Nat.mul_add_mod,Nat.mod_eq_of_lt (by omega)]
theorem D81 {a b:List Int} {done:Nat→Nat→Bool} {i j:Nat} (hi:i≤a.length) (hj:j≤b.length):(flat a b done)[i*(b.length+1)+j]?=some (if done i j=true then (dist (a.drop i) (b.drop j):Int) else 0):=by
 obtain ⟨h1,h2,h3⟩:=D17 hi hj
 unfold flat
 rw [y1 _ _ _ h1,h2,h3]
theorem G12 {a b:List Int} {done done':Nat→Nat→Bool} {i j:Nat} {v:Int} (hi:i≤a.length) (hj:j≤b.length) (hv:v=(dist (a.drop i) (b.drop j):Int)) (hd:done' i j=true)
  (ho:∀r q,r≤a.length→q≤b.length→¬(r=i∧q=j)→done' r q=done r q):(flat a b done).set (i*(b.length+1)+j) v=flat a b done':=by
 obtain ⟨h1,h2,h3⟩:=D17 hi hj
 unfold flat
 refine n9 _ _ _ _ _ (fun _=>?_) (fun q hq hne=>?_)
 ·rw [h2,h3,if_pos hd,hv]
 ·have hW:0 < b.length+1:=by omega
  have e:=Nat.div_add_mod q (b.length+1)
  have hr:q / (b.length+1)≤a.length:=by
   have:=(Nat.div_lt_iff_lt_mul hW).2 hq
   omega
  have hm:=Nat.mod_lt q hW
  rw [ho _ _ hr (by omega) (fun ⟨e1,e2⟩=>hne (by rw [e1,e2,Nat.mul_comm] at e;exact e.symm))]
theorem H82 (a b:List Int):List.replicate ((a.length+1)*(b.length+1)) 0=flat a b (fun _ _=>false):=by
 unfold flat
 simp only [Bool.false_eq_true,if_false]
 rw [List.map_const',J30]
theorem A80 {a b:List Int} {done done':Nat→Nat→Bool} (h:∀r q,r≤a.length→q≤b.length→(done r q=done' r q∨dist (a.drop r) (b.drop q)=0)):flat a b done=flat a b done':=by
 unfold flat
 apply List.map_congr_left
 intro p hp
 have hp:=List.mem_range.1 hp
 have hW:0 < b.length+1:=by omega
 have hr:p / (b.length+1)≤a.length:=by have:=(Nat.div_lt_iff_lt_mul hW).2 hp;omega
 have hm:=Nat.mod_lt p hW
 rcases h (p / (b.length+1)) (p % (b.length+1)) hr (by omega) with e | e
 ·rw [e]
 ·rw [e];simp
def U7:List Int→List Int→Nat
 | x::a,y::b=>if x=y then U7 a b+1 else 0
 | _,_=>0
theorem G13:∀(a b:List Int),U7 a b≤a.length∧U7 a b≤b.length
 | [],_=>by simp [U7]
 | _::_,[]=>by simp [U7]
 | x::a,y::b=>by
  have:=G13 a b
  unfold U7
  simp only [I79]
  split<;>omega
theorem D82 (a b:List Int) (k:Nat) (hk:k < a.length) (hk':k < b.length):U7 (a.drop k) (b.drop k)=if a[k]=b[k] then U7 (a.drop (k+1)) (b.drop (k+1))+1 else 0:=by
 rw [I84 hk,I84 hk'];rfl
theorem H83 (a b:List Int) (k:Nat) (h:¬(k < a.length∧k < b.length)):U7 (a.drop k) (b.drop k)=0:=by
 by_cases h1:k < a.length
 ·rw [I87 (as:=b) (by omega)]
  cases a.drop k<;>rfl
 ·rw [I87 (as:=a) (by omega)];rfl
theorem D83:∀(a b:List Int) (p q:Int),F6 p q a b=O1 p q (U7 a b)++F6 (p+U7 a b) (q+U7 a b) (a.drop (U7 a b)) (b.drop (U7 a b))
 | [],b,p,q=>by simp [U7,l6]
 | x::a,[],p,q=>by simp [U7,l6]
 | x::a,y::b,p,q=>by
  unfold U7
  by_cases h:x=y
  ·rw [if_pos h]
   conv=>lhs;unfold F6
   rw [if_pos h,D83 a b (p+1) (q+1),A64]
   simp only [List.drop_succ_cons,J19]
   rw [show p+1+(U7 a b:Int)=p+((U7 a b+1:Nat):Int) by omega,show q+1+(U7 a b:Int)=q+((U7 a b+1:Nat):Int) by omega]
  ·rw [if_neg h]
   simp [l6]
end Go.AL
namespace Go.AL
open Go
def Z4 (l:List Merged) (bit:Int) (a b:Nat):List Merged:=((l.drop a).take (b - a)).map fun y=>⟨y.Line,K4 y.Parents bit⟩
def C32 (list:List Int) (bit:Int) (a n:Nat):List Merged:=((list.drop a).take n).map fun v=>⟨v,bit⟩
def l8 (l:List Merged) (list:List Int) (bit:Int) (k:Nat):List Change→List Merged
 | []=>Z4 l bit k l.length
 | c::r=>Z4 l bit k c.Old.toNat++(l.drop c.Old.toNat).take c.OldLen.toNat++C32 list bit c.New.toNat c.NewLen.toNat++l8 l list bit (c.Old.toNat+c.OldLen.toNat) r
theorem G77 {α:Type} (l:List α) {a b c:Nat} (h1:a≤b) (h2:b≤c):(l.drop a).take (c - a)=(l.drop a).take (b - a)++(l.drop b).take (c - b):=by
 have h:=List.take_add (l:=l.drop a) (i:=b - a) (j:=c - b)
 rw [List.drop_drop,show b - a+(c - b)=c - a by omega,show a+(b - a)=b by omega] at h
 exact h
theorem C92 (l:List Merged) (bit:Int) {a b c:Nat} (h1:a≤b) (h2:b≤c):Z4 l bit a c=Z4 l bit a b++Z4 l bit b c:=by
 unfold Z4;rw [G77 l h1 h2,I92]
theorem C61 (l:List Merged) (bit:Int) (a:Nat):Z4 l bit a a=[]:=by unfold Z4;simp
theorem C62 (l:List Merged) (bit:Int) {a:Nat} (h:a < l.length):Z4 l bit a (a+1)=(l[a]?.map fun y=>(⟨y.Line,K4 y.Parents bit⟩:Merged)).toList:=by
 unfold Z4
 rw [show a+1 - a=1 by omega,I80 h,I84 h]
 rfl
theorem D84 (l:List Merged) (list:List Int) (bit:Int):∀(ps:List Span) (k i j:Nat),k≤i→Asc l.length list.length i j ps →
  l8 l list bit k (O5 i j ps l.length list.length)=Z4 l bit k i++Q4 l list bit i j ps
 | [],k,i,j,hk,ha=>by
  have h1:(i:Int)≤l.length∧(j:Int)≤list.length:=ha
  unfold O5 Q4
  by_cases h:(l.length:Int) > i∨(list.length:Int) > j
  ·rw [if_pos h]
   simp only [l8]
   rw [show (i:Int).toNat+((l.length:Int) - i).toNat=l.length by omega,C61,I97,I85,I85,show ((l.length:Int) - i).toNat=l.length - i by omega,show ((list.length:Int) - j).toNat=list.length - j by omega,I88]
   rfl
  ·rw [if_neg h]
   have e1:i=l.length:=by omega
   have e2:j=list.length:=by omega
   rw [e1,e2]
   simp [l8]
 | x::r,k,i,j,hk,ha=>by
  obtain ⟨h1,h2,h3⟩:=ha
  have h4:=h3.le
  have e1:((x.From.toNat+1:Nat):Int)=x.From+1:=by omega
  have e2:((x.To.toNat+1:Nat):Int)=x.To+1:=by omega
  have ih:=fun k (hk:k≤x.From.toNat+1)=>D84 l list bit r k (x.From.toNat+1) (x.To.toNat+1) hk (by rw [e1,e2];exact h3)
  rw [e1,e2] at ih
  have hlt:x.From.toNat < l.length:=by omega
  unfold O5 Q4
  by_cases h:x.From > i∨x.To > j
  ·rw [if_pos h,J25,l8]
   dsimp only
   rw [show (i:Int).toNat+(x.From - i).toNat=x.From.toNat by omega,ih _ (by omega),C62 l bit hlt,I85,I85,show (x.From - (i:Int)).toNat=x.From.toNat - i by omega,show (x.To - (j:Int)).toNat=x.To.toNat - j by omega]
   unfold C32
   simp only [I88]
  ·rw [if_neg h,J11]
   have e3:x.From.toNat=i:=by omega
   have e4:x.To.toNat=j:=by omega
   rw [ih k (by omega),C92 l bit hk (show i≤x.From.toNat+1 by omega),e3,e4,C62 l bit (by omega)]
   simp
theorem I30 (l:List Merged) (list:List Int) (bit:Int):l8 l list bit 0 (L6 (F7 l) list)=Q4 l list bit 0 0 (F6 0 0 (F7 l) list):=by
 have hasc:=X2 (F7 l) list 0 0
 rw [Int.zero_add,Int.zero_add,show (F7 l).length=l.length by simp [F7]] at hasc
 have:=D84 l list bit (F6 0 0 (F7 l) list) 0 0 0 (Nat.le_refl _) hasc
 rw [C61,J11] at this
 unfold L6 Y8
 rw [show (F7 l).length=l.length by simp [F7]]
 exact this
def P3 (p:Int) (ms:List Int) (c:Change):List Int:=ms.mapIdx fun k m=>if c.New.toNat≤k∧k < c.New.toNat+c.NewLen.toNat then K4 m (I0 p) else m
theorem q8 (p:Int) (ms:List Int) (c:Change):(P3 p ms c).length=ms.length:=by simp [P3]
theorem A00 (p:Int) (ms:List Int) (c:Change) (k:Nat):(P3 p ms c)[k]?=ms[k]?.map fun m=>if c.New.toNat≤k∧k < c.New.toNat+c.NewLen.toNat then K4 m (I0 p) else m:=by
 unfold P3;rw [List.getElem?_mapIdx]
def A01 (cs:List Change) (k:Nat):Bool:=cs.any fun c=>decide (c.New.toNat≤k∧k < c.New.toNat+c.NewLen.toNat)
def B36 (ps:List Span) (k:Nat):Bool:=ps.any fun x=>decide (x.To.toNat=k)
theorem or_or (m b:Int):K4 (K4 m b) b=K4 m b:=by
 unfold K4
 have h:BitVec.ofInt IntKind.u32.bits (IntKind.u32.wrap ((BitVec.ofInt IntKind.u32.bits m ||| BitVec.ofInt IntKind.u32.bits b).toNat:Int))=BitVec.ofInt IntKind.u32.bits m ||| BitVec.ofInt IntKind.u32.bits b:=by
  rw [show IntKind.u32.wrap ((BitVec.ofInt IntKind.u32.bits m ||| BitVec.ofInt IntKind.u32.bits b).toNat:Int)=((BitVec.ofInt IntKind.u32.bits m ||| BitVec.ofInt IntKind.u32.bits b).toNat:Int) from A18 _ (by
   have:=(BitVec.ofInt IntKind.u32.bits m ||| BitVec.ofInt IntKind.u32.bits b).isLt
   exact this)]
  rw [BitVec.ofInt_natCast,BitVec.ofNat_toNat,BitVec.setWidth_eq]
 rw [h,BitVec.or_assoc,BitVec.or_self]
theorem G14 (p:Int):∀(cs:List Change) (ms:List Int) (k:Nat),(cs.foldl (P3 p) ms)[k]?=ms[k]?.map fun m=>if A01 cs k=true then K4 m (I0 p) else m
 | [],ms,k=>by simp [A01]
 | c::r,ms,k=>by
  rw [J05,G14 p r,A00,Option.map_map]
  congr 1
  funext m
  show (if A01 r k=true then K4 (if c.New.toNat≤k∧k < c.New.toNat+c.NewLen.toNat then K4 m (I0 p) else m) (I0 p) else if c.New.toNat≤k∧k < c.New.toNat+c.NewLen.toNat then K4 m (I0 p) else m)=if A01 (c::r) k=true then K4 m (I0 p) else m
  have e:A01 (c::r) k=(decide (c.New.toNat≤k∧k < c.New.toNat+c.NewLen.toNat)||A01 r k):=rfl
  rw [e]
  by_cases h1:c.New.toNat≤k∧k < c.New.toNat+c.NewLen.toNat
  ·rw [if_pos h1,decide_eq_true h1,Bool.true_or,if_pos rfl]
   cases A01 r k
   ·rw [if_neg (by decide)]
   ·rw [if_pos rfl,or_or]
  ·rw [if_neg h1,decide_eq_false h1,Bool.false_or]
theorem clr_clr (m b:Int):b9 (b9 m b) b=b9 m b:=by
 unfold b9
 have h:BitVec.ofInt IntKind.u32.bits (IntKind.u32.wrap ((BitVec.ofInt IntKind.u32.bits m &&& ~~~BitVec.ofInt IntKind.u32.bits b).toNat:Int))=BitVec.ofInt IntKind.u32.bits m &&& ~~~BitVec.ofInt IntKind.u32.bits b:=by
  rw [show IntKind.u32.wrap ((BitVec.ofInt IntKind.u32.bits m &&& ~~~BitVec.ofInt IntKind.u32.bits b).toNat:Int)=((BitVec.ofInt IntKind.u32.bits m &&& ~~~BitVec.ofInt IntKind.u32.bits b).toNat:Int) from A18 _ (by
   have:=(BitVec.ofInt IntKind.u32.bits m &&& ~~~BitVec.ofInt IntKind.u32.bits b).isLt
   exact this)]
  rw [BitVec.ofInt_natCast,BitVec.ofNat_toNat,BitVec.setWidth_eq]
 rw [h,BitVec.and_assoc,BitVec.and_self]
theorem E70 (p:Int):∀(ps:List Span) (ms:List Int) (k:Nat),(∀x∈ps,x.To.toNat < ms.length)→(ps.foldl (K2 p) ms)[k]?=ms[k]?.map fun m=>if B36 ps k=true then b9 m (I0 p) else m
 | [],ms,k,_=>by simp [B36]
 | x::r,ms,k,hp=>by
  have hx:=hp x (by simp)
  have hlen:(K2 p ms x).length=ms.length:=by simp [K2]
  rw [J05,E70 p r _ k (fun y hy=>by rw [hlen];exact hp y (by simp [hy]))]
  have hget:(K2 p ms x)[k]?=ms[k]?.map fun m=>if x.To.toNat=k then b9 m (I0 p) else m:=by
   unfold K2
   rw [List.getElem?_set]
   by_cases h:x.To.toNat=k
   ·subst h
    rw [if_pos rfl,if_pos hx,I80 hx,I82,I80 hx]
    simp
   ·rw [if_neg h];simp [h]
  rw [hget,Option.map_map]
  congr 1
  funext m
  show (if B36 r k=true then b9 (if x.To.toNat=k then b9 m (I0 p) else m) (I0 p) else if x.To.toNat=k then b9 m (I0 p) else m)=if B36 (x::r) k=true then b9 m (I0 p) else m
  have e:B36 (x::r) k=(decide (x.To.toNat=k)||B36 r k):=rfl
  rw [e]
  by_cases h1:x.To.toNat=k
  ·rw [if_pos h1,decide_eq_true h1,Bool.true_or,if_pos rfl]
   cases B36 r k
   ·rw [if_neg (by decide)]
   ·rw [if_pos rfl,clr_clr]
  ·rw [if_neg h1,decide_eq_false h1,Bool.false_or]
theorem clr_or (m:Nat) (p:Nat) (hp:p < 32) (hm:m < 2 ^ p):b9 (K4 m (I0 p)) (I0 p)=m:=by
 have h2:2 ^ p < 2 ^ 32:=Nat.pow_lt_pow_right (by decide) hp
 have hb:I0 (p:Int)=((2 ^ p:Nat):Int):=by
  unfold I0
  rw [A34 (n:=(p:Int)) (by omega),show min ((p:Int)).toNat IntKind.u32.bits=p by rw [I85];exact Nat.min_eq_left (by show p≤32;omega),Int.one_mul]
  rw [show (2:Int) ^ p=((2 ^ p:Nat):Int) by simp]
  exact A18 _ (by omega)
 rw [hb]
 obtain ⟨h3,h4⟩:=C24 m (2 ^ p) (by omega) (by omega)
 rw [h3]
 unfold b9
 have e1:BitVec.ofInt IntKind.u32.bits (((m ||| 2 ^ p:Nat)):Int)=BitVec.ofNat 32 (m ||| 2 ^ p):=by simp [BitVec.ofInt_natCast];rfl
 have e2:BitVec.ofInt IntKind.u32.bits ((2 ^ p:Nat):Int)=BitVec.ofNat 32 (2 ^ p):=by rw [BitVec.ofInt_natCast];rfl
 rw [e1,e2]
 have h5:(BitVec.ofNat 32 (m ||| 2 ^ p) &&& ~~~BitVec.ofNat 32 (2 ^ p))=BitVec.ofNat 32 m:=by
  apply BitVec.eq_of_getLsbD_eq
  intro i hi
  simp only [BitVec.getLsbD_and,BitVec.getLsbD_not,BitVec.getLsbD_ofNat,hi,decide_true,Bool.true_and,Nat.testBit_or,Nat.testBit_two_pow]
  by_cases hip:p=i
  ·subst hip
   simp [Nat.testBit_lt_two_pow hm]
  ·simp [hip]
 have h6:(BitVec.ofNat 32 m).toNat=m:=by rw [BitVec.toNat_ofNat];exact Nat.mod_eq_of_lt (by omega)
 have h7:((BitVec.ofNat 32 (m ||| 2 ^ p) &&& ~~~BitVec.ofNat 32 (2 ^ p)).toNat:Int)=m:=by rw [h5,h6]
 exact (congrArg IntKind.u32.wrap h7).trans (A18 _ (by omega))
end Go.AL
namespace Go.AL
open Go
theorem G15 (a b:List Span) (k:Nat):B36 (a++b) k=(B36 a k||B36 b k):=by unfold B36;rw [List.any_append]
theorem C33 (i j:Int) (t:Nat) (k:Nat) (hj:0≤j):B36 (O1 i j t) k=decide (j≤k∧(k:Int) < j+t):=by
 unfold B36 O1
 rw [List.any_map,Bool.eq_iff_iff,List.any_eq_true,decide_eq_true_eq]
 constructor
 ·rintro ⟨s,hs,h⟩
  have h1:=List.mem_range.1 hs
  have h2:(j+(s:Int)).toNat=k:=A0 h
  omega
 ·rintro ⟨h1,h2⟩
  refine ⟨((k:Int) - j).toNat,List.mem_range.2 (by omega),?_⟩
  show decide ((j+((((k:Int) - j).toNat:Nat):Int)).toNat=k)=true
  exact decide_eq_true (by omega)
theorem D85 (c:Change) (r:List Change) (k:Nat):A01 (c::r) k=(decide (c.New.toNat≤k∧k < c.New.toNat+c.NewLen.toNat)||A01 r k):=rfl
theorem E71:∀(cs:List Change) (k0:Nat) (i j m n:Int),L1 k0 i j cs m n=true→0≤i→0≤j →
  (∀k:Nat,(k:Int) < j→B36 (K1 i j cs m) k=false∧A01 cs k=false)∧∀k:Nat,j≤k→(k:Int) < n→B36 (K1 i j cs m) k=!A01 cs k
 | [],k0,i,j,m,n,h,h1,h2=>by
  simp only [L1,decide_eq_true_eq] at h
  unfold K1
  refine ⟨fun k hk=>⟨?_,rfl⟩,fun k hk hk2=>?_⟩
  ·rw [C33 _ _ _ _ h2];exact decide_eq_false (by omega)
  ·rw [C33 _ _ _ _ h2]
   show _=true
   exact decide_eq_true (by omega)
 | c :: r,k0,i,j,m,n,h,h1,h2=>by
  simp only [L1,I83,decide_eq_true_eq] at h
  obtain ⟨hb,hr⟩:=h
  have hc:(0≤c.OldLen∧0≤c.NewLen∧i≤c.Old∧c.Old - i=c.New - j):=by
   unfold F26 M9 at hb
   by_cases a2:(0≤c.OldLen∧c.OldLen≤4096)<;>by_cases a4:(0≤c.NewLen∧c.NewLen≤4096)<;>simp [a2,a4] at hb ⊢<;>omega
  obtain ⟨c1,c2,c3,c4⟩:=hc
  obtain ⟨i1,i2⟩:=E71 r (k0+1) (c.Old+c.OldLen) (c.New+c.NewLen) m n hr (by omega) (by omega)
  unfold K1
  rw [show max i c.Old=c.Old by omega,show j+((c.Old - i).toNat:Int)+c.NewLen=c.New+c.NewLen by omega]
  refine ⟨fun k hk=>?_,fun k hk hk2=>?_⟩
  ·obtain ⟨q1,q2⟩:=i1 k (by omega)
   rw [G15,C33 _ _ _ _ h2,D85,q1,q2,decide_eq_false (by omega),decide_eq_false (by omega)]
   exact ⟨rfl,rfl⟩
  ·rw [G15,C33 _ _ _ _ h2,D85]
   by_cases g1:(k:Int) < c.New
   ·obtain ⟨q1,q2⟩:=i1 k (by omega)
    rw [q1,q2,decide_eq_true (by omega),decide_eq_false (by omega)];rfl
   ·rw [decide_eq_false (by omega),Bool.false_or]
    by_cases g2:(k:Int) < c.New+c.NewLen
    ·obtain ⟨q1,q2⟩:=i1 k g2
     rw [q1,decide_eq_true (by omega)];rfl
    ·rw [i2 k (by omega) hk2,decide_eq_false (by omega),Bool.false_or]
theorem H21 {m n:Int}:∀{p:List Span} {i j:Int},Asc m n i j p→∀x∈p,i≤x.From∧x.From < m∧j≤x.To∧x.To < n
 | x::r,i,j,h,y,hy=>by
  obtain ⟨h1,h2,h3⟩:=h
  have h4:=h3.le
  rcases List.mem_cons.1 hy with rfl | hy
  ·omega
  ·have:=H21 h3 y hy;omega
def A02 (ids:List (List Int)) (s:Loom) (p:Nat):Loom :=
 let file:=ids.getD (p+1) []
 let sc:=L6 file (ids.getD 0 [])
 (sc.foldl (P3 p) s.1,sc.foldl (J5 p file) s.2)
def A81 (ids:List (List Int)) (lines n p:Nat):Loom:=(List.range p).foldl (A02 ids) (w9 lines n)
theorem C93 (ids:List (List Int)) (lines n p:Nat):A81 ids lines n (p+1)=A02 ids (A81 ids lines n p) p:=by
 unfold A81;rw [J15,J07];rfl
def LowM (p:Nat) (ms:List Int):Prop:=∀v∈ms,0≤v∧v < ((2 ^ p:Nat):Int)
theorem H84 {p:Nat} (hp:p < 32):I0 (p:Int)=((2 ^ p:Nat):Int):=by
 have h2:2 ^ p < 2 ^ 32:=Nat.pow_lt_pow_right (by decide) hp
 unfold I0
 rw [A34 (n:=(p:Int)) (by omega),show min ((p:Int)).toNat IntKind.u32.bits=p by rw [I85];exact Nat.min_eq_left (by show p≤32;omega),Int.one_mul]
 rw [show (2:Int) ^ p=((2 ^ p:Nat):Int) by simp]
 exact A18 _ (by omega)
theorem or_low {m:Int} {p:Nat} (hp:p < 32) (h:0≤m∧m < ((2 ^ p:Nat):Int)):0≤K4 m (I0 p)∧K4 m (I0 p) < ((2 ^ (p+1):Nat):Int):=by
 have h2:2 ^ p < 2 ^ 32:=Nat.pow_lt_pow_right (by decide) hp
 obtain ⟨q,rfl⟩:∃q:Nat,m=q:=⟨m.toNat,by omega⟩
 have hq:q < 2 ^ p:=by omega
 rw [H84 hp]
 obtain ⟨h3,_⟩:=C24 q (2 ^ p) (by omega) (by omega)
 rw [h3]
 have h4:q ||| 2 ^ p < 2 ^ (p+1):=Nat.or_lt_two_pow (by rw [Nat.pow_succ];omega) (by rw [Nat.pow_succ];omega)
 omega
theorem H85 {ids:List (List Int)} {s:Loom} {p:Nat} {file base:List Int} (hf:file=ids.getD (p+1) []) (hb:base=ids.getD 0 []) (hp:p < 32) (hlow:LowM p s.1) (hlen:s.1.length=base.length) (hfl:file.length≤4096) (hbl:base.length≤4096) :
  A02 ids s p=L7 ids s p∧LowM (p+1) (A02 ids s p).1∧(A02 ids s p).1.length=base.length:=by
 have hasc:=X2 file base 0 0
 rw [Int.zero_add,Int.zero_add] at hasc
 have hsc:=B54 (m:=file.length) (n:=base.length) ⟨by omega,by omega⟩ ⟨by omega,by omega⟩ (F6 0 0 file base) 0 0 0 0 0 hasc (by omega) (by omega) (by omega) (by omega) (by omega)
 obtain ⟨_,hm⟩:=E71 _ 0 0 0 file.length base.length hsc (by omega) (by omega)
 have hmade:=A67 file base
 obtain ⟨sc,hscd⟩:∃sc,sc=L6 file base:=⟨_,rfl⟩
 have hsc2:O5 0 0 (F6 0 0 file base) file.length base.length=sc:=by rw [hscd];rfl
 rw [hsc2] at hm
 have e1:A02 ids s p=(sc.foldl (P3 p) s.1,sc.foldl (J5 p file) s.2):=by rw [hscd,hf,hb];rfl
 have e2:L7 ids s p=((P5 sc file.length).foldl (K2 p) (s.1.map (K4 · (I0 p))),sc.foldl (J5 p file) s.2):=by rw [hscd,hf,hb];rfl
 have hget:=G14 p sc s.1
 have hlen1:(sc.foldl (P3 p) s.1).length=s.1.length:=by
  have key:∀(cs:List Change) (ms:List Int),(cs.foldl (P3 p) ms).length=ms.length:=by
   intro cs
   induction cs with
   | nil=>intro ms;rfl
   | cons c r ih=>intro ms;rw [J05,ih,q8]
  exact key sc s.1
 refine ⟨?_,?_,by rw [e1];dsimp only;rw [hlen1,hlen]⟩
 ·rw [e1,e2,Prod.mk.injEq]
  refine ⟨?_,rfl⟩
  refine List.ext_getElem? fun k=>?_
  have hto:∀x∈P5 sc file.length,x.To.toNat < (s.1.map (K4 · (I0 p))).length:=by
   intro x hx
   rw [J00,hlen]
   rw [hscd,hmade] at hx
   have:=H21 hasc x hx
   omega
  rw [hget,E70 p _ _ k hto,J03,Option.map_map]
  cases hk:s.1[k]? with
  | none=>rfl
  | some v =>
   have hkl:k < base.length:=by have:=(List.getElem?_eq_some_iff.1 hk).1;omega
   have h3:=hm k (by omega) (by omega)
   have hv:=hlow v (I98 hk)
   show some (if A01 sc k=true then K4 v (I0 p) else v)=some (if B36 (P5 sc file.length) k=true then b9 (K4 v (I0 p)) (I0 p) else K4 v (I0 p))
   have h3:B36 (P5 sc file.length) k=!A01 sc k:=h3
   rw [h3]
   cases A01 sc k
   ·obtain ⟨q,rfl⟩:∃q:Nat,v=q:=⟨v.toNat,by omega⟩
    rw [if_neg (by decide),if_pos (show (!false)=true from rfl),clr_or q p hp (by omega)]
   ·rw [if_pos rfl,if_neg (by decide)]
 ·rw [e1]
  intro v hv
  obtain ⟨k,hk,rfl⟩:=List.mem_iff_getElem.1 hv
  have hkl:k < s.1.length:=by rw [←hlen1];exact hk
  have h4:=hget k
  rw [I80 hk,I80 hkl] at h4
  have h4:(sc.foldl (P3 p) s.1)[k]=if A01 sc k=true then K4 s.1[k] (I0 p) else s.1[k]:=Option.some.inj h4
  show 0≤(sc.foldl (P3 p) s.1)[k]∧(sc.foldl (P3 p) s.1)[k] < _
  rw [h4]
  have hv:=hlow s.1[k] (I90 hkl)
  split
  ·exact or_low hp hv
  ·have:2 ^ p≤2 ^ (p+1):=Nat.pow_le_pow_right (by decide) (by omega)
   omega
theorem E72 {ids:List (List Int)} {base:List Int} {n:Nat} (hb:base=ids.getD 0 []) (hl:∀x∈ids,x.length≤4096) (hbl:base.length≤4096):∀p,p≤32→A81 ids base.length n p=Q9 ids base.length n p∧LowM p (A81 ids base.length n p).1∧(A81 ids base.length n p).1.length=base.length
 | 0,_=>by
  refine ⟨rfl,fun v hv=>?_,by simp [A81,w9]⟩
  have:=List.eq_of_mem_replicate (show v∈List.replicate base.length 0 from hv)
  subst this;decide
 | p+1,hp=>by
  obtain ⟨h1,h2,h3⟩:=E72 (n:=n) hb hl hbl p (by omega)
  have hfl:(ids.getD (p+1) []).length≤4096:=by
   rw [I82]
   cases hx:ids[p+1]? with
   | none=>simp
   | some x=>exact hl x (I98 hx)
  obtain ⟨s1,s2,s3⟩:=H85 (ids:=ids) (s:=A81 ids base.length n p) (p:=p) rfl hb (by omega) h2 h3 hfl hbl
  rw [C93,B30,s1,h1]
  rw [s1,h1] at s2 s3
  exact ⟨rfl,s2,s3⟩
theorem G16 (p:Int) (ms:List Int) (a b d:Int):P3 p ms ⟨a,b,d,0⟩=ms:=by
 refine List.ext_getElem? fun k=>?_
 rw [A00]
 cases h:ms[k]? with
 | none=>rfl
 | some v=>simp only [Option.map_some];rw [if_neg (by omega)]
theorem G17 (p:Int) (ms:List Int) (a b:Int) (d t:Nat) (h:d+t < ms.length):(P3 p ms ⟨a,b,d,t⟩)[d+t]?=some (ms.getD (d+t) 0)∧(P3 p ms ⟨a,b,d,t⟩).set (d+t) (K4 (ms.getD (d+t) 0) (I0 p))=P3 p ms ⟨a,b,d,((t+1:Nat):Int)⟩:=by
 have hg:ms[d+t]?=some (ms.getD (d+t) 0):=by rw [I82,I80 h];rfl
 refine ⟨?_,?_⟩
 ·rw [A00,hg]
  simp only [Option.map_some,I85]
  rw [if_neg (by omega)]
 ·refine List.ext_getElem? fun k=>?_
  rw [List.getElem?_set,A00,A00,q8]
  simp only [I85]
  by_cases hk:d+t=k
  ·subst hk
   rw [if_pos rfl,if_pos h,hg]
   simp only [Option.map_some]
   rw [if_pos (by omega)]
  ·rw [if_neg hk]
   cases ms[k]? with
   | none=>rfl
   | some v =>
    simp only [Option.map_some]
    by_cases g:d≤k∧k < d+t
    ·rw [if_pos g,if_pos (by omega)]
    ·rw [if_neg g,if_neg (by omega)]
end Go.AL
namespace Go.AL
open Go
def GrX (l:List Change) (m ctx:Int):Nat→List Hunk→Nat→Prop
 | a,[],k=>a=k
 | a,h::r,k=>∃b,a < b∧opens l ctx a∧(∀c,a < c→c < b→¬opens l ctx c)∧h=mkH l m ctx a b∧GrX l m ctx b r k
theorem GrX.le {l:List Change} {m ctx:Int}:∀{hs:List Hunk} {a k:Nat},GrX l m ctx a hs k→a≤k
 | [],a,k,h=>Nat.le_of_eq h
 | _::_,a,k,⟨b,h1,_,_,_,h2⟩=>by have:=GrX.le h2;omega
theorem GrX.snoc {l:List Change} {m ctx:Int} {k n:Nat} (ho:opens l ctx k) (hk:k < n) (hno:∀c,k < c→c < n→¬opens l ctx c):∀{hs:List Hunk} {a:Nat},GrX l m ctx a hs k→GrX l m ctx a (hs++[mkH l m ctx k n]) n
 | [],a,h=>by
  obtain rfl:a=k:=h
  exact ⟨n,hk,ho,hno,rfl,rfl⟩
 | _::_,a,⟨b,h1,h2,h3,h4,h5⟩=>⟨b,h1,h2,h3,h4,GrX.snoc ho hk hno h5⟩
theorem GrX.last {l:List Change} {m ctx:Int} {k:Nat} (hno:¬opens l ctx k):∀{hs:List Hunk} {a:Nat},GrX l m ctx a hs k→hs≠[]→GrX l m ctx a (hs.set (hs.length - 1) (C26 l m ctx k (hs.getD (hs.length - 1) H16))) (k+1)
 | [],_,_,h0=>absurd rfl h0
 | [h],a,⟨b,h1,h2,h3,h4,h5⟩,_=>by
  obtain rfl:b=k:=h5
  subst h4
  refine ⟨b+1,by omega,h2,fun c hc1 hc2=>?_,rfl,rfl⟩
  by_cases hcb:c=b
  ·rw [hcb];exact hno
  ·exact h3 c hc1 (by omega)
 | h::h'::r,a,⟨b,h1,h2,h3,h4,h5⟩,_=>by
  have ih:=GrX.last hno h5 (by simp)
  refine ⟨b,h1,h2,h3,h4,?_⟩
  simpa using ih
theorem GrX.len {l:List Change} {m ctx:Int}:∀{hs:List Hunk} {a k:Nat},GrX l m ctx a hs k→hs.length≤k - a
 | [],_,_,_=>Nat.zero_le _
 | _::_,a,k,⟨b,h1,_,_,_,h2⟩=>by have:=GrX.len h2;have:=h2.le;simp only [I79];omega
end Go.AL
namespace Go.AL
open Go
def x7:List Str→Int→List (Str × Cell)
 | [],_=>[]
 | s::r,i=>(s,.v (.int .i64 i))::x7 r (i+1)
theorem E73 (s:Str):∀(l:List Str) (i:Int),x7 (l++[s]) i=x7 l i++[(s,.v (.int .i64 (i+l.length)))]
 | [],i=>by simp [x7]
 | x::r,i=>by
  simp only [J19,x7,E73 s r,I79]
  rw [show i+1+(r.length:Int)=i+((r.length+1:Nat):Int) by omega]
theorem E74 (s:Str):∀(l:List Str) (i:Int),s∈l→u6 (x7 l i) s=some (.v (.int .i64 (I1 l s i)))
 | [],_,h=>by simp at h
 | x::r,i,h=>by
  simp only [x7,u6,I1]
  by_cases he:x=s
  ·rw [if_pos he,if_pos he]
  ·rw [if_neg he,if_neg he]
   exact E74 s r (i+1) ((List.mem_cons.1 h).resolve_left (fun q=>he q.symm))
theorem D86 (s:Str):∀(l:List Str) (i:Int),s∉l→u6 (x7 l i) s=none
 | [],_,_=>rfl
 | x::r,i,h=>by
  simp only [x7,u6]
  rw [if_neg (fun q=>h (by simp [q]))]
  exact D86 s r (i+1) (fun q=>h (by simp [q]))
theorem B37 (s:Str) (r:List Str):∀(l:List Str) (i:Int),s∈l→I1 (l++r) s i=I1 l s i
 | [],_,h=>by simp at h
 | x::l,i,h=>by
  simp only [J19,I1]
  by_cases he:x=s
  ·rw [if_pos he,if_pos he]
  ·rw [if_neg he,if_neg he]
   exact B37 s r l (i+1) ((List.mem_cons.1 h).resolve_left (fun q=>he q.symm))
theorem C94 (s:Str):∀(l:List Str) (i:Int),s∉l→I1 (l++[s]) s i=i+l.length
 | [],i,_=>by simp [I1]
 | x::l,i,h=>by
  simp only [J19,I1,I79]
  rw [if_neg (fun q=>h (by simp [q])),C94 s l (i+1) (fun q=>h (by simp [q]))]
  omega
theorem C34:∀(l out:List Str),∃r,l.foldl H4 out=out++r
 | [],out=>⟨[],by simp⟩
 | s::l,out=>by
  obtain ⟨r,hr⟩:=C34 l (H4 out s)
  rw [J05,hr]
  unfold H4
  split
  ·exact ⟨r,rfl⟩
  ·exact ⟨s::r,by simp⟩
def O2 (files:List (List Str)) (k j:Nat):List Str:=((files.take k).flatten++(files.getD k []).take j).foldl H4 []
theorem G18 (files:List (List Str)) (k:Nat):O2 files (k+1) 0=O2 files k (files.getD k []).length:=by
 unfold O2
 rw [List.take_zero,I97,I94]
 by_cases h:k < files.length
 ·rw [T3 files k h]
  congr 2
  simp [h]
 ·rw [J17 (by omega),J17 (by omega)]
  have:files.getD k []=[]:=by simp [show files.length≤k by omega]
  rw [this,I97]
theorem F31 (files:List (List Str)) (k j:Nat) (s:Str) (h:(files.getD k [])[j]?=some s):O2 files k (j+1)=H4 (O2 files k j) s:=by
 unfold O2
 have hj:j < (files.getD k []).length:=(List.getElem?_eq_some_iff.1 h).1
 have he:=(List.getElem?_eq_some_iff.1 h).2
 rw [I86 hj,he,←I88,J07]
 rfl
theorem G19 (files:List (List Str)):O2 files files.length 0=E2 files:=by
 unfold O2 E2
 rw [I94];simp
theorem C95 (files:List (List Str)) (k j:Nat):∃r,E2 files=O2 files k j++r:=by
 have h:∃m,files.flatten=((files.take k).flatten++(files.getD k []).take j)++m:=by
  refine ⟨(files.getD k []).drop j++(files.drop (k+1)).flatten,?_⟩
  by_cases hk:k < files.length
  ·have e:files=files.take k++files.getD k []::files.drop (k+1):=by
    have:files.getD k []=files[k]:=by simp [hk]
    rw [this,List.getElem_cons_drop,J20]
   conv=>lhs;rw [e]
   rw [J04,I96,I88]
   congr 1
   rw [←I88,J20]
  ·have:files.getD k []=[]:=by simp [show files.length≤k by omega]
   rw [this,J17 (by omega:files.length≤k),I87 (by omega:files.length≤k+1)]
   simp
 obtain ⟨m,hm⟩:=h
 unfold E2 O2
 rw [hm,J07]
 obtain ⟨r,hr⟩:=C34 m (((files.take k).flatten++(files.getD k []).take j).foldl H4 [])
 exact ⟨r,hr⟩
theorem D87 (files:List (List Str)) (k j:Nat):(O2 files k j).length≤files.flatten.length:=by
 obtain ⟨r,hr⟩:=C95 files k j
 have:=B26 files
 rw [hr,I78] at this;omega
def P2 (files:List (List Str)) (k:Nat):List TC:=(List.range files.length).map fun r=>if r < k then .p (.list Int 1 F9 (L3 (E2 files) (files.getD r []))) else .p (.v (.slice none 0 0))
theorem H86 {files:List (List Str)} {k:Nat} (h:k < files.length):(P2 files k)[k]?=some (.p (.v (.slice none 0 0))):=by
 simp [P2,h]
theorem F32 (files:List (List Str)) (k m:Nat) (_h:k < files.length):((P2 files k).set k (.buf m Int 1 F9 (L3 (E2 files) (files.getD k [])))).map (TC.forget m)=P2 files (k+1):=by
 have e1:(P2 files k).map (TC.forget m)=P2 files k:=by
  unfold P2
  rw [J18]
  apply List.map_congr_left
  intro r _
  simp only [Function.comp]
  split<;>rfl
 rw [List.map_set,e1]
 have e2:(TC.buf m Int 1 F9 (L3 (E2 files) (files.getD k []))).forget m=.p (.list Int 1 F9 (L3 (E2 files) (files.getD k []))):=by simp [TC.forget]
 rw [e2]
 unfold P2
 refine n9 _ _ _ _ _ (fun _=>by simp) (fun q hq hne=>?_)
 simp only [show (q < k+1)=(q < k) from propext ⟨fun h=>by omega,fun h=>by omega⟩]
theorem G78 (files:List (List Str)):List.replicate files.length (TC.p (.v (.slice none 0 0)))=P2 files 0:=by
 unfold P2
 simp only [Nat.not_lt_zero,if_false,List.map_const',J30]
theorem G79 (files:List (List Str)):P2 files files.length=(files.map (L3 (E2 files))).map fun x=>TC.p (intsC x 0):=by
 unfold P2
 apply List.ext_getElem
 ·simp
 ·intro i h1 h2
  have hi:i < files.length:=by simpa using h1
  simp [hi,intsC]
end Go.AL
namespace Go.AL
open Go
theorem H22 (m n:Int):∀(l:List Change) (k0:Nat) (i j:Int),(∀k,k < l.length→M9 (cAt l k).Old∧M9 (cAt l k).OldLen∧M9 (cAt l k).New∧M9 (cAt l k).NewLen∧(cAt l k).OldLen+(cAt l k).NewLen≠0∧(cAt l k).Old - eoI i l k=(cAt l k).New - enI j l k∧eoI i l k≤(cAt l k).Old∧(0 < k0+k→eoI i l k < (cAt l k).Old)) →
  (m - eoI i l l.length=n - enI j l l.length∧eoI i l l.length≤m)→L1 k0 i j l m n=true
 | [],k0,i,j,_,h=>by
  have h1:m - i=n - j∧i≤m:=h
  simp only [L1,decide_eq_true_eq];omega
 | c::r,k0,i,j,h,he=>by
  simp only [L1,I83,decide_eq_true_eq]
  refine ⟨?_,H22 m n r (k0+1) _ _ (fun k hk=>?_) ?_⟩
  ·obtain ⟨h1,h2,h3,h4,h5,h6,h7,h8⟩:=h 0 (by simp)
   have h1:M9 c.Old:=h1
   have h2:M9 c.OldLen:=h2
   have h3:M9 c.New:=h3
   have h4:M9 c.NewLen:=h4
   have h5:c.OldLen+c.NewLen≠0:=h5
   have h6:c.Old - i=c.New - j:=h6
   have h7:i≤c.Old:=h7
   have h8:0 < k0+0→i < c.Old:=h8
   unfold F26
   rintro (((((((q | q) | q) | q) | q) | q) | q) | ⟨q,q2⟩)
   ·exact q h1
   ·exact q h2
   ·exact q h3
   ·exact q h4
   ·exact h5 q
   ·exact q h6
   ·omega
   ·have:=h8 (by omega);omega
  ·have:=h (k+1) (by simpa using hk)
   rw [C29,t7,t8] at this
   obtain ⟨e1,e2,e3,e4,e5,e6,e7,e8⟩:=this
   exact ⟨e1,e2,e3,e4,e5,e6,e7,fun h0=>e8 (by omega)⟩
  ·rw [I79,t7,t8] at he;exact he
theorem H23 (x y:List Str):∀(l:List Change) (i j:Int),(∀k,k < l.length→sub x (eoI i l k) (cAt l k).Old=sub y (enI j l k) (cAt l k).New)→sub x (eoI i l l.length) x.length=sub y (enI j l l.length) y.length→C59 x y i j l
 | [],_,_,_,h=>h
 | c::r,i,j,h,he=>by
  refine ⟨h 0 (by simp),H23 x y r _ _ (fun k hk=>?_) ?_⟩
  ·have:=h (k+1) (by simpa using hk)
   rw [C29,t7,t8] at this;exact this
  ·rw [I79,t7,t8] at he;exact he
theorem H24 {x:List Str} {p q:Int} {t:Nat} (h0:0≤p) (h:p+t < q):(sub x p q)[t]?=x[(p+t).toNat]?:=by
 unfold sub
 rw [List.getElem?_take,if_pos (by omega),J14]
 congr 1;omega
theorem F33 {x y:List Str} {p q p' q':Int} (h:sub x p q=sub y p' q') (h0:0≤p) (h0':0≤p') (hq:q≤x.length) (he:q - p=q' - p') {t:Nat} (ht:p+t < q):∃v,x[(p+t).toNat]?=some v∧y[(p'+t).toNat]?=some v:=by
 have h1:x[(p+t).toNat]?=some x[(p+t).toNat]:=I80 (by omega)
 refine ⟨_,h1,?_⟩
 rw [←H24 (q:=q') h0' (by omega),←h,H24 h0 ht];exact h1
theorem C96 {i j:Int} {n:Nat} {p:Span} (h:p∈O1 i j n):∃t:Nat,t < n∧p=⟨i+t,j+t⟩:=by
 unfold O1 at h
 obtain ⟨t,h1,h2⟩:=List.mem_map.1 h
 exact ⟨t,List.mem_range.1 h1,h2.symm⟩
theorem D88 {x y:List Str}:∀(l:List Change) (k0:Nat) (i j:Int),L1 k0 i j l x.length y.length=true→C59 x y i j l→0≤i→0≤j→∀p∈K1 i j l x.length,EqAt x y p
 | [],k0,i,j,hs,he,hi,hj,p,hp=>by
  simp only [L1,decide_eq_true_eq] at hs
  unfold K1 at hp
  obtain ⟨t,ht,rfl⟩:=C96 hp
  have he:sub x i x.length=sub y j y.length:=he
  exact ⟨by dsimp only;omega,by dsimp only;omega,F33 he hi hj (by omega) (by omega) (by omega)⟩
 | c::r,k0,i,j,hs,he,hi,hj,p,hp=>by
  have hok:=A20 _ _ _ _ _ _ hs
  have g:=z8 x.length y.length (c::r) k0 i j hs 0 (by simp)
  obtain ⟨g1,g2,g3,g4,g5,g6,g7,_⟩:=g
  have g1:M9 c.Old:=g1
  have g2:M9 c.OldLen:=g2
  have g3:M9 c.New:=g3
  have g4:M9 c.NewLen:=g4
  have g6:c.Old - i=c.New - j:=g6
  have g7:i≤c.Old:=g7
  simp only [L1,I83,decide_eq_true_eq] at hs
  unfold K1 at hp
  unfold M9 at g1 g2 g3 g4
  have hm:=hok.2.2.2.2.2.2.end_le
  rcases List.mem_append.1 hp with hp | hp
  ·obtain ⟨t,ht,rfl⟩:=C96 hp
   exact ⟨by dsimp only;omega,by dsimp only;omega,F33 he.1 hi hj (by omega) (by omega) (by omega)⟩
  ·rw [show max i c.Old+c.OldLen=c.Old+c.OldLen by omega,show j+((c.Old - i).toNat:Int)+c.NewLen=c.New+c.NewLen by omega] at hp
   exact D88 r (k0+1) _ _ hs.2 he.2 (by omega) (by omega) p hp
theorem ScFit.pairs {x y:List Str} {l:List Change} (h:ScFit x y l):∀p∈P5 l x.length,EqAt x y p:=D88 l 0 0 0 h.sc h.eq (Int.le_refl _) (Int.le_refl _)
def C63 (c:Change):Change:=⟨c.Old+1,c.OldLen,c.New+1,c.NewLen⟩
def A82 (l:List Change) (k:Nat):List Change:=l.set k (C63 (cAt l k))
def atI (t:List Int) (i:Int):Int:=t.getD i.toNat 0
def H25 (l:List Change) (k:Nat) (t:List Int) (f n:Int):Prop:=(f+n < t.length∧atI t f=atI t (f+n))∧(k+1=l.length∨(cAt l k).Old+(cAt l k).OldLen+1 < (cAt l (k+1)).Old)
instance (l:List Change) (k:Nat) (t:List Int) (f n:Int):Decidable (H25 l k t f n):=by unfold H25;exact inferInstance
def D18 (l:List Change) (a b:List Int) (k:Nat):Bool :=
 if (cAt l k).NewLen=0 then decide (H25 l k a (cAt l k).Old (cAt l k).OldLen) else if (cAt l k).OldLen=0 then decide (H25 l k b (cAt l k).New (cAt l k).NewLen) else false
theorem l9 (l:List Change) (k:Nat):(A82 l k).length=l.length:=by simp [A82]
theorem B55 (l:List Change) {k:Nat} (hk:k < l.length) (q:Nat):cAt (A82 l k) q=if q=k then C63 (cAt l k) else cAt l q:=by
 unfold A82
 by_cases h:q=k
 ·subst h
  have:∀z,cAt (l.set q z) q=z:=fun z=>by unfold cAt;simp [hk]
  rw [if_pos rfl,this]
 ·rw [if_neg h];unfold cAt
  simp only [I82]
  rw [List.getElem?_set_ne (Ne.symm h)]
theorem C35 (l:List Change) {k:Nat} (hk:k < l.length) (q:Nat):eoI 0 (A82 l k) q=eoI 0 l q+(if q=k+1 then 1 else 0):=by
 cases q with
 | zero=>simp [eoI]
 | succ q =>
  rw [B34,B34,B55 l hk]
  by_cases h:q=k
  ·subst h;rw [if_pos rfl,if_pos rfl];simp only [B04,C63];omega
  ·rw [if_neg h,if_neg (by omega)];omega
theorem C36 (l:List Change) {k:Nat} (hk:k < l.length) (q:Nat):enI 0 (A82 l k) q=enI 0 l q+(if q=k+1 then 1 else 0):=by
 cases q with
 | zero=>simp [enI]
 | succ q =>
  rw [B35,B35,B55 l hk]
  by_cases h:q=k
  ·subst h;rw [if_pos rfl,if_pos rfl];simp only [F28,C63];omega
  ·rw [if_neg h,if_neg (by omega)];omega
structure IdsOf (x:List Str) (a:List Int):Prop where
 len:a.length=x.length
 inj:∀(i j:Nat) (u v:Str) (z:Int),x[i]?=some u→x[j]?=some v→a[i]?=some z→a[j]?=some z→u=v
theorem ScFit.down {x y:List Str} {l:List Change} {a b:List Int} (h:ScFit x y l) (ha:IdsOf x a) (hb:IdsOf y b) {k:Nat} (hk:k < l.length) (hd:D18 l a b k=true):ScFit x y (A82 l k):=by
 have hlx:=h.lx
 have hly:=h.ly
 have hg:=z8 _ _ _ 0 0 0 h.sc
 have hge:=G74 _ _ _ 0 0 0 h.sc
 have hq:=F29 _ _ _ _ _ h.eq
 have hqe:=G75 _ _ _ _ _ h.eq
 have hok:=h.ok
 obtain ⟨c,hc⟩:∃c,c=cAt l k:=⟨_,rfl⟩
 obtain ⟨g1,g2,g3,g4,g5,g6,g7,g8⟩:=hg k hk
 have hb4:=hok.get k hk
 rw [←hc] at g1 g2 g3 g4 g5 g6 g7 g8 hb4
 unfold M9 at g1 g2 g3 g4
 have eo1:eoI 0 l (k+1)=c.Old+c.OldLen:=by rw [B34,←hc];rfl
 have en1:enI 0 l (k+1)=c.New+c.NewLen:=by rw [B35,←hc];rfl
 obtain ⟨E,E',hE1,hE2,hE3,hE4,hE5,hEn⟩:∃E E':Int,sub x (c.Old+c.OldLen) E=sub y (c.New+c.NewLen) E'∧E - (c.Old+c.OldLen)=E' - (c.New+c.NewLen)∧E≤x.length∧E'≤y.length∧(c.Old+c.OldLen < E)∧(k+1 < l.length→E=(cAt l (k+1)).Old∧E'=(cAt l (k+1)).New∧c.Old+c.OldLen+1 < E):=by
  by_cases hl:k+1=l.length
  ·rw [←hl,eo1,en1] at hge hqe
   refine ⟨x.length,y.length,hqe,by omega,by omega,by omega,?_,fun q=>absurd hl (by omega)⟩
   unfold D18 at hd
   rw [←hc] at hd
   split at hd
   ·have:=(A0 hd).1.1;rw [ha.len] at this;omega
   ·split at hd
    ·have:=(A0 hd).1.1;rw [hb.len] at this;omega
    ·cases hd
  ·have hl:k+1 < l.length:=by omega
   obtain ⟨f1,f2,f3,f4,f5,f6,f7,f8⟩:=hg (k+1) hl
   have f9:=hq (k+1) hl
   have f10:=hok.get (k+1) hl
   rw [eo1,en1] at f6 f9
   rw [eo1] at f7
   unfold M9 at f2 f4
   have hroom:c.Old+c.OldLen+1 < (cAt l (k+1)).Old:=by
    unfold D18 at hd
    rw [←hc] at hd
    split at hd
    ·have:=(A0 hd).2;rw [←hc] at this;omega
    ·split at hd
     ·have:=(A0 hd).2;rw [←hc] at this;omega
     ·cases hd
   exact ⟨_,_,f9,by omega,by omega,by omega,by omega,fun _=>⟨rfl,rfl,hroom⟩⟩
 have hv:∃v,x[c.Old.toNat]?=some v∧y[c.New.toNat]?=some v:=by
  obtain ⟨v,v1,v2⟩:=F33 (t:=0) hE1 (by omega) (by omega) (by omega) hE2 (by omega)
  simp only [Int.natCast_zero,Int.add_zero] at v1 v2
  unfold D18 at hd
  rw [←hc] at hd
  split at hd
  ·rename_i hn
   have:=(A0 hd).1.2
   rw [hn,Int.add_zero] at v2
   refine ⟨v,?_,v2⟩
   have l1:c.Old.toNat < a.length:=by rw [ha.len];omega
   have l2:(c.Old+c.OldLen).toNat < a.length:=by rw [ha.len];omega
   have hx:x[c.Old.toNat]?=some x[c.Old.toNat]:=I80 (by omega)
   have ea:a[c.Old.toNat]?=some (atI a c.Old):=by unfold atI;rw [I82,I80 l1];rfl
   have eb:a[(c.Old+c.OldLen).toNat]?=some (atI a (c.Old+c.OldLen)):=by unfold atI;rw [I82,I80 l2];rfl
   rw [←this] at eb
   have:=ha.inj _ _ _ _ _ hx v1 ea eb
   rw [hx,this]
  ·split at hd
   ·rename_i _ hn
    have:=(A0 hd).1.2
    rw [hn,Int.add_zero] at v1
    refine ⟨v,v1,?_⟩
    have l1:c.New.toNat < b.length:=by rw [hb.len];omega
    have l2:(c.New+c.NewLen).toNat < b.length:=by rw [hb.len];omega
    have hx:y[c.New.toNat]?=some y[c.New.toNat]:=I80 (by omega)
    have ea:b[c.New.toNat]?=some (atI b c.New):=by unfold atI;rw [I82,I80 l1];rfl
    have eb:b[(c.New+c.NewLen).toNat]?=some (atI b (c.New+c.NewLen)):=by unfold atI;rw [I82,I80 l2];rfl
    rw [←this] at eb
    have:=hb.inj _ _ _ _ _ hx v2 ea eb
    rw [hx,this]
   ·cases hd
 obtain ⟨v,v1,v2⟩:=hv
 have hen0:0≤eoI 0 l k∧0≤enI 0 l k:=by
  cases k with
  | zero=>simp [eoI,enI]
  | succ k =>
   obtain ⟨f1,f2,f3,f4,_⟩:=hg k (by omega)
   unfold M9 at f1 f2 f3 f4
   rw [B34,B35];unfold B04 F28;omega
 have htail:sub x (c.Old+c.OldLen+1) E=sub y (c.New+c.NewLen+1) E':=by
  have:=D77 (e:=E - (c.Old+c.OldLen) - 1) hE1 (by omega) (by omega) (by omega) (by omega) hE2
  rw [show E - (E - (c.Old+c.OldLen) - 1)=c.Old+c.OldLen+1 by omega,show E' - (E - (c.Old+c.OldLen) - 1)=c.New+c.NewLen+1 by omega] at this
  exact this
 refine ⟨hlx,hly,H22 _ _ _ 0 0 0 (fun q hql=>?_) ?_,H23 _ _ _ 0 0 (fun q hql=>?_) ?_⟩
 ·rw [l9] at hql
  rw [B55 l hk,C35 l hk,C36 l hk]
  by_cases e:q=k
  ·rw [if_pos e,if_neg (show ¬q=k+1 by omega),e,←hc]
   unfold M9
   simp only [C63]
   refine ⟨by omega,g2,by omega,g4,g5,by omega,by omega,fun _=>by omega⟩
  ·rw [if_neg e]
   obtain ⟨f1,f2,f3,f4,f5,f6,f7,f8⟩:=hg q hql
   refine ⟨f1,f2,f3,f4,f5,?_,?_,?_⟩
   ·by_cases e2:q=k+1
    ·rw [if_pos e2];omega
    ·rw [if_neg e2];omega
   ·by_cases e2:q=k+1
    ·rw [if_pos e2];have:=f8 (by omega);omega
    ·rw [if_neg e2];omega
   ·intro h0
    by_cases e2:q=k+1
    ·rw [if_pos e2,e2,eo1]
     have:=(hEn (by omega))
     omega
    ·rw [if_neg e2];have:=f8 h0;omega
 ·rw [l9,C35 l hk,C36 l hk]
  by_cases e2:l.length=k+1
  ·rw [if_pos e2,e2,eo1,en1]
   rw [e2,eo1,en1] at hge
   have h1:E≤x.length:=hE3
   omega
  ·rw [if_neg e2];omega
 ·rw [l9] at hql
  rw [B55 l hk,C35 l hk,C36 l hk]
  by_cases e:q=k
  ·rw [if_pos e,if_neg (show ¬q=k+1 by omega),e,←hc]
   simp only [C63,Int.add_zero]
   have:=hq k hk
   rw [←hc] at this
   rw [G11 hen0.1 g7 v1,G11 hen0.2 (by omega) v2,this]
  ·rw [if_neg e]
   by_cases e2:q=k+1
   ·rw [if_pos e2]
    subst e2
    obtain ⟨q1,q2,_⟩:=hEn hql
    rw [eo1,en1,←q1,←q2];exact htail
   ·rw [if_neg e2,Int.add_zero,Int.add_zero]
    exact hq q hql
 ·rw [l9,C35 l hk,C36 l hk]
  by_cases e2:l.length=k+1
  ·rw [if_pos e2]
   rw [e2,eo1,en1] at hqe hge ⊢
   have:=D77 (e:=x.length - (c.Old+c.OldLen) - 1) hqe (by omega) (by omega) (by omega) (by omega) (by omega)
   rw [show (x.length:Int) - (x.length - (c.Old+c.OldLen) - 1)=c.Old+c.OldLen+1 by omega,show (y.length:Int) - (x.length - (c.Old+c.OldLen) - 1)=c.New+c.NewLen+1 by omega] at this
   exact this
  ·rw [if_neg e2,Int.add_zero,Int.add_zero];exact hqe
section
variable {x y:List Str} {a b:List Int} (ha:IdsOf x a) (hb:IdsOf y b)
include ha hb
omit ha hb in
omit ha hb in
end
end Go.AL
namespace Go.AL
open Go
structure Made12 (on nn a b:Str) (l:List Change) (ctx:Int):Prop where
 chk:C28 ⟨on,nn,Z8 l (C7 a) (C7 b) ctx⟩=0
 wr:(H17 ⟨on,nn,Z8 l (C7 a) (C7 b) ctx⟩).length≤16777216
 fit:PFit ⟨on,nn,Z8 l (C7 a) (C7 b) ctx⟩
 rg:∀h∈Z8 l (C7 a) (C7 b) ctx,(-4611686018427387904≤h.Old∧h.Old≤4611686018427387904)∧(-4611686018427387904≤h.New∧h.New≤4611686018427387904)
 sz:szP (Z8 l (C7 a) (C7 b) ctx)≤268435456
end Go.AL
namespace Go.AL
open Go
section
variable {x y:List Str} {l:List Change}
end
end Go.AL
namespace Go.AL
open Go
end Go.AL
namespace Go.AL
open Go
end Go.AL
namespace Go.AL
open Go
theorem check12_good {p:Patch} (h:C28 p=0):C58 p.Hunks=true:=by
 unfold C28 at h
 split at h
 ·cases h
 ·split at h
  ·cases h
  ·rename_i h1;simpa using h1
end Go.AL
namespace Go.AL
open Go
structure CHunk where
 At:List Int
 Rows:List Row
 deriving DecidableEq
structure Comb where
 Path:Str
 Dense:Bool
 Parents:Int
 Hunks:List CHunk
 deriving DecidableEq
def K8:CHunk→Nat→Cell:=fun h j=>match j with
 | 0=>.list Int 1 F9 h.At
 | _=>.list Row 3 rowC h.Rows
abbrev A83 (h:CHunk):PV:=.agg [.list Int 1 F9 h.At,.list Row 3 rowC h.Rows]
abbrev O0 (c:Comb):PV:=.agg [.v (.string ⟨c.Path.toArray⟩),.v (.bool c.Dense),.v (.int .i64 c.Parents),.list CHunk 2 K8 c.Hunks]
def comb0:Comb:=⟨[],false,0,[]⟩
def R7 (n k:Nat):Int:=if k=n then -1 else k
def N4 (rows:List Row) (n k:Nat):Int:=(M8 rows (R7 n k)).length
def I5 (rows:List Row) (n:Nat):List Int:=(List.range (n+1)).map (N4 rows n)
def atS (n:Nat):Str:=List.replicate n 64
def F34 (n k:Nat):UInt8:=if k=n then 43 else 45
def C97 (n:Nat) (h:CHunk) (k:Nat):Str:=[32,F34 n k]++O7 (h.At.getD k 0) (N4 h.Rows n k)
def U4 (n:Nat) (h:CHunk) (k:Nat):Str:=((List.range k).map (C97 n h)).flatten
def A97 (n:Nat) (h:CHunk):Str:=atS (n+1)++U4 n h (n+1)++[32]++atS (n+1)
def A98 (r:Row) (p:Nat):UInt8:=if A16 r.Marks p=false then 32 else if r.Lost then 45 else 43
def c5 (n:Nat) (r:Row):Str:=(List.range n).map (A98 r)
def U8 (n:Nat) (r:Row):List Str:=if ended r.Text=true then [c5 n r++r.Text] else [c5 n r++r.Text,markS]
def Q2 (n:Nat) (h:CHunk):List Str:=(A97 n h++[10])::(h.Rows.map (U8 n)).flatten
def ccS:Str:=[100,105,102,102,32,45,45,99,99,32]
def combS:Str:=[100,105,102,102,32,45,45,99,111,109,98,105,110,101,100,32]
def parS:Str:=[112,97,114,101,110,116,115,32]
def A99 (d:Bool):Str:=if d=true then ccS else combS
def G80 (c:Comb):List Str:=(A99 c.Dense++Y3 c.Path++[10])::(parS++Z3 c.Parents++[10])::(c.Hunks.map (Q2 c.Parents.toNat)).flatten
def A37 (c:Comb):Str:=(G80 c).flatten
def A38 (n:Nat) (ends:List Int) (h:CHunk):Bool:=decide (h.At.length=n+1∧h.Rows≠[])&&(List.range (n+1)).all fun k=>decide ((ends.getD k 0≤h.At.getD k 0∧h.At.getD k 0≤4096)∧h.At.getD k 0+N4 h.Rows n k≤4096)
def U5 (n:Nat) (h:CHunk):List Int:=(List.range (n+1)).map fun k=>h.At.getD k 0+N4 h.Rows n k
def V7 (n:Nat) (ends:List Int):List CHunk→Bool
 | []=>true
 | h::r=>A38 n ends h&&V7 n (U5 n h) r
def K9 (hs:List CHunk):List Row:=(hs.map (·.Rows)).flatten
def Q6 (n:Nat) (hs:List CHunk):Bool:=V7 n (List.replicate (n+1) 0) hs&&l7 (K9 hs) n
def W3 (n:Nat) (hs:List CHunk):Bool:=hs.all fun h=>L4 h.Rows n
def J4 (c:Comb):Int:=if N6 c.Path=false then 120 else if c.Parents < 1∨32 < c.Parents then 2 else if W3 c.Parents.toNat c.Hunks=false then 180 else if Q6 c.Parents.toNat c.Hunks=false then 121 else if 16777216 < (A37 c).length then 1 else 0
theorem C37 {n:Nat} {r:Row} (h:V1 n r=true):0≤r.Marks∧r.Marks < 2 ^ n∧(r.Lost=true→r.Marks≠0):=by
 unfold V1 at h
 simp only [I83,beq_iff_eq,Bool.not_eq_true',Bool.and_eq_false_iff,beq_eq_false_iff_ne] at h
 obtain ⟨h1,h2⟩:=h
 have hp:(0:Int) < 2 ^ n:=Int.pow_pos (by decide)
 have h3:=Int.emod_add_mul_ediv r.Marks (2 ^ n)
 have h4:=Int.emod_nonneg r.Marks (Int.ne_of_gt hp)
 have h5:=Int.emod_lt_of_pos r.Marks hp
 rw [h1,Int.mul_zero,Int.add_zero] at h3
 rw [h3] at h4 h5
 refine ⟨h4,h5,fun hl=>?_⟩
 rcases h2 with h2 | h2
 ·rw [hl] at h2;cases h2
 ·exact h2
theorem pow32 {n:Nat} (h:n≤32):(2:Int) ^ n≤4294967296:=by
 have h1:(2:Nat) ^ n≤2 ^ 32:=Nat.pow_le_pow_right (by omega) h
 have h2:((2 ^ n:Nat):Int)=2 ^ n:=by simp
 have h3:(2:Nat) ^ 32=4294967296:=rfl
 omega
theorem I31 {n:Nat} (hn:n≤32) {rows:List Row} (h:L4 rows n=true):H8 rows:=by
 intro r hr
 have h1:=C37 (List.all_eq_true.1 h r hr)
 have:=pow32 hn
 omega
def X6 (n:Nat) (ends:List Int) (h:CHunk):Bool:=decide (h.At.length=n+1∧h.Rows≠[])&&(List.range (n+1)).all fun k=>decide (ends.getD k 0≤h.At.getD k 0∧h.At.getD k 0≤4096)
def m6 (res:Bool) (rows:List Row):Bool:=rows.foldl B32 res
def m7 (par:Int) (rows:List Row):Int:=rows.foldl B33 par
def m8 (n:Nat) (ends:List Int) (res:Bool) (par:Int):List CHunk→Bool
 | []=>decide (∀e∈ends,e≤4096)
 | h::r=>X6 n ends h&&(R0 res par h.Rows&&m8 n (U5 n h) (m6 res h.Rows) (m7 par h.Rows) r)
theorem D89:∀(a b:List Row) (res:Bool) (par:Int),R0 res par (a++b)=(R0 res par a&&R0 (m6 res a) (m7 par a) b)
 | [],b,res,par=>by simp [R0,m6,m7]
 | x::a,b,res,par=>by
  rw [J19,R0,R0,D89 a b]
  simp only [m6,m7,J05,Bool.and_assoc]
theorem B38 (f:Nat→Int) (n k:Nat) (h:k < n):((List.range n).map f).getD k 0=f k:=by
 rw [I82,J03,J06 h];rfl
theorem D90 {n:Nat} {ends:List Int} (hl:ends.length=n+1):(∀e∈ends,e≤4096)↔∀k,k < n+1→ends.getD k 0≤4096:=by
 constructor
 ·intro h k hk
  rw [I82,I80 (by omega)]
  exact h _ (I90 _)
 ·intro h e he
  obtain ⟨k,hk,rfl⟩:=List.getElem_of_mem he
  have:=h k (by omega)
  rwa [I82,I80 hk] at this
theorem A84 (n:Nat) (h:CHunk):(U5 n h).length=n+1:=by unfold U5;simp
theorem C98 (n:Nat):∀(hs:List CHunk) (ends:List Int) (res:Bool) (par:Int),ends.length=n+1 →
  m8 n ends res par hs=(decide (∀e∈ends,e≤4096)&&V7 n ends hs&&R0 res par (K9 hs))
 | [],ends,res,par,_=>by simp [m8,V7,K9,R0]
 | h::r,ends,res,par,hl=>by
  have ih:=C98 n r (U5 n h) (m6 res h.Rows) (m7 par h.Rows) (A84 n h)
  have e1:K9 (h::r)=h.Rows++K9 r:=by simp [K9]
  rw [m8,ih,V7,e1,D89]
  have e2:(X6 n ends h&&decide (∀e∈U5 n h,e≤4096))=(decide (∀e∈ends,e≤4096)&&A38 n ends h):=by
   rw [Bool.eq_iff_iff]
   unfold X6 A38
   simp only [I83,decide_eq_true_eq,List.all_eq_true,List.mem_range]
   rw [D90 hl,D90 (A84 n h)]
   have e3:∀k,k < n+1→(U5 n h).getD k 0=h.At.getD k 0+N4 h.Rows n k:=fun k hk=>B38 _ _ _ hk
   constructor
   ·rintro ⟨⟨h1,h2⟩,h3⟩
    exact ⟨fun k hk=>by have:=h2 k hk;omega,h1,fun k hk=>⟨h2 k hk,by have:=h3 k hk;rwa [e3 k hk] at this⟩⟩
   ·rintro ⟨_,h2,h3⟩
    exact ⟨⟨h2,fun k hk=>(h3 k hk).1⟩,fun k hk=>by rw [e3 k hk];exact (h3 k hk).2⟩
  generalize X6 n ends h=A at e2 ⊢
  generalize decide (∀e∈U5 n h,e≤4096)=B at e2 ⊢
  generalize decide (∀e∈ends,e≤4096)=C at e2 ⊢
  generalize A38 n ends h=D at e2 ⊢
  generalize R0 res par h.Rows=E
  generalize V7 n (U5 n h) r=F
  generalize R0 (m6 res h.Rows) (m7 par h.Rows) (K9 r)=G
  cases A<;>cases B<;>cases C<;>cases D<;>first | (cases e2;done) | (cases E<;>cases F<;>cases G<;>rfl)
theorem E75 {n:Nat} {hs:List CHunk} (h:W3 n hs=true):L4 (K9 hs) n=true:=by
 unfold L4 K9
 rw [List.all_eq_true]
 intro r hr
 obtain ⟨l,h1,h2⟩:=List.mem_flatten.1 hr
 obtain ⟨x,hx,rfl⟩:=List.mem_map.1 h1
 exact List.all_eq_true.1 (List.all_eq_true.1 h x hx) r h2
theorem G20 {n:Nat} (hn:n≤32) {hs:List CHunk} (h:W3 n hs=true):m8 n (List.replicate (n+1) 0) false 0 hs=Q6 n hs:=by
 rw [C98 n hs _ _ _ (List.length_replicate ..),D75 _ n hn (E75 h) (I31 hn (E75 h))]
 have:∀L:List Int,(∀e∈L,e≤4096)→decide (∀e∈L,e≤4096)=true:=fun L h=>decide_eq_true h
 rw [this _ (fun e he=>by have:=(List.mem_replicate.1 he).2;omega)];rfl
theorem C64 {n:Nat}:∀(hs:List CHunk) (ends:List Int),(∀k,k < n+1→0≤ends.getD k 0)→V7 n ends hs=true→∀h∈hs,h.At.length=n+1∧h.Rows≠[]∧∀k,k < n+1→0≤h.At.getD k 0∧h.At.getD k 0+N4 h.Rows n k≤4096
 | [],_,_,_,h,hm=>by cases hm
 | x::r,ends,he,hg,h,hm=>by
  rw [V7,I83] at hg
  obtain ⟨h1,h2⟩:=hg
  unfold A38 at h1
  simp only [I83,decide_eq_true_eq,List.all_eq_true,List.mem_range] at h1
  obtain ⟨⟨h3,h4⟩,h5⟩:=h1
  have hx:∀k,k < n+1→0≤x.At.getD k 0∧x.At.getD k 0+N4 x.Rows n k≤4096:=fun k hk=>by have:=h5 k hk;have:=he k hk;omega
  rcases List.mem_cons.1 hm with rfl | hm
  ·exact ⟨h3,h4,hx⟩
  ·refine C64 r _ (fun k hk=>?_) h2 h hm
   rw [show (U5 n x).getD k 0=x.At.getD k 0+N4 x.Rows n k from B38 _ _ _ hk]
   have:=hx k hk
   have:0≤N4 x.Rows n k:=by unfold N4;omega
   omega
structure CRead (n:Nat) (h:CHunk):Prop where
 len:h.At.length=n+1
 ne:h.Rows≠[]
 at0:∀k,k < n+1→0≤h.At.getD k 0∧h.At.getD k 0+N4 h.Rows n k≤4096
 rows:∀r∈h.Rows,V1 n r=true∧K0 r.Text=true
theorem G81 {c:Comb} (h:J4 c=0):(1≤c.Parents.toNat∧c.Parents.toNat≤32)∧c.Parents=(c.Parents.toNat:Int)∧(∀x∈c.Hunks,CRead c.Parents.toNat x)∧(A37 c).length≤16777216∧N6 c.Path=true:=by
 unfold J4 at h
 split at h
 ·cases h
 ·rename_i h0
  split at h
  ·cases h
  ·rename_i h1
   split at h
   ·cases h
   ·rename_i h2
    split at h
    ·cases h
    ·rename_i h3
     split at h
     ·cases h
     ·rename_i h4
      refine ⟨by omega,by omega,?_,by omega,by simpa using h0⟩
      intro x hx
      have h2:W3 c.Parents.toNat c.Hunks=true:=by simpa using h2
      have h3:Q6 c.Parents.toNat c.Hunks=true:=by simpa using h3
      unfold Q6 at h3
      rw [I83] at h3
      obtain ⟨a1,a2,a3⟩:=C64 c.Hunks _ (fun k hk=>by rw [I82,List.getElem?_replicate_of_lt hk];exact Int.le_refl _) h3.1 x hx
      refine ⟨a1,a2,a3,fun r hr=>⟨List.all_eq_true.1 (List.all_eq_true.1 h2 x hx) r hr,?_⟩⟩
      have h5:=h3.2
      unfold l7 at h5
      rw [I83] at h5
      exact List.all_eq_true.1 h5.1 r (List.mem_flatten.2 ⟨x.Rows,List.mem_map.2 ⟨x,hx,rfl⟩,hr⟩)
theorem A46 (n:Nat) (r:Row):(c5 n r).length=n:=by simp [c5]
theorem D19 (n:Nat):(atS n).length=n:=by simp [atS]
end Go.AL
namespace Go.AL
open Go
end Go.AL
namespace Go.AL
open Go
def R8 (r:Row):Nat:=r.Text.length+96
def B05 (h:CHunk):Nat:=2048+h.At.length+(h.Rows.map R8).sum
def szC (hs:List CHunk):Nat:=(hs.map B05).sum
theorem S6 (rows:List Row):rows.length*96≤(rows.map R8).sum:=by
 induction rows with
 | nil=>simp
 | cons x r ih=>simp only [I89,J10,I79,R8] at ih ⊢;omega
theorem A85 (rows:List Row):N8 rows≤(rows.map R8).sum:=by
 unfold N8
 induction rows with
 | nil=>simp
 | cons x r ih=>simp only [I89,I96,I78,J10,R8] at ih ⊢;omega
theorem C65 {rows:List Row} {r:Row} (h:r∈rows):R8 r≤(rows.map R8).sum:=by
 induction rows with
 | nil=>cases h
 | cons x l ih =>
  simp only [I89,J10]
  rcases List.mem_cons.1 h with rfl | h
  ·omega
  ·have:=ih h;omega
theorem A86 {hs:List CHunk} {h:CHunk} (hm:h∈hs):B05 h≤szC hs:=by
 unfold szC
 induction hs with
 | nil=>cases hm
 | cons x l ih =>
  simp only [I89,J10]
  rcases List.mem_cons.1 hm with rfl | hm
  ·omega
  ·have:=ih hm;omega
theorem A23 (hs:List CHunk):hs.length*2048≤szC hs:=by
 unfold szC
 induction hs with
 | nil=>simp
 | cons x l ih =>
  have h2:2048≤B05 x:=by unfold B05;exact Nat.le_trans (Nat.le_add_right _ _) (Nat.le_add_right _ _)
  rw [I89,J10,I79,J01,Nat.one_mul,Nat.add_comm]
  exact Nat.add_le_add h2 ih
theorem D91 (rows:List Row) (k:Nat):((rows.take k).map R8).sum≤(rows.map R8).sum:=by
 conv=>rhs;rw [←J20 k rows,I92,J26]
 omega
theorem D92 (hs:List CHunk) (k:Nat):szC (hs.take k)≤szC hs:=by
 unfold szC
 conv=>rhs;rw [←J20 k hs,I92,J26]
 omega
theorem D93 {l:List Int} {i:Nat} (h:i < l.length):l[i]?=some (l.getD i 0):=by simp [h]
theorem B91 (rows:List Row) (n k:Nat):0≤N4 rows n k∧N4 rows n k≤rows.length:=by
 have:=B51 rows (R7 n k)
 unfold N4;omega
theorem I32 (rows:List Row) (n k i:Nat) (h:i < rows.length):N4 (rows.take (i+1)) n k=N4 (rows.take i) n k+if X3 rows[i] (R7 n k)=true then 1 else 0:=by
 unfold N4 M8
 rw [I86 h,J28,I92,I78]
 by_cases hv:X3 rows[i] (R7 n k)=true<;>simp [hv]
def m9 (rows:List Row) (n i p:Nat):List Int:=(List.range (n+1)).map fun k=>N4 (rows.take (if k < p then i+1 else i)) n k
theorem H87 (rows:List Row) (n i p:Nat):(m9 rows n i p).length=n+1:=by unfold m9;simp
theorem G82 (rows:List Row) (n:Nat):m9 rows n 0 0=List.replicate (n+1) 0:=by
 unfold m9
 refine List.ext_getElem (by simp) fun k h1 h2=>?_
 simp [N4,M8]
theorem H88 (rows:List Row) (n i p:Nat) (hp:p≤n):(m9 rows n i p)[p]?=some (N4 (rows.take i) n p):=by
 unfold m9
 rw [J03,J06 (by omega)];simp
theorem B92 (f:Nat→Int) (n p:Nat) (v:Int):((List.range n).map f).set p v=(List.range n).map (fun k=>if k=p then v else f k):=by
 refine List.ext_getElem (by simp) fun k h1 h2=>?_
 rw [List.getElem_set,List.getElem_map,List.getElem_map,List.getElem_range]
 by_cases e:p=k
 ·rw [if_pos e,if_pos e.symm]
 ·rw [if_neg e,if_neg (fun h=>e h.symm)]
theorem G83 (rows:List Row) (n i p:Nat) (hi:i < rows.length) (hp:p≤n):m9 rows n i (p+1)=if X3 rows[i] (R7 n p)=true then (m9 rows n i p).set p (N4 (rows.take i) n p+1) else m9 rows n i p:=by
 have hs:=I32 rows n p i hi
 by_cases hv:X3 rows[i] (R7 n p)=true
 ·rw [if_pos hv] at hs ⊢
  unfold m9
  rw [B92]
  refine List.map_congr_left fun k hk=>?_
  by_cases e:k=p
  ·subst e;rw [if_pos rfl,if_pos (by omega),hs]
  ·rw [if_neg e]
   by_cases h3:k < p
   ·rw [if_pos (by omega),if_pos h3]
   ·rw [if_neg (by omega),if_neg h3]
 ·rw [if_neg hv] at hs ⊢
  unfold m9
  refine List.map_congr_left fun k hk=>?_
  by_cases e:k=p
  ·subst e;rw [if_pos (by omega),if_neg (by omega),hs];omega
  ·by_cases h3:k < p
   ·rw [if_pos (by omega),if_pos h3]
   ·rw [if_neg (by omega),if_neg h3]
theorem G84 (rows:List Row) (n i:Nat):m9 rows n i (n+1)=m9 rows n (i+1) 0:=by
 unfold m9
 refine List.map_congr_left fun k hk=>?_
 rw [if_pos (List.mem_range.1 hk),if_neg (by omega)]
theorem G85 (rows:List Row) (n:Nat):m9 rows n rows.length 0=I5 rows n:=by
 unfold m9 I5
 refine List.map_congr_left fun k hk=>?_
 rw [if_neg (by omega),I94]
theorem G86 (rows:List Row) (n:Nat):(I5 rows n).length=n+1:=by unfold I5;simp
theorem G87 (rows:List Row) (n k:Nat) (h:k < n+1):(I5 rows n)[k]?=some (N4 rows n k):=by
 unfold I5
 rw [J03,J06 h];rfl
def v7 (n:Nat) (h:CHunk) (k:Nat):List Int:=(List.range (n+1)).map fun j=>if j < k then h.At.getD j 0+N4 h.Rows n j else N4 h.Rows n j
theorem G88 (n:Nat) (h:CHunk) (k:Nat):(v7 n h k).length=n+1:=by unfold v7;simp
theorem G21 (n:Nat) (h:CHunk):v7 n h 0=I5 h.Rows n:=by
 unfold v7 I5
 refine List.map_congr_left fun k hk=>?_
 rw [if_neg (by omega)]
theorem G89 (n:Nat) (h:CHunk) (k:Nat) (hk:k < n+1):(v7 n h k)[k]?=some (N4 h.Rows n k):=by
 unfold v7
 rw [J03,J06 hk];simp
theorem G90 (n:Nat) (h:CHunk) (k:Nat):(v7 n h k).set k (N4 h.Rows n k+h.At.getD k 0)=v7 n h (k+1):=by
 unfold v7
 rw [B92]
 refine List.map_congr_left fun j hj=>?_
 by_cases e:j=k
 ·subst e;rw [if_pos rfl,if_pos (by omega)];omega
 ·rw [if_neg e]
  by_cases h3:j < k
  ·rw [if_pos h3,if_pos (by omega)]
  ·rw [if_neg h3,if_neg (by omega)]
theorem G22 (n:Nat) (h:CHunk):v7 n h (n+1)=U5 n h:=by
 unfold v7 U5
 refine List.map_congr_left fun k hk=>?_
 rw [if_pos (List.mem_range.1 hk)]
theorem C99 (n:Nat) (ends:List Int) (h:CHunk):X6 n ends h=true↔(h.At.length=n+1∧h.Rows≠[])∧∀k,k < n+1→ends.getD k 0≤h.At.getD k 0∧h.At.getD k 0≤4096:=by
 unfold X6
 simp only [I83,decide_eq_true_eq,List.all_eq_true,List.mem_range]
theorem H89 (n:Nat) (h:CHunk) (k:Nat):(C97 n h k).length≤26:=by
 have:=A19 (h.At.getD k 0) (N4 h.Rows n k)
 unfold C97;simp only [I78,I79,I81];omega
theorem A24 (n:Nat) (h:CHunk) (k:Nat):U4 n h (k+1)=U4 n h k++C97 n h k:=by
 unfold U4
 rw [J15,I92,J04];simp
theorem A87 (n:Nat) (h:CHunk):∀k,(U4 n h k).length≤26*k
 | 0=>by simp [U4]
 | k+1=>by
  have:=A87 n h k
  have:=H89 n h k
  rw [A24,I78];omega
theorem B56 {n:Nat} (hn:n≤32) (h:CHunk):(A97 n h).length≤925:=by
 have:=A87 n h (n+1)
 unfold A97
 simp only [I78,D19,I79,I81];omega
theorem E76 {n:Nat} (hn:n≤32) (r:Row):(U8 n r).flatten.length≤R8 r:=by
 have hm:markS.length=29:=rfl
 unfold U8 R8
 split<;>simp only [I96,J24,I78,A46,I81]<;>omega
theorem D94 {n:Nat} (hn:n≤32) (rs:List Row):((rs.map (U8 n)).flatten).flatten.length≤(rs.map R8).sum:=by
 induction rs with
 | nil=>simp
 | cons x r ih =>
  have:=E76 hn x
  simp only [I89,I96,J04,I78,J10];omega
theorem G23 {n:Nat} (hn:n≤32) (h:CHunk):(Q2 n h).flatten.length≤B05 h:=by
 have h1:=B56 hn h
 have h2:=D94 hn h.Rows
 unfold Q2 B05
 simp only [I96,I78,I79,I81];omega
theorem F35 {n:Nat} (hn:n≤32) (hs:List CHunk):((hs.map (Q2 n)).flatten).flatten.length≤szC hs:=by
 unfold szC
 induction hs with
 | nil=>simp
 | cons x r ih =>
  have:=G23 hn x
  simp only [I89,I96,J04,I78,J10];omega
def A88 (c:Comb):Str:=A99 c.Dense++Y3 c.Path++[10]++(parS++Z3 c.Parents++[10])
def cTo (c:Comb) (k:Nat):Str:=A88 c++(((c.Hunks.take k).map (Q2 c.Parents.toNat)).flatten).flatten
theorem D95 (c:Comb):cTo c 0=A88 c:=by simp [cTo]
theorem G24 (c:Comb) (k:Nat) (h:k < c.Hunks.length):cTo c (k+1)=cTo c k++(Q2 c.Parents.toNat c.Hunks[k]).flatten:=by
 unfold cTo
 rw [I86 h];simp only [I92,I89,J09,J04,I96,J24,I97,I88]
theorem D96 (c:Comb):cTo c c.Hunks.length=A37 c:=by
 unfold cTo A88 A37 G80
 rw [I94];simp
def rTo (n:Nat) (rs:List Row) (k:Nat):Str:=(((rs.take k).map (U8 n)).flatten).flatten
theorem G25 (n:Nat) (rs:List Row):rTo n rs 0=[]:=by simp [rTo]
theorem G26 (n:Nat) (rs:List Row) (k:Nat) (h:k < rs.length):rTo n rs (k+1)=rTo n rs k++(U8 n rs[k]).flatten:=by
 unfold rTo
 rw [I86 h];simp only [I92,I89,J09,J04,I96,J24,I97,I88]
theorem H26 {n:Nat} (hn:n≤32) (rs:List Row) (k:Nat):(rTo n rs k).length≤(rs.map R8).sum:=by
 have:=D94 hn (rs.take k)
 have:=D91 rs k
 unfold rTo;omega
theorem E77 (n:Nat) (h:CHunk):(Q2 n h).flatten=A97 n h++[10]++rTo n h.Rows h.Rows.length:=by
 unfold Q2 rTo
 rw [I94];simp
theorem B93 (p:Str):(Y3 p).length≤4*p.length+2:=G04 p
theorem F36 (n:Int):(Z3 n).length≤10:=U3 n
theorem G91 (c:Comb):(A88 c).length≤4*c.Path.length+48:=by
 have h1:=B93 c.Path
 have h2:=F36 c.Parents
 have h3:(A99 c.Dense).length≤16:=by cases c.Dense<;>decide
 have h4:parS.length=8:=rfl
 unfold A88
 simp only [I78,I79,I81];omega
theorem F37 (c:Comb) (hn:c.Parents.toNat≤32) (k:Nat):(cTo c k).length≤4*c.Path.length+48+szC c.Hunks:=by
 have h1:=G91 c
 have h2:=F35 hn (c.Hunks.take k)
 have h3:=D92 c.Hunks k
 unfold cTo
 rw [I78];omega
theorem D00 (n:Nat) (r:Row):c5 (n+1) r=c5 n r++[A98 r n]:=by
 unfold c5
 rw [J15,I92];rfl
theorem D97 (n:Nat) (r:Row):(U8 n r).flatten=c5 n r++r.Text++(if ended r.Text=true then [] else markS):=by
 unfold U8
 split<;>simp
end Go.AL
namespace Go.AL
open Go
end Go.AL
namespace Go.AL
open Go
abbrev u0:Bool→Nat→Cell:=fun b _=>.v (.bool b)
abbrev pBools (l:List Bool):PV:=.one (.list Bool 1 u0 l)
def X7 (n:Nat) (rows:List Row):Int→List CHunk→List Span→Option (List CHunk)
 | _,hs,[]=>some hs
 | e,hs,s::r=>if s.From < e∨s.To≤s.From∨(rows.length:Int) < s.To then none else X7 n rows s.To (hs++[⟨I5 (rows.take s.From.toNat) n,(rows.drop s.From.toNat).take (s.To.toNat - s.From.toNat)⟩]) r
def W5 (path:Str) (t:Table) (sp:List Span) (d:Bool):Comb × Int :=
 if N6 path=false then (comb0,120) else if I7 t≠0 then (comb0,I7 t) else match X7 t.Parents.toNat t.Rows 0 [] sp with
  | none=>(comb0,3)
  | some hs=>if J4 ⟨path,d,t.Parents,hs⟩≠0 then (comb0,J4 ⟨path,d,t.Parents,hs⟩) else (⟨path,d,t.Parents,hs⟩,0)
theorem H27 (f:Row→Nat) (c n:Nat) (rows:List Row):∀(sp:List Span) (e:Int) (hs hs':List CHunk),0≤e→X7 n rows e hs sp=some hs'→(hs.map fun h=>c+(h.Rows.map f).sum).sum≤c*hs.length+((rows.take e.toNat).map f).sum→hs.length≤e.toNat →
  (hs'.map fun h=>c+(h.Rows.map f).sum).sum≤c*hs'.length+(rows.map f).sum∧hs'.length≤max rows.length hs.length
 | [],e,hs,hs',he,h,hw,hl=>by
  cases h
  refine ⟨?_,by omega⟩
  have:((rows.take e.toNat).map f).sum≤(rows.map f).sum:=by
   conv=>rhs;rw [←J20 e.toNat rows,I92,J26]
   omega
  omega
 | s :: r,e,hs,hs',he,h,hw,hl=>by
  rw [X7] at h
  split at h
  ·cases h
  ·rename_i hc
   simp only [not_or,Int.not_lt,Int.not_le] at hc
   obtain ⟨c1,c2,c3⟩:=hc
   have ih:=H27 f c n rows r s.To _ hs' (by omega) h
   have hsum:((rows.take e.toNat).map f).sum+(((rows.drop s.From.toNat).take (s.To.toNat - s.From.toNat)).map f).sum≤((rows.take s.To.toNat).map f).sum:=by
    have e1:rows.take s.To.toNat=rows.take s.From.toNat++(rows.drop s.From.toNat).take (s.To.toNat - s.From.toNat):=by
     have:=List.take_add (l:=rows) (i:=s.From.toNat) (j:=s.To.toNat - s.From.toNat)
     rw [show s.From.toNat+(s.To.toNat - s.From.toNat)=s.To.toNat by omega] at this
     exact this
    have e2:rows.take s.From.toNat=rows.take e.toNat++(rows.drop e.toNat).take (s.From.toNat - e.toNat):=by
     have:=List.take_add (l:=rows) (i:=e.toNat) (j:=s.From.toNat - e.toNat)
     rw [show e.toNat+(s.From.toNat - e.toNat)=s.From.toNat by omega] at this
     exact this
    rw [e1,I92,J26]
    conv=>rhs;rw [e2,I92,J26]
    omega
   have hih:=ih (by
    rw [I92,J26,I78]
    simp only [I89,J09,J10,List.sum_nil,I79,I81,Nat.mul_add,Nat.mul_one,Nat.mul_zero]
    omega) (by rw [I78];simp;omega)
   refine ⟨hih.1,?_⟩
   have:=hih.2
   rw [I78] at this
   simp only [I79,I81] at this
   have h3:hs.length+1≤rows.length:=by omega
   omega
def CInvA (n:Nat) (hs:List CHunk):Prop:=∀h∈hs,h.At.length=n+1∧H8 h.Rows
theorem D98 {n:Nat} {rows:List Row} (hr:H8 rows):∀(sp:List Span) (e:Int) (hs hs':List CHunk),X7 n rows e hs sp=some hs'→CInvA n hs→CInvA n hs'
 | [],e,hs,hs',h,hi=>by cases h;exact hi
 | s::r,e,hs,hs',h,hi=>by
  rw [X7] at h
  split at h
  ·cases h
  ·refine D98 hr r _ _ hs' h ?_
   intro x hx
   rcases List.mem_append.1 hx with hx | hx
   ·exact hi x hx
   ·simp only [J16,J13,or_false] at hx
    rw [hx]
    exact ⟨G86 _ _,fun y hy=>hr y (List.mem_of_mem_drop (List.mem_of_mem_take hy))⟩
def wRow (n:Nat) (r:Row):Nat:=r.Text.length+n+29
theorem A89:∀(s cur:Str),(I4 cur s).length≤s.count 10+1
 | [],cur=>by unfold I4;split<;>simp
 | c::r,cur=>by
  rw [A33]
  split
  ·rename_i h
   have:=A89 r []
   rw [I79,List.count_cons,h];simp;omega
  ·have:=A89 r (cur++[c])
   rw [List.count_cons];omega
theorem D01 (s:Str):(C7 s).length≤s.count 10+1:=A89 s []
theorem C38 (result:Str) (parents:List Str) (L B:Nat) (h0:(C7 result).length≤L∧result.length≤B) (h1:∀b∈parents,(C7 b).length≤L∧b.length≤B) :
  H8 (I6 result parents).1.Rows∧(I6 result parents).1.Rows.length≤(L+1)*(parents.length*L+1)∧∀r∈(I6 result parents).1.Rows,r.Text.length≤B:=by
 have hnil:H8 []∧([]:List Row).length≤(L+1)*(parents.length*L+1)∧∀r∈([]:List Row),r.Text.length≤B:=⟨fun r hr=>(by cases hr),(by simp),fun r hr=>(by cases hr)⟩
 by_cases hn:parents.length < 1∨32 < parents.length
 ·rw [I6,if_pos hn];exact hnil
 obtain ⟨fs,hfs⟩:∃fs,fs=C7 result::parents.map C7:=⟨_,rfl⟩
 obtain ⟨names,hnames⟩:∃names,names=E2 fs:=⟨_,rfl⟩
 obtain ⟨s,hs⟩:∃s,s=Q9 (fs.map (L3 names)) (C7 result).length parents.length parents.length:=⟨_,rfl⟩
 have hm:I6 result parents=if ∃k,k < (C7 result).length+1∧(F2 (s.2 k)).2≠0 then (⟨0,[]⟩,1) else (⟨parents.length,V2 names (C7 result) s ((C7 result).length+1)⟩,0):=by
  rw [I6,if_neg hn,hs,hnames,hfs]
 rw [hm]
 split
 ·exact hnil
 have hfB:∀f∈fs,f.length≤L∧∀t∈f,t.length≤B:=by
  intro f hf
  rw [hfs] at hf
  rcases List.mem_cons.1 hf with rfl | hf
  ·exact ⟨h0.1,fun t ht=>by have:=G09 _ _ ht;omega⟩
  ·obtain ⟨b,hb,rfl⟩:=List.mem_map.1 hf
   have:=h1 b hb
   exact ⟨this.1,fun t ht=>by have:=G09 _ _ ht;omega⟩
 have hnB:∀t∈names,t.length≤B:=by
  intro t ht
  rw [hnames] at ht
  obtain ⟨f,hf,h2⟩:=List.mem_flatten.1 (F99 fs t ht)
  exact (hfB f hf).2 t h2
 have hid:∀x∈fs.map (L3 names),x.length≤L∧∀v∈x,(fun _:Int=>True) v:=by
  intro x hx
  obtain ⟨f,hf,rfl⟩:=List.mem_map.1 hx
  exact ⟨by rw [L3,J00];exact (hfB f hf).1,fun _ _=>trivial⟩
 have hok:LoomOk (fun _=>True) L (C7 result).length parents.length s:=by rw [hs];exact B52 hid _
 have hL:(C7 result).length≤L:=h0.1
 have hcs:∀k,(F2 (s.2 k)).1.length≤parents.length*L∧∀m∈(F2 (s.2 k)).1,0≤m.Parents∧m.Parents < 4294967296:=fun k=>by
  have h2:=hok.gaps k
  have h3:=A35 (fun _=>True) L (s.2 k) h2.2
  rw [h2.1] at h3
  exact ⟨h3.1,fun m hmem=>(h3.2 m hmem).1⟩
 have hgetD:∀(l:List Str) (k:Nat),(∀t∈l,t.length≤B)→(l.getD k []).length≤B:=by
  intro l k hl
  rw [I82]
  cases h:l[k]? with
  | none=>simp
  | some t=>exact hl t (I98 h)
 have key:∀k,k≤(C7 result).length+1→H8 (V2 names (C7 result) s k)∧(V2 names (C7 result) s k).length≤k*(parents.length*L+1)∧∀r∈V2 names (C7 result) s k,r.Text.length≤B:=by
  intro k
  induction k with
  | zero=>intro _;simp only [V2,List.range_zero,J09,J24];exact ⟨fun r hr=>(by cases hr),by simp,fun r hr=>(by cases hr)⟩
  | succ k ih =>
   intro hk
   obtain ⟨i1,i2,i3⟩:=ih (by omega)
   have hc:=hcs k
   have hgap:∀r∈W0 names (C7 result) s k,(0≤r.Marks∧r.Marks < 4294967296)∧r.Text.length≤B:=by
    intro r hr
    unfold W0 at hr
    rcases List.mem_append.1 hr with h | h
    ·obtain ⟨m,hmem,rfl⟩:=List.mem_map.1 h
     exact ⟨hc.2 m hmem,hgetD _ _ hnB⟩
    ·split at h
     ·rename_i hkl
      simp only [List.mem_singleton] at h
      subst h
      refine ⟨?_,hgetD _ _ (hfB _ (by rw [hfs];simp)).2⟩
      have:k < s.1.length:=by rw [hok.len];exact hkl
      show 0≤s.1.getD k 0∧s.1.getD k 0 < 4294967296
      rw [I82,I80 this]
      exact hok.marks _ (I90 this)
     ·cases h
   have hgl:(W0 names (C7 result) s k).length≤parents.length*L+1:=by
    unfold W0
    rw [I78,J00]
    have:=hc.1
    split<;>simp<;>omega
   rw [d6]
   refine ⟨fun r hr=>?_,by rw [I78,J01,Nat.one_mul];omega,fun r hr=>?_⟩
   ·rcases List.mem_append.1 hr with h | h
    ·exact i1 r h
    ·exact (hgap r h).1
   ·rcases List.mem_append.1 hr with h | h
    ·exact i3 r h
    ·exact (hgap r h).2
 obtain ⟨k1,k2,k3⟩:=key _ (Nat.le_refl _)
 have:((C7 result).length+1)*(parents.length*L+1)≤(L+1)*(parents.length*L+1):=I91 _ (by omega)
 exact ⟨k1,by simp only;omega,k3⟩
end Go.AL
namespace Go.AL
open Go
def R2 (r:Row):Bool:=!r.Lost&&decide (r.Marks=0)
def Y6 (out:List Span) (v:Int):List Span:=match out.getLast? with
 | some s=>out.dropLast++[⟨s.From,v⟩]
 | none=>out
def C66:List Bool→Nat→Bool→List Span→List Span
 | [],_,_,out=>out
 | b::r,i,p,out=>C66 r (i+1) b (if b=true then Y6 (if p=true then out else out++[⟨i,i⟩]) ((i:Int)+1) else out)
def U1 (l:List Bool):List Span:=C66 l 0 false []
def B62 (n:Nat) (out:List Span):Prop:=out.length≤n∧∀s∈out,(0≤s.From∧s.From≤n)∧(0≤s.To∧s.To≤n)
theorem E78 {n:Nat} {out:List Span} (h:B62 n out):B62 (n+1) out:=⟨by have:=h.1;omega,fun s hs=>by have:=h.2 s hs;omega⟩
theorem I33 {n:Nat} {out:List Span} (h:B62 n out):B62 (n+1) (out++[⟨n,n⟩]):=by
 refine ⟨by rw [I78];have:=h.1;simp;omega,fun x hx=>?_⟩
 rcases List.mem_append.1 hx with hx | hx
 ·have:=h.2 x hx;omega
 ·simp only [J16,J13,or_false] at hx
  rw [hx];dsimp only;omega
theorem D99 {n:Nat} {out:List Span} {v:Int} (h:B62 n out) (hv:0≤v∧v≤(n:Int)):B62 n (Y6 out v):=by
 unfold Y6
 cases hl:out.getLast? with
 | none=>dsimp only;exact h
 | some s =>
  dsimp only
  have hm:=h.2 s (List.mem_of_getLast? hl)
  have hne:out≠[]:=fun e=>by rw [e] at hl;cases hl
  have hp:=List.length_pos_iff.2 hne
  refine ⟨by rw [I78,List.length_dropLast];have:=h.1;simp;omega,fun x hx=>?_⟩
  rcases List.mem_append.1 hx with hx | hx
  ·exact h.2 x ((List.dropLast_sublist _).subset hx)
  ·simp only [J16,J13,or_false] at hx
   rw [hx];dsimp only;omega
theorem F38 {i:Nat} {out:List Span} (b p:Bool) (h:B62 i out):B62 (i+1) (if b=true then Y6 (if p=true then out else out++[⟨i,i⟩]) ((i:Int)+1) else out):=by
 split
 ·split
  ·exact D99 (E78 h) (by omega)
  ·exact D99 (I33 h) (by omega)
 ·exact E78 h
theorem H28:∀(l:List Bool) (i:Nat) (p:Bool) (out:List Span),B62 i out→B62 (i+l.length) (C66 l i p out)
 | [],i,p,out,h=>h
 | b::r,i,p,out,h=>by
  rw [C66,I79,show i+(r.length+1)=(i+1)+r.length by omega]
  exact H28 r (i+1) b _ (F38 b p h)
theorem E00 (l:List Bool):B62 l.length (U1 l):=by
 have:=H28 l 0 false [] ⟨Nat.le_refl _,fun s hs=>by cases hs⟩
 rwa [Nat.zero_add] at this
def U6 (t:Table):List Span × Int:=if I7 t≠0 then ([],I7 t) else (U1 (t.Rows.map fun r=>!R2 r),0)
def x1 (rows:List Row):Int:=rows.foldl (fun a r=>K4 a r.Marks) 0
def W6 (t:Table) (s:Span):Bool:=(List.range t.Parents.toNat).all fun p=>!decide (x1 ((t.Rows.drop s.From.toNat).take (s.To.toNat - s.From.toNat)) / 2 ^ p % 2=0)
def G6 (t:Table) (d:Bool):List Span × Int:=if (U6 t).2≠0 then ([],(U6 t).2) else ((U6 t).1.filter fun s=>!d||W6 t s,0)
def M3 (l:List Span) (ctx:Int) (k:Nat):Bool:=l.any fun s=>decide (s.From - ctx≤k∧(k:Int) < s.To+ctx)
def O9 (t:Table) (ctx:Int) (d:Bool):List Span × Int :=
 if (G6 t d).2≠0 then ([],(G6 t d).2) else if ctx < 0∨1048576 < ctx then ([],3)
 else (U1 ((List.range t.Rows.length).map (M3 (G6 t d).1 ctx)),0)
theorem H29 (t:Table):B62 t.Rows.length (U6 t).1:=by
 unfold U6
 split
 ·exact ⟨Nat.zero_le _,fun s hs=>by cases hs⟩
 ·have:=E00 (t.Rows.map fun r=>!R2 r)
  rwa [J00] at this
theorem B39 (t:Table) (d:Bool):B62 t.Rows.length (G6 t d).1:=by
 have h:=H29 t
 unfold G6
 split
 ·exact ⟨Nat.zero_le _,fun s hs=>by cases hs⟩
 ·refine ⟨?_,fun s hs=>h.2 s (List.mem_filter.1 hs).1⟩
  have:=List.length_filter_le (fun s=>!d||W6 t s) (U6 t).1
  have:=h.1
  dsimp only;omega
theorem G27 (t:Table) (ctx:Int) (d:Bool):B62 t.Rows.length (O9 t ctx d).1:=by
 unfold O9
 split
 ·exact ⟨Nat.zero_le _,fun s hs=>by cases hs⟩
 ·split
  ·exact ⟨Nat.zero_le _,fun s hs=>by cases hs⟩
  ·have:=E00 ((List.range t.Rows.length).map (M3 (G6 t d).1 ctx))
   rwa [J00,J30] at this
def x2 (l:List Bool) (i:Nat):Bool:=if i=0 then false else l.getD (i - 1) false
theorem E79 {l:List Bool} {i:Nat} {p:Bool} {out:List Span} (h:i < l.length):C66 (l.drop i) i p out=C66 (l.drop (i+1)) (i+1) (l.getD i false) (if l.getD i false=true then Y6 (if p=true then out else out++[⟨i,i⟩]) ((i:Int)+1) else out):=by
 rw [I84 h,C66,I82,I80 h];rfl
end Go.AL
namespace Go.AL
open Go
theorem B57 (out:List Span) (a b v:Int):Y6 (out++[⟨a,b⟩]) v=out++[⟨a,v⟩]:=by unfold Y6;simp
def SpUp (n:Int) (out:List Span):Prop:=(∀s∈out,s.From≤n)∧out.Pairwise fun a b=>a.From≤b.From
theorem I34 {n:Int} {out:List Span} (h:SpUp n out) (v:Int):SpUp n (out++[⟨n,v⟩]):=by
 refine ⟨fun s hs=>?_,?_⟩
 ·rcases List.mem_append.1 hs with hs | hs
  ·exact h.1 s hs
  ·simp only [J16,J13,or_false] at hs
   rw [hs];exact Int.le_refl _
 ·rw [List.pairwise_append]
  refine ⟨h.2,List.pairwise_singleton _ _,fun a ha b hb=>?_⟩
  simp only [J16,J13,or_false] at hb
  rw [hb];exact h.1 a ha
theorem I35 {n:Int} {out:List Span} (h:SpUp n out) (v:Int):SpUp n (Y6 out v):=by
 unfold Y6
 cases hl:out.getLast? with
 | none=>exact h
 | some s =>
  dsimp only
  have e:out=out.dropLast++[s]:=by
   have hne:out≠[]:=fun e=>by rw [e] at hl;cases hl
   have h2:=List.dropLast_concat_getLast hne
   rw [List.getLast?_eq_some_getLast hne] at hl
   cases hl
   exact h2.symm
  rw [e] at h
  obtain ⟨h1,h2⟩:=h
  rw [List.pairwise_append] at h2
  refine ⟨fun x hx=>?_,?_⟩
  ·rcases List.mem_append.1 hx with hx | hx
   ·exact h1 x (List.mem_append.2 (.inl hx))
   ·simp only [J16,J13,or_false] at hx
    rw [hx];exact h1 s (by simp)
  ·rw [List.pairwise_append]
   refine ⟨h2.1,List.pairwise_singleton _ _,fun a ha b hb=>?_⟩
   simp only [J16,J13,or_false] at hb
   rw [hb];exact h2.2.2 a ha s (by simp)
theorem H90 {n m:Int} {out:List Span} (h:SpUp n out) (hm:n≤m):SpUp m out:=⟨fun s hs=>Int.le_trans (h.1 s hs) hm,h.2⟩
theorem H30:∀(l:List Bool) (i:Nat) (p:Bool) (out:List Span),SpUp i out→∃m,SpUp m (C66 l i p out)
 | [],i,p,out,h=>⟨_,h⟩
 | b::r,i,p,out,h=>by
  rw [C66]
  refine H30 r (i+1) b _ (H90 (n:=(i:Int)) ?_ (by omega))
  split
  ·split
   ·exact I35 h _
   ·rw [B57];exact I34 h _
  ·exact h
theorem I36 (l:List Bool):(U1 l).Pairwise fun a b=>a.From≤b.From:=by
 obtain ⟨m,h⟩:=H30 l 0 false [] ⟨fun s hs=>(by cases hs),List.Pairwise.nil⟩
 exact h.2
theorem E01 (t:Table) (d:Bool):(G6 t d).1.Pairwise fun a b=>a.From≤b.From:=by
 unfold G6 U6
 split
 ·exact List.Pairwise.nil
 ·dsimp only
  split
  ·exact List.Pairwise.nil
  ·exact List.Pairwise.sublist List.filter_sublist (I36 _)
theorem up_get {L:List Span} (h:L.Pairwise fun a b=>a.From≤b.From) {k:Nat} (hk:k+1 < L.length):L[k].From≤L[k+1].From:=(List.pairwise_iff_getElem.1 h) k (k+1) (by omega) hk (by omega)
theorem I37 {n:Int} {out:List Span} (h:∀s∈out,s.From≤s.To∧s.From≤n) (v:Int) (hv:n≤v):∀s∈Y6 out v,s.From≤s.To∧s.From≤n:=by
 unfold Y6
 cases hl:out.getLast? with
 | none=>exact h
 | some x =>
  dsimp only
  intro s hs
  rcases List.mem_append.1 hs with hs | hs
  ·exact h s ((List.dropLast_sublist _).subset hs)
  ·simp only [J16,J13,or_false] at hs
   rw [hs]
   have:=h x (List.mem_of_getLast? hl)
   exact ⟨by dsimp only;omega,this.2⟩
theorem H31:∀(l:List Bool) (i:Nat) (p:Bool) (out:List Span),(∀s∈out,s.From≤s.To∧s.From≤(i:Int))→∀s∈C66 l i p out,s.From≤s.To
 | [],i,p,out,h=>fun s hs=>(h s hs).1
 | b :: r,i,p,out,h=>by
  rw [C66]
  refine H31 r (i+1) b _ ?_
  have hmore:∀q:List Span,(∀s∈q,s.From≤s.To∧s.From≤(i:Int))→∀s∈q,s.From≤s.To∧s.From≤((i+1:Nat):Int):=fun q hq s hs=>by have:=hq s hs;omega
  split
  ·refine hmore _ (I37 ?_ _ (by omega))
   split
   ·exact h
   ·intro s hs
    rcases List.mem_append.1 hs with hs | hs
    ·exact h s hs
    ·simp only [J16,J13,or_false] at hs
     rw [hs];exact ⟨Int.le_refl _,Int.le_refl _⟩
  ·exact hmore _ h
theorem I38 (l:List Bool):∀s∈U1 l,s.From≤s.To:=H31 l 0 false [] (fun s hs=>by cases hs)
theorem F39 (L:List Span) (ctx:Int) (k:Nat) (h:k < L.length) (i:Nat):M3 (L.take (k+1)) ctx i=(M3 (L.take k) ctx i||decide (L[k].From - ctx≤i∧(i:Int) < L[k].To+ctx)):=by
 unfold M3
 rw [I86 h,List.any_append];simp
theorem E80 {n:Nat} (hn:n≤32):∀(rows:List Row) (a:Int),(0≤a∧a < ((2 ^ n:Nat):Int))→(∀r∈rows,0≤r.Marks∧r.Marks < ((2 ^ n:Nat):Int))→0≤rows.foldl (fun a r=>K4 a r.Marks) a∧rows.foldl (fun a r=>K4 a r.Marks) a < ((2 ^ n:Nat):Int)
 | [],a,h,_=>h
 | x::r,a,h,hr=>by
  have hx:=hr x (by simp)
  have h32:2 ^ n≤2 ^ 32:=Nat.pow_le_pow_right (by decide) hn
  rw [J05]
  refine E80 hn r _ ?_ fun y hy=>hr y (by simp [hy])
  obtain ⟨q,rfl⟩:∃q:Nat,a=q:=⟨a.toNat,by omega⟩
  obtain ⟨m,hm⟩:∃m:Nat,x.Marks=m:=⟨x.Marks.toNat,by omega⟩
  rw [hm] at hx ⊢
  obtain ⟨h3,_⟩:=C24 q m (by omega) (by omega)
  rw [h3]
  have:=Nat.or_lt_two_pow (n:=n) (x:=q) (y:=m) (by omega) (by omega)
  omega
theorem I39 (n A:Nat) (hA:A < 2 ^ n):A=2 ^ n - 1↔((List.range n).all fun p=>!decide ((A:Int) / 2 ^ p % 2=0))=true:=by
 have hbit:∀p,decide ((A:Int) / 2 ^ p % 2=0)=!A.testBit p:=by
  intro p
  have e1:(A:Int) / 2 ^ p % 2=((A / 2 ^ p % 2:Nat):Int):=by simp
  rw [e1,Nat.testBit_eq_decide_div_mod_eq]
  have h2:A / 2 ^ p % 2=0∨A / 2 ^ p % 2=1:=by omega
  rcases h2 with h2 | h2<;>rw [h2]<;>rfl
 rw [List.all_eq_true]
 constructor
 ·rintro rfl p hp
  rw [hbit,Bool.not_not,Nat.testBit_two_pow_sub_one]
  exact decide_eq_true (List.mem_range.1 hp)
 ·intro h
  refine Nat.eq_of_testBit_eq fun p=>?_
  rw [Nat.testBit_two_pow_sub_one]
  by_cases hp:p < n
  ·have:=h p (List.mem_range.2 hp)
   rw [hbit,Bool.not_not] at this
   rw [this,decide_eq_true hp]
  ·rw [decide_eq_false hp]
   exact Nat.testBit_lt_two_pow (Nat.lt_of_lt_of_le hA (Nat.pow_le_pow_right (by decide) (by omega)))
theorem I40 {t:Table} {s:Span} {n:Nat} (hn:t.Parents=n) (hn2:1≤n∧n≤32) (hm:∀r∈t.Rows,0≤r.Marks∧r.Marks < ((2 ^ n:Nat):Int)) (F T:Nat) (hs:s=⟨F,T⟩) :
  decide (x1 ((t.Rows.drop F).take (T - F))=((2 ^ n - 1:Nat):Int))=W6 t s:=by
 obtain ⟨A,hA⟩:∃A,A=x1 ((t.Rows.drop F).take (T - F)):=⟨_,rfl⟩
 have hlow:0≤A∧A < ((2 ^ n:Nat):Int):=by
  rw [hA]
  refine E80 hn2.2 _ 0 ⟨Int.le_refl _,by have:=Nat.pow_pos (n:=n) (show 0 < 2 by decide);omega⟩ fun r hr=>hm r (List.mem_of_mem_drop (List.mem_of_mem_take hr))
 obtain ⟨q,rfl⟩:∃q:Nat,A=q:=⟨A.toNat,by omega⟩
 have hD:W6 t s=(List.range n).all fun p=>!decide ((q:Int) / 2 ^ p % 2=0):=by
  unfold W6;rw [hs,hn];dsimp only;rw [I85,I85,I85,←hA]
 rw [←hA,hD,Bool.eq_iff_iff,decide_eq_true_eq,←I39 n q (by omega)]
 omega
theorem H91 {rows:List Row} {n:Nat} (hr:H8 rows) (h:L4 rows n=true):∀r∈rows,0≤r.Marks∧r.Marks < ((2 ^ n:Nat):Int):=by
 intro r hm
 have h1:=List.all_eq_true.1 h r hm
 unfold V1 at h1
 simp only [I83,beq_iff_eq] at h1
 refine ⟨(hr r hm).1,?_⟩
 have e:(2:Int) ^ n=((2 ^ n:Nat):Int):=by simp
 have h2:=h1.1
 rw [e] at h2
 have hp:(0:Int) < ((2 ^ n:Nat):Int):=by have:=Nat.pow_pos (n:=n) (show 0 < 2 by decide);omega
 have h3:=Int.emod_lt_of_pos r.Marks hp
 have h4:=Int.mul_ediv_add_emod r.Marks ((2 ^ n:Nat):Int)
 rw [h2,Int.mul_zero,Int.zero_add] at h4
 omega
theorem I41 (n:Nat) (hn:1≤n∧n≤32):(4294967295:Int).fdiv (2 ^ (min (32 - (n:Int)).toNat IntKind.u32.bits))=((2 ^ n - 1:Nat):Int):=by
 have h1:min (32 - (n:Int)).toNat IntKind.u32.bits=32 - n:=by
  rw [show (32 - (n:Int)).toNat=32 - n by omega];exact Nat.min_eq_left (by show 32 - n≤32;omega)
 rw [h1,Int.fdiv_eq_ediv_of_nonneg _ (Int.pow_nonneg (by decide))]
 have key:∀k:Fin 33,1≤k.val→(4294967295:Int) / 2 ^ (32 - k.val)=((2 ^ k.val - 1:Nat):Int):=by decide
 exact key ⟨n,by omega⟩ hn.1
end Go.AL
namespace Go.AL
open Go
def LowP (p:Nat) (l:List Merged):Prop:=∀m∈l,0 < m.Parents∧m.Parents < ((2 ^ p:Nat):Int)
theorem LowP.sub {p:Nat} {l l':List Merged} (h:LowP p l) (hs:∀m∈l',m∈l):LowP p l':=fun m hm=>h m (hs m hm)
theorem LowP.up {p:Nat} {l:List Merged} (h:LowP p l):LowP (p+1) l:=fun m hm=>by
 have:=h m hm
 have:2 ^ p≤2 ^ (p+1):=Nat.pow_le_pow_right (by decide) (by omega)
 omega
end Go.AL
namespace Go.AL
open Go
def piece (file:List Int) (c:Change):List Int:=(file.drop c.Old.toNat).take ((c.Old+c.OldLen).toNat - c.Old.toNat)
end Go.AL
namespace Go.AL
open Go
theorem I42 (w:Row) {q:Nat} (hq:q < 32):X3 w q=(A16 w.Marks q == w.Lost):=by
 rw [X3,if_neg (by omega),if_neg (by omega),I85]
structure Made16 (x:Str) (r:List Str) (rows:List Row):Prop where
 res:M8 rows (-1)=C7 x
 par:∀q,q < r.length→M8 rows q=C7 (r.getD q [])
 marks:L4 rows r.length=true
 texts:∀w∈rows,K0 w.Text=true
end Go.AL
namespace Go.AL
open Go
def CutSp (m:Nat):Int→List Span→Prop
 | _,[]=>True
 | e,s::r=>e≤s.From∧s.From < s.To∧s.To≤m∧CutSp m s.To r
def endOf (e:Int):List Span→Int
 | []=>e
 | s::r=>endOf s.To r
theorem CutSp.mono {m m':Nat} (hm:m≤m'):∀{sp:List Span} {e:Int},CutSp m e sp→CutSp m' e sp
 | [],_,_=>trivial
 | s::r,e,h=>⟨h.1,h.2.1,by have:=h.2.2.1;omega,CutSp.mono hm h.2.2.2⟩
theorem CutSp.end_le {m:Nat}:∀{sp:List Span} {e:Int},CutSp m e sp→e≤m→endOf e sp≤m
 | [],_,_,he=>he
 | s::r,_,h,_=>CutSp.end_le (sp:=r) (e:=s.To) h.2.2.2 h.2.2.1
end Go.AL
namespace Go.AL
open Go
end Go.AL
namespace Go.AL
open Go
def A47 (f:Nat→Nat):Nat→Nat
 | 0=>0
 | m+1=>A47 f m+f m
theorem E02 {f g:Nat→Nat}:∀{m:Nat},(∀k,f k≤g k)→A47 f m≤A47 g m
 | 0,_=>Nat.le_refl _
 | m+1,h=>by
  have h1:=E02 (f:=f) (g:=g) (m:=m) h
  have h2:=h m
  show A47 f m+f m≤A47 g m+g m
  omega
theorem E81 {f g:Nat→Nat} {k0:Nat} (h:∀k,f k≤g k) (h0:f k0+1≤g k0):∀{m:Nat},k0 < m→A47 f m+1≤A47 g m
 | 0,hm=>absurd hm (Nat.not_lt_zero _)
 | m+1,hm=>by
  show A47 f m+f m+1≤A47 g m+g m
  by_cases hk:k0=m
  ·subst hk
   have:=E02 (f:=f) (g:=g) (m:=k0) h
   omega
  ·have h1:=E81 h h0 (m:=m) (by omega)
   have h2:=h m
   omega
theorem H92 {n:Nat} (hn:n≤32) {r:Row} (h:V1 n r=true):∃k,k < n+1∧X3 r ((k:Int) - 1)=true:=by
 obtain ⟨h1,h2,h3⟩:=C37 h
 cases hl:r.Lost
 ·exact ⟨0,by omega,by rw [show ((0:Nat):Int) - 1 = -1 from rfl,X3,if_pos rfl,hl];rfl⟩
 ·have h4:=h3 hl
  obtain ⟨m,hm⟩:∃m:Nat,r.Marks=m:=⟨r.Marks.toNat,by omega⟩
  have h5:((2 ^ n:Nat):Int)=2 ^ n:=by simp
  have hm0:m≠0:=by omega
  obtain ⟨q,hq⟩:=Nat.exists_testBit_of_ne_zero hm0
  have hqn:q < n:=by
   refine Classical.byContradiction fun hc=>?_
   have:m < 2 ^ n:=by omega
   rw [Nat.testBit_lt_two_pow (Nat.lt_of_lt_of_le this (Nat.pow_le_pow_right (by decide) (by omega)))] at hq
   cases hq
  refine ⟨q+1,by omega,?_⟩
  rw [show ((q+1:Nat):Int) - 1=(q:Int) by omega,I42 _ (by omega),hm,C54,hq,hl];rfl
theorem E82 {f:Nat→Nat} {B:Nat}:∀{m:Nat},(∀k,k < m→f k≤B)→A47 f m≤m*B
 | 0,_=>by simp [A47]
 | m+1,h=>by
  have h1:=E82 (f:=f) (B:=B) (m:=m) fun k hk=>h k (by omega)
  have h2:=h m (by omega)
  show A47 f m+f m≤(m+1)*B
  rw [J01,Nat.one_mul];omega
theorem G28 {n:Nat} (hn:n≤32):∀{rows:List Row},(∀r∈rows,V1 n r=true)→rows.length≤A47 (fun k=>(M8 rows ((k:Int) - 1)).length) (n+1)
 | [],_=>Nat.zero_le _
 | r::rs,h=>by
  have ih:=G28 hn (rows:=rs) fun x hx=>h x (by simp [hx])
  obtain ⟨k,hk,hv⟩:=H92 hn (h r (by simp))
  have:=E81 (f:=fun k=>(M8 rs ((k:Int) - 1)).length) (g:=fun k=>(M8 (r::rs) ((k:Int) - 1)).length) (k0:=k) (fun q=>by
   unfold M8
   simp only [J00,J27]
   split
   ·rw [I79];omega
   ·exact Nat.le_refl _) (by
   unfold M8
   simp only [J00,J27]
   rw [hv,if_pos rfl,I79]
   exact Nat.le_refl _) hk
  rw [I79];omega
theorem Made16.few {x:Str} {r:List Str} {rows:List Row} (h:Made16 x r rows) (hn:r.length≤32) {L:Nat} (hx:(C7 x).length≤L) (hr:∀b∈r,(C7 b).length≤L):rows.length≤(r.length+1)*L:=by
 refine Nat.le_trans (G28 hn (List.all_eq_true.1 h.marks)) (E82 fun k hk=>?_)
 cases k with
 | zero=>rw [show ((0:Nat):Int) - 1 = -1 from rfl,h.res];exact hx
 | succ q =>
  rw [show ((q+1:Nat):Int) - 1=(q:Int) by omega,h.par q (by omega)]
  refine hr _ ?_
  rw [I82,I80 (by omega)]
  exact I90 _
end Go.AL
