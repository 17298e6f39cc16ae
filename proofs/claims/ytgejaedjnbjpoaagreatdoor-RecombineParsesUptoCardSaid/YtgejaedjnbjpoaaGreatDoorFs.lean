/- Plain facts about data; no project text. -/
import Derived.Test.YtgejaedjnbjpoaaGreatDoorD
import Derived.Lib.Strings
import Derived.Lib.Bytealg
import Derived.Lib.Join
import Derived.Lib.ItoaNum
import Derived.Test.YtgejaedjnbjpoaaGreatDoorAn
namespace Go.AL
open Go
theorem E51 (c:UInt8):((c.toNat:Int)=10)↔c=10:=by
 constructor
 ·intro h
  have:c.toNat=10:=by omega
  exact UInt8.toNat_inj.1 (by simpa using this)
 ·rintro rfl;rfl
def G2 (cur:Str):Str→List Str
 | []=>if cur=[] then [] else [cur]
 | c::r=>if c=10 then (cur++[c])::G2 [] r else G2 (cur++[c]) r
def D2 (b:Str):List Str:=G2 [] b
theorem B30 (cur:Str) (s:Str):(G2 cur s).length≤s.length+1:=by
 induction s generalizing cur with
 | nil=>unfold G2;split<;>simp
 | cons c r ih=>unfold G2;split<;>simp<;>(have:=ih [];have:=ih (cur++[c]);omega)
theorem C02 (s:Str):(G2 [] s).length≤s.length:=by
 have key:∀(s cur:Str),cur≠[]→(G2 cur s).length≤s.length+1:=fun s cur _=>B30 cur s
 induction s with
 | nil=>simp [G2]
 | cons c r ih=>unfold G2;split<;>simp<;>(have:=B30 ([]++[c]) r;simp at this;omega)
theorem S7 (b:Str):(D2 b).length≤b.length:=C02 b
theorem R8 (cur r:Str) (c:UInt8):G2 cur (c::r)=if c=10 then (cur++[c])::G2 [] r else G2 (cur++[c]) r:=rfl
theorem C79 (cur:Str) (h:cur≠[]):G2 cur []=[cur]:=by simp [G2,h]
theorem or_pick {p q:Prop} [Decidable p] [Decidable q]:(if decide p=true then true else decide q)=decide (p∨q):=by by_cases p<;>simp [*]
theorem I3 {p q:Prop} [Decidable p] [Decidable q]:(if decide p=true then decide q else false)=decide (p∧q):=by by_cases p<;>simp [*]
theorem Y4 {α:Type} (l:List (List α)) (i:Nat) (h:i < l.length):(l.take (i+1)).flatten=(l.take i).flatten++l[i]:=by
 rw [List.take_add_one,J79 h,Option.toList_some,K04];simp
theorem X5 {α:Type} (l:List (List α)) (i:Nat):(l.take i).flatten.length≤l.flatten.length:=by
 conv=>rhs;rw [←K18 i l,K04,J77]
 omega
theorem E52 (i:Nat):((i:Int)+1).toNat=i+1:=by omega
theorem B86 {α:Type} (b:List α) (f i:Nat) (hf:f≤i) (hi:i < b.length):(b.drop f).take (i - f)++[b[i]]=(b.drop f).take (i+1 - f):=by
 rw [show i+1 - f=(i - f)+1 by omega,List.take_add_one,J99,show f+(i - f)=i by omega,J79 hi]
 rfl
def ended (s:Str):Bool:=s.getLast? == some 10
theorem J26 (s:Str):ended s=(if decide (s≠[])=true then decide (((s.getLastD 0).toNat:Int)=10) else false):=by
 unfold ended
 by_cases h:s=[]
 ·simp [h]
 ·rw [List.getLast?_eq_some_getLast h,List.getLastD_eq_getLast?,List.getLast?_eq_some_getLast h]
  simp only [ne_eq,h,not_false_eq_true,decide_true,if_true,Option.getD_some,E51]
  rfl
def V4:List Str→Str→Int→Int
 | [],_,_ => -1
 | x::r,s,i=>if x=s then i else V4 r s (i+1)
theorem G15 (l:List Str) (s:Str) (k:Nat) (h:k < l.length):V4 (l.drop k) s k=if l[k]=s then (k:Int) else V4 (l.drop (k+1)) s ((k:Int)+1):=by
 rw [J84 h]
 simp [V4]
theorem G91 (l:List Str) (s:Str):∀(k:Int),0≤k→((V4 l s k < 0)↔s∉l):=by
 induction l with
 | nil=>intro k _;simp [V4]
 | cons x r ih =>
  intro k hk
  unfold V4
  by_cases h:x=s
  ·simp [h];omega
  ·have:=ih (k+1) (by omega)
   simp [h,this,Ne.symm h]
def J1 (s:Str):Bool:=s.dropLast.all (·≠10)&&s != []
def c8:List Str→Bool
 | []=>true
 | s::r=>J1 s&&(r.isEmpty||ended s)&&c8 r
def C80 (b:Str):Int:=if b.length > 1048576∨(D2 b).length > 4096 then 1 else 0
def K5 (out:List Str) (s:Str):List Str:=if s∈out then out else out++[s]
def H0 (files:List (List Str)):List Str:=files.flatten.foldl K5 []
def V6 (names:List Str) (file:List Str):List Int:=file.map (fun s=>V4 names s 0)
theorem D32 (out:List Str) (s:Str):(K5 out s).length≤out.length+1:=by unfold K5;split<;>simp
theorem A30 (l out:List Str):(l.foldl K5 out).length≤out.length+l.length:=by
 induction l generalizing out with
 | nil=>simp
 | cons s r ih=>have h1:=ih (K5 out s);have h2:=D32 out s;simp only [K16,J78];omega
theorem E53 (fs:List (List Str)):(H0 fs).length≤fs.flatten.length:=by have:=A30 fs.flatten [];simpa [H0] using this
end Go.AL
namespace Go.AL
open Go
def Z5 (i j:Int):List Span→Int→Int→List Change
 | [],m,n=>if m > i∨n > j then [⟨i,m - i,j,n - j⟩] else []
 | x::r,m,n=>(if x.From > i∨x.To > j then [⟨i,x.From - i,j,x.To - j⟩] else [])++Z5 (x.From+1) (x.To+1) r m n
def D33 (p:List Span) (m n:Int):List Change:=Z5 0 0 p m n
theorem C14 (p:List Span) (i j m n:Int):(Z5 i j p m n).length≤p.length+1:=by
 induction p generalizing i j with
 | nil=>unfold Z5;split<;>simp
 | cons x r ih=>unfold Z5;have:=ih (x.From+1) (x.To+1);split<;>simp<;>omega
def S9 (i j:Int) (n:Nat):List Span:=(List.range n).map fun (t:Nat)=>⟨i+(t:Int),j+(t:Int)⟩
theorem B60 (i j:Int) (n:Nat):(S9 i j n).length=n:=by simp [S9]
theorem C81 (i j:Int) (n:Nat):S9 i j (n+1)=⟨i,j⟩::S9 (i+1) (j+1) n:=by
 unfold S9
 rw [List.range_succ_eq_map,J85,K23]
 congr 1
 ·simp
 ·refine List.map_congr_left fun t _=>?_
  simp only [Function.comp,Span.mk.injEq]
  omega
def L3 (i j:Int):List Change→Int→List Span
 | [],m=>S9 i j (m - i).toNat
 | c::r,m=>S9 i j (c.Old - i).toNat++L3 (max i c.Old+c.OldLen) (j+(c.Old - i).toNat+c.NewLen) r m
def n5 (l:List Change) (m:Int):List Span:=L3 0 0 l m
def dist:List Int→List Int→Nat
 | [],b=>b.length
 | x::a,[]=>(x::a).length
 | x::a,y::b=>if x=y then dist a b else 1+min (dist a (y::b)) (dist (x::a) b)
theorem E54 (a:List Int):dist a []=a.length:=by cases a<;>simp [dist]
theorem G16 (a b:List Int):dist a b≤a.length+b.length:=by
 induction a generalizing b with
 | nil=>simp [dist]
 | cons x a iha =>
  induction b with
  | nil=>simp [dist]
  | cons y b ihb =>
   unfold dist
   split
   ·have:=iha b;simp;omega
   ·have:=iha (y::b);have:=ihb;simp only [J78] at *;omega
def J2 (i j:Int):List Int→List Int→List Span
 | [],_=>[]
 | _::_,[]=>[]
 | x::a,y::b=>if x=y then ⟨i,j⟩::J2 (i+1) (j+1) a b else if dist a (y::b)+1=dist (x::a) (y::b) then J2 (i+1) j a (y::b) else J2 i (j+1) (x::a) b
def r9 (a b:List Int):List Change:=D33 (J2 0 0 a b) a.length b.length
theorem I73 (a b:List Int) (i j:Nat) (hi:i < a.length) (hj:j < b.length) :
  dist (a.drop i) (b.drop j)=if a[i]=b[j] then dist (a.drop (i+1)) (b.drop (j+1)) else 1+min (dist (a.drop (i+1)) (b.drop j)) (dist (a.drop i) (b.drop (j+1))):=by
 rw [J84 hi,J84 hj]
 conv=>lhs;rw [dist]
theorem B61 (a b:List Int) (i j:Nat) (hi:i < a.length) (hj:j < b.length) (p q:Int) :
  J2 p q (a.drop i) (b.drop j)=if a[i]=b[j] then ⟨p,q⟩::J2 (p+1) (q+1) (a.drop (i+1)) (b.drop (j+1)) else
   if dist (a.drop (i+1)) (b.drop j)+1=dist (a.drop i) (b.drop j) then J2 (p+1) q (a.drop (i+1)) (b.drop j) else J2 p (q+1) (a.drop i) (b.drop (j+1)):=by
 rw [J84 hi,J84 hj]
 conv=>lhs;rw [J2]
theorem B31 (p q:Int) (b:List Int):J2 p q [] b=[]:=by simp [J2]
theorem A78 (p q:Int) (a:List Int):J2 p q a []=[]:=by cases a<;>simp [J2]
theorem x9 (p q:Int) (a b:List Int):(J2 p q a b).length≤a.length:=by
 induction a generalizing p q b with
 | nil=>simp [J2]
 | cons x a iha =>
  induction b generalizing p q with
  | nil=>simp [J2]
  | cons y b ihb =>
   unfold J2
   split
   ·have:=iha (p+1) (q+1) b;simp;omega
   ·split
    ·have:=iha (p+1) q (y::b);simp;omega
    ·exact ihb p (q+1)
universe u
theorem D34 {α:Type u} (n k:Nat) (f g:Nat→α) (v:α) (hv:k < n→g k=v) (h:∀q,q < n→q≠k→g q=f q):((List.range n).map f).set k v=(List.range n).map g:=by
 refine List.ext_getElem (by simp) fun q h1 h2=>?_
 have hq:q < n:=by simpa using h2
 rw [List.getElem_set]
 by_cases he:k=q
 ·subst he;simp [hv hq]
 ·rw [if_neg he];simp [h q hq (Ne.symm he)]
theorem D35 {α:Type u} (n k:Nat) (f:Nat→α) (h:k < n):((List.range n).map f)[k]?=some (f k):=by simp [h]
def P9 (a b:List Int) (i q:Nat):List Int:=(List.range (b.length+1)).map fun j=>if q≤j then (dist (a.drop i) (b.drop j):Int) else 0
def N3 (a b:List Int) (i:Nat):List (List Int):=(List.range (a.length+1)).map fun r=>if i≤r then P9 a b r 0 else []
def B87 (a b:List Int):List (List Int):=N3 a b 0
theorem E55 (a b:List Int) (i q:Nat):(P9 a b i q).length=b.length+1:=by simp [P9]
theorem A03 (a b:List Int) (i:Nat):(N3 a b i).length=a.length+1:=by simp [N3]
theorem G17 (a b:List Int) (i:Nat):List.replicate (b.length+1) 0=P9 a b i (b.length+1):=by
 refine List.ext_getElem (by simp [P9]) fun q h1 h2=>?_
 have:¬(b.length+1≤q):=by simp at h1;omega
 simp [P9,this]
theorem F10 (a b:List Int):List.replicate (a.length+1) []=N3 a b (a.length+1):=by
 refine List.ext_getElem (by simp [N3]) fun q h1 h2=>?_
 have:¬(a.length+1≤q):=by simp at h1;omega
 simp [N3,this]
theorem G92 (a b:List Int) (i j:Nat):(P9 a b i (j+1)).set j (dist (a.drop i) (b.drop j):Int)=P9 a b i j:=by
 unfold P9
 refine D34 _ _ _ _ _ (fun _=>by simp) fun q hq hne=>?_
 by_cases h:j≤q
 ·rw [if_pos h,if_pos (by omega)]
 ·rw [if_neg h,if_neg (by omega)]
theorem z6 (a b:List Int) (i q j:Nat) (h:q≤j) (hj:j≤b.length):(P9 a b i q)[j]?=some (dist (a.drop i) (b.drop j):Int):=by
 unfold P9
 rw [D35 _ _ _ (by omega),if_pos h]
theorem G18 (a b:List Int) (i:Nat):(N3 a b (i+1)).set i (P9 a b i 0)=N3 a b i:=by
 unfold N3
 refine D34 _ _ _ _ _ (fun _=>by simp) fun q hq hne=>?_
 by_cases h:i≤q
 ·rw [if_pos h,if_pos (by omega)]
 ·rw [if_neg h,if_neg (by omega)]
theorem B06 (a b:List Int) (i r:Nat) (h:i≤r) (hr:r≤a.length):(N3 a b i)[r]?=some (P9 a b r 0):=by
 unfold N3
 rw [D35 _ _ _ (by omega),if_pos h]
def K8 (l:List Merged):List Int:=l.map (·.Line)
theorem C82 (i j:Int):S9 i j 0=[]:=rfl
theorem C83 (i j:Int) (n:Nat):S9 i j (n+1)=S9 i j n++[⟨i+n,j+n⟩]:=by simp [S9,K22]
def Asc (m n:Int):Int→Int→List Span→Prop
 | i,j,[]=>i≤m∧j≤n
 | i,j,x::r=>i≤x.From∧j≤x.To∧Asc m n (x.From+1) (x.To+1) r
theorem Asc.le {m n:Int}:∀{p:List Span} {i j:Int},Asc m n i j p→i≤m∧j≤n
 | [],i,j,h=>h
 | x::r,i,j,h=>by have:=Asc.le h.2.2;have:=h.1;have:=h.2.1;omega
theorem Asc.weaken {m n:Int} {p:List Span} {i j i' j':Int} (h:Asc m n i j p) (hi:i'≤i) (hj:j'≤j):Asc m n i' j' p:=by
 cases p with
 | nil=>exact ⟨by have:=h.1;omega,by have:=h.2;omega⟩
 | cons x r=>exact ⟨by have:=h.1;omega,by have:=h.2.1;omega,h.2.2⟩
theorem B07 (a b:List Int):∀(p q:Int),Asc (p+a.length) (q+b.length) p q (J2 p q a b):=by
 induction a generalizing b with
 | nil=>intro p q;rw [B31];simp only [Asc,J81];omega
 | cons x a iha =>
  induction b with
  | nil=>intro p q;rw [A78];simp only [Asc,J81];omega
  | cons y b ihb =>
   intro p q
   rw [J2]
   split
   ·have:=iha b (p+1) (q+1)
    refine ⟨Int.le_refl _,Int.le_refl _,?_⟩
    simp only [J78]
    rwa [show p+((a.length+1:Nat):Int)=p+1+a.length by omega,show q+((b.length+1:Nat):Int)=q+1+b.length by omega]
   ·split
    ·have:=(iha (y::b) (p+1) q).weaken (i':=p) (j':=q) (by omega) (Int.le_refl _)
     rwa [show p+((x::a).length:Int)=p+1+a.length by simp;omega]
    ·have:=(ihb p (q+1)).weaken (i':=p) (j':=q) (Int.le_refl _) (by omega)
     rwa [show q+((y::b).length:Int)=q+1+b.length by simp;omega]
theorem Asc.made {m n:Int}:∀{p:List Span} {i j:Int},Asc m n i j p→∀c∈Z5 i j p m n,i≤c.Old∧j≤c.New∧0≤c.OldLen∧0≤c.NewLen∧c.Old+c.OldLen≤m∧c.New+c.NewLen≤n
 | [],i,j,h,c,hc=>by
  unfold Z5 at hc
  split at hc
  ·simp only [List.mem_singleton] at hc;subst hc
   have:=h.1;have:=h.2
   simp only;omega
  ·cases hc
 | x::r,i,j,h,c,hc=>by
  unfold Z5 at hc
  obtain ⟨h1,h2,h3⟩:=h
  have h4:=h3.le
  rcases List.mem_append.1 hc with hc | hc
  ·split at hc
   ·simp only [List.mem_singleton] at hc;subst hc
    simp only;omega
   ·cases hc
  ·have:=Asc.made h3 c hc;omega
theorem E56 (i j m:Int) (l:List Change) (h:∀c∈l,i+1≤c.Old) (hm:l=[]→i+1≤m):L3 i j l m=⟨i,j⟩::L3 (i+1) (j+1) l m:=by
 cases l with
 | nil =>
  have:=hm rfl
  rw [L3,L3,show (m - i).toNat=(m - (i+1)).toNat+1 by omega,C81]
 | cons c r =>
  have:=h c (List.mem_cons_self ..)
  rw [L3,L3,show (c.Old - i).toNat=(c.Old - (i+1)).toNat+1 by omega,C81]
  rw [show max (i+1) c.Old=max i c.Old by omega,show (j+1+((c.Old - (i+1)).toNat:Int))=j+(((c.Old - (i+1)).toNat+1:Nat):Int) by omega]
  rfl
theorem C84 {m n:Int}:∀{p:List Span} {i j:Int},Asc m n i j p→L3 i j (Z5 i j p m n) m=p
 | [],i,j,h=>by
  have h1:=h.1;have h2:=h.2
  unfold Z5
  split
  ·rw [L3,L3,show (i - i).toNat=0 by omega,show (m - (max i i+(m - i))).toNat=0 by omega];rfl
  ·rw [L3,show (m - i).toNat=0 by omega];rfl
 | x::r,i,j,h=>by
  obtain ⟨h1,h2,h3⟩:=h
  have ih:=C84 h3
  have hm:=h3.le
  have hd:=E56 x.From x.To m (Z5 (x.From+1) (x.To+1) r m n) (fun c hc=>(h3.made c hc).1) (fun _=>hm.1)
  rw [ih] at hd
  unfold Z5
  split
  ·rw [K25,L3,show (i - i).toNat=0 by omega,show max i i+(x.From - i)=x.From by omega,show j+((0:Nat):Int)+(x.To - j)=x.To by omega,hd];rfl
  ·have e1:i=x.From:=by omega
   have e2:j=x.To:=by omega
   rw [K07,e1,e2,hd]
theorem C85 (a b:List Int):n5 (r9 a b) a.length=J2 0 0 a b:=by
 have:=B07 a b 0 0
 rw [Int.zero_add,Int.zero_add] at this
 exact C84 this
theorem C86 (a b:List Int):∀c∈r9 a b,0≤c.Old∧0≤c.New∧0≤c.OldLen∧0≤c.NewLen∧c.Old+c.OldLen≤a.length∧c.New+c.NewLen≤b.length:=by
 have:=B07 a b 0 0
 rw [Int.zero_add,Int.zero_add] at this
 exact this.made
def R9 (p:Int):Int:=IntKind.u32.wrap (1*2 ^ (min (IntKind.u64.wrap p).toNat IntKind.u32.bits))
def V0 (a b:Int):Int:=IntKind.u32.wrap ((BitVec.ofInt IntKind.u32.bits a ||| BitVec.ofInt IntKind.u32.bits b).toNat:Int)
def Y2 (l:List Merged) (list:List Int) (bit:Int) (i j:Nat):List Span→List Merged
 | []=>(l.drop i).take (l.length - i)++((list.drop j).take (list.length - j)).map fun v=>⟨v,bit⟩
 | x::r=>(l.drop i).take (x.From.toNat - i)++(((list.drop j).take (x.To.toNat - j)).map fun v=>⟨v,bit⟩)++((l[x.From.toNat]?.map fun y=>(⟨y.Line,V0 y.Parents bit⟩:Merged)).toList++Y2 l list bit (x.From.toNat+1) (x.To.toNat+1) r)
def s5 (l:List Merged) (list:List Int) (p:Int):List Merged:=Y2 l list (R9 p) 0 0 (J2 0 0 (K8 l) list)
theorem B62 {α:Type} (l:List α) (i t:Nat) (h:i+t < l.length):(l.drop i).take (t+1)=(l.drop i).take t++[l[i+t]]:=by
 rw [List.take_add_one,J99,J79 h];rfl
theorem C15 (l:List Merged) (list:List Int) (bit:Int):∀(p:List Span) (i j:Nat),(Y2 l list bit i j p).length≤l.length*(p.length+1)+list.length*(p.length+1)+p.length
 | [],i,j=>by simp [Y2];omega
 | x::r,i,j=>by
  have:=C15 l list bit r (x.From.toNat+1) (x.To.toNat+1)
  have h1:((l.drop i).take (x.From.toNat - i)).length≤l.length:=by simp;omega
  have h2:((list.drop j).take (x.To.toNat - j)).length≤list.length:=by simp;omega
  have h3:((l[x.From.toNat]?.map fun y=>(⟨y.Line,V0 y.Parents bit⟩:Merged)).toList).length≤1:=by cases l[x.From.toNat]?<;>simp
  simp only [Y2,J77,K10,J78,Nat.mul_add,Nat.mul_one] at *
  omega
end Go.AL
namespace Go.AL
open Go
def A46 (m:Int) (c:Nat):Bool:=m / 2 ^ c % 2 == 1
def U4 (r:Row) (c:Int):Bool:=if c = -1 then !r.Lost else if c < -1∨32≤c then false else A46 r.Marks c.toNat == r.Lost
def O5 (rows:List Row) (c:Int):List Str:=(rows.filter (U4 · c)).map (·.Text)
def U7 (n:Nat) (r:Row):Bool:=r.Marks / 2 ^ n == 0&&!(r.Lost&&r.Marks == 0)
def N7 (rows:List Row) (n:Nat):Bool:=rows.all (U7 n)
def s6 (rows:List Row) (n:Nat):Bool:=rows.all (fun r=>J1 r.Text)&&(List.range (n+1)).all fun k=>c8 (O5 rows ((k:Int) - 1))
def U5 (t:Table):Int:=if t.Parents < 1∨32 < t.Parents then 2 else if N7 t.Rows t.Parents.toNat=false then 180 else if s6 t.Rows t.Parents.toNat=false then 4 else 0
theorem C87 (r:Row) (rs:List Row) (n:Nat):N7 (r::rs) n=(U7 n r&&N7 rs n):=rfl
def I9 (rows:List Row):Prop:=∀r∈rows,0≤r.Marks∧r.Marks < 4294967296
def P0 (rows:List Row):Nat:=(rows.map (·.Text)).flatten.length
theorem D36 (rows:List Row) (c:Int):(O5 rows c).length≤rows.length:=by unfold O5;rw [K10];exact List.length_filter_le _ _
theorem H70 (rows:List Row) (c:Int):(O5 rows c).flatten.length≤P0 rows:=by
 unfold O5 P0
 induction rows with
 | nil=>simp
 | cons r rs ih =>
  rw [List.filter_cons]
  split
  ·simp only [J85,J91,J77];omega
  ·simp only [J85,J91,J77];omega
theorem I74 (rows:List Row) (c:Int):∀s∈O5 rows c,∃r∈rows,r.Text=s:=by
 intro s hs
 unfold O5 at hs
 obtain ⟨r,hr,rfl⟩:=List.mem_map.1 hs
 exact ⟨r,(List.mem_filter.1 hr).1,rfl⟩
theorem E57 (rows:List Row):∀r∈rows,r.Text.length≤P0 rows:=by
 intro r hr
 unfold P0
 exact (List.sublist_flatten_of_mem (List.mem_map_of_mem hr)).length_le
theorem A79 (x:Int) (h:0≤x∧x < 4294967296):IntKind.u32.wrap ((BitVec.ofInt IntKind.u32.bits x &&& BitVec.ofInt IntKind.u32.bits 1).toNat:Int)=x % 2:=by
 have h1:(BitVec.ofInt IntKind.u32.bits x &&& BitVec.ofInt IntKind.u32.bits 1).toNat=x.toNat % 2:=by
  rw [BitVec.toNat_and,BitVec.toNat_ofInt,BitVec.toNat_ofInt]
  have e1:(x % ((2 ^ IntKind.u32.bits:Nat):Int)).toNat=x.toNat:=by
   rw [show ((2 ^ IntKind.u32.bits:Nat):Int)=4294967296 by rfl];omega
  have e2:((1:Int) % ((2 ^ IntKind.u32.bits:Nat):Int)).toNat=1:=by rfl
  rw [e1,e2,Nat.and_one_is_mod]
 rw [h1]
 have h2:IntKind.u32.wrap ((x.toNat % 2:Nat):Int)=((x.toNat % 2:Nat):Int):=by
  simp [IntKind.wrap,IntKind.signed,IntKind.bits];omega
 rw [h2];omega
theorem A61 {n:Int} (h:0≤n∧n < 18446744073709551616):IntKind.u64.wrap n=n:=by simp [IntKind.wrap,IntKind.signed,IntKind.bits];omega
theorem D68 (m c:Int) (hc:0≤c∧c≤32):m.fdiv (2 ^ (min c.toNat IntKind.u32.bits))=m / 2 ^ c.toNat:=by
 rw [show min c.toNat IntKind.u32.bits=c.toNat from Nat.min_eq_left (by show c.toNat≤32;omega),Int.fdiv_eq_ediv_of_nonneg _ (Int.pow_nonneg (by decide))]
theorem shr64' (m c:Int) (hc:0≤c∧c≤64):m.fdiv (2 ^ (min c.toNat IntKind.u64.bits))=m / 2 ^ c.toNat:=by
 rw [show min c.toNat IntKind.u64.bits=c.toNat from Nat.min_eq_left (by show c.toNat≤64;omega),Int.fdiv_eq_ediv_of_nonneg _ (Int.pow_nonneg (by decide))]
theorem shr_eq (m c:Int) (b:Nat) (hc:0≤c∧c≤b):m.fdiv (2 ^ (min c.toNat b))=m / 2 ^ c.toNat:=by
 rw [show min c.toNat b=c.toNat by omega,Int.fdiv_eq_ediv_of_nonneg _ (Int.pow_nonneg (by decide))]
end Go.AL
namespace Go.AL
open Go
theorem E58 (n:Int):0≤IntKind.u32.wrap n∧IntKind.u32.wrap n < 4294967296:=by simp [IntKind.wrap,IntKind.signed,IntKind.bits];omega
def clrBit (a b:Int):Int:=IntKind.u32.wrap ((BitVec.ofInt IntKind.u32.bits a &&& ~~~BitVec.ofInt IntKind.u32.bits b).toNat:Int)
def O8 (acc:List Merged) (p:Nat):List (List Int)→List Merged × Int
 | []=>(acc,0)
 | x::r=>if 4096 < acc.length∨4096 < x.length then ([],1) else O8 (s5 acc x p) (p+1) r
def J3 (lists:List (List Int)):List Merged × Int:=if 32 < lists.length then ([],1) else O8 [] 0 lists
theorem D69 (l:List Merged) (list:List Int) (bit:Int):∀(ps:List Span) (i j:Nat),i≤l.length→j≤list.length→Asc l.length list.length i j ps→(Y2 l list bit i j ps).length≤(l.length - i)+(list.length - j)
 | [],i,j,hi,hj,_=>by simp [Y2]
 | x::r,i,j,hi,hj,ha=>by
  obtain ⟨h1,h2,h3⟩:=ha
  have h4:=h3.le
  have e1:((x.From.toNat+1:Nat):Int)=x.From+1:=by omega
  have e2:((x.To.toNat+1:Nat):Int)=x.To+1:=by omega
  have ih:=D69 l list bit r (x.From.toNat+1) (x.To.toNat+1) (by omega) (by omega) (by rw [e1,e2];exact h3)
  have h5:((l[x.From.toNat]?.map fun y=>(⟨y.Line,V0 y.Parents bit⟩:Merged)).toList).length≤1:=by cases l[x.From.toNat]?<;>simp
  simp only [Y2,J77,K10,J90,J88]
  omega
theorem G93 (l:List Merged) (list:List Int) (p:Int):(s5 l list p).length≤l.length+list.length:=by
 have hasc:=B07 (K8 l) list 0 0
 rw [Int.zero_add,Int.zero_add,show (K8 l).length=l.length by simp [K8]] at hasc
 have:=D69 l list (R9 p) (J2 0 0 (K8 l) list) 0 0 (Nat.zero_le _) (Nat.zero_le _) hasc
 simpa [s5] using this
theorem j1 {α:Type} {l:List α} {i n:Nat} {x:α} (h:x∈(l.drop i).take n):x∈l:=List.mem_of_mem_drop (List.mem_of_mem_take h)
theorem E59 (l:List Merged) (list:List Int) (bit:Int) (hb:0≤bit∧bit < 4294967296) (hl:∀m∈l,0≤m.Parents∧m.Parents < 4294967296) (Q:Int→Prop) (hq1:∀m∈l,Q m.Line) (hq2:∀v∈list,Q v) :
  ∀(ps:List Span) (i j:Nat),∀m∈Y2 l list bit i j ps,(0≤m.Parents∧m.Parents < 4294967296)∧Q m.Line
 | [],i,j,m,hm=>by
  rcases List.mem_append.1 hm with h | h
  ·have:=j1 h;exact ⟨hl _ this,hq1 _ this⟩
  ·obtain ⟨v,hv,rfl⟩:=List.mem_map.1 h
   exact ⟨hb,hq2 _ (j1 hv)⟩
 | x :: r,i,j,m,hm=>by
  unfold Y2 at hm
  rcases List.mem_append.1 hm with h | h
  ·rcases List.mem_append.1 h with h | h
   ·have:=j1 h;exact ⟨hl _ this,hq1 _ this⟩
   ·obtain ⟨v,hv,rfl⟩:=List.mem_map.1 h
    exact ⟨hb,hq2 _ (j1 hv)⟩
  ·rcases List.mem_append.1 h with h | h
   ·cases hx:l[x.From.toNat]? with
    | none=>simp [hx] at h
    | some y =>
     simp [hx] at h
     subst h
     exact ⟨E58 _,hq1 y (J93 hx)⟩
   ·exact E59 l list bit hb hl Q hq1 hq2 r _ _ m h
theorem A47 (Q:Int→Prop) (B:Nat):∀(ls:List (List Int)) (acc:List Merged) (p:Nat),(∀x∈ls,x.length≤B∧∀v∈x,Q v)→(∀m∈acc,(0≤m.Parents∧m.Parents < 4294967296)∧Q m.Line) →
  (O8 acc p ls).1.length≤acc.length+ls.length*B∧∀m∈(O8 acc p ls).1,(0≤m.Parents∧m.Parents < 4294967296)∧Q m.Line
 | [],acc,p,_,ha=>by simp only [O8];exact ⟨by simp,ha⟩
 | x::r,acc,p,hl,ha=>by
  unfold O8
  split
  ·exact ⟨by simp,by simp⟩
  ·have hx:=hl x (List.mem_cons_self ..)
   have hj:=G93 acc x p
   have hm:=E59 acc x (R9 p) (E58 _) (fun m hm=>(ha m hm).1) Q (fun m hm=>(ha m hm).2) hx.2 (J2 0 0 (K8 acc) x) 0 0
   have ih:=A47 Q B r (s5 acc x p) (p+1) (fun y hy=>hl y (List.mem_cons_of_mem _ hy)) hm
   refine ⟨?_,ih.2⟩
   have h1:=ih.1
   have h2:=hx.1
   simp only [J78,K09,Nat.one_mul]
   omega
theorem C16 (Q:Int→Prop) (B:Nat) (ls:List (List Int)) (h:∀x∈ls,x.length≤B∧∀v∈x,Q v):(J3 ls).1.length≤ls.length*B∧∀m∈(J3 ls).1,(0≤m.Parents∧m.Parents < 4294967296)∧Q m.Line:=by
 unfold J3
 split
 ·exact ⟨by simp,by simp⟩
 ·have:=A47 Q B ls [] 0 h (by simp)
  simpa using this
def N9 (p:Int) (ms:List Int) (x:Span):List Int:=ms.set x.To.toNat (clrBit (ms.getD x.To.toNat 0) (R9 p))
def T5 (p:Nat) (file:List Int) (g:Nat→List (List Int)) (c:Change):Nat→List (List Int):=fun k =>
 if k=c.New.toNat then (g k).set p ((file.drop c.Old.toNat).take ((c.Old+c.OldLen).toNat - c.Old.toNat)) else g k
abbrev Loom:=List Int × (Nat→List (List Int))
def x4 (ids:List (List Int)) (s:Loom) (p:Nat):Loom :=
 let file:=ids.getD (p+1) []
 let sc:=r9 file (ids.getD 0 [])
 ((n5 sc file.length).foldl (N9 p) (s.1.map (V0 · (R9 p))),sc.foldl (T5 p file) s.2)
def G94 (lines n:Nat):Loom:=(List.replicate lines 0,fun _=>List.replicate n [])
def A62 (ids:List (List Int)) (lines n p:Nat):Loom:=(List.range p).foldl (x4 ids) (G94 lines n)
def x5 (names:List Str) (file:List Str) (s:Loom) (k:Nat):List Row :=
 (J3 (s.2 k)).1.map (fun m=>(⟨true,m.Parents,names.getD m.Line.toNat []⟩:Row))++(if k < file.length then [⟨false,s.1.getD k 0,file.getD k []⟩] else [])
def A04 (names:List Str) (file:List Str) (s:Loom) (k:Nat):List Row:=((List.range k).map (x5 names file s)).flatten
def J9 (result:Str) (parents:List Str):Table × Int :=
 if parents.length < 1∨32 < parents.length then (⟨0,[]⟩,2) else
 let fs:=D2 result::parents.map D2
 let names:=H0 fs
 let s:=A62 (fs.map (V6 names)) (D2 result).length parents.length parents.length
 if ∃k,k < (D2 result).length+1∧(J3 (s.2 k)).2≠0 then (⟨0,[]⟩,1) else (⟨parents.length,A04 names (D2 result) s ((D2 result).length+1)⟩,0)
theorem D70 (names file:List Str) (s:Loom) (k:Nat):A04 names file s (k+1)=A04 names file s k++x5 names file s k:=by
 unfold A04;rw [K22,J92,K04];simp
structure LoomOk (Q:Int→Prop) (B lines n:Nat) (s:Loom):Prop where
 len:s.1.length=lines
 marks:∀m∈s.1,0≤m∧m < 4294967296
 gaps:∀k,(s.2 k).length=n∧∀x∈s.2 k,x.length≤B∧∀v∈x,Q v
theorem J27 (Q:Int→Prop) (B lines n:Nat):LoomOk Q B lines n (G94 lines n) where
 len:=by simp [G94]
 marks:=fun m hm=>by have:=List.eq_of_mem_replicate hm;subst this;decide
 gaps:=fun k=>⟨by simp [G94],fun x hx=>by have:=List.eq_of_mem_replicate hx;subst this;simp⟩
theorem I75 {Q:Int→Prop} {B n p:Nat} {file:List Int} (hf:file.length≤B∧∀v∈file,Q v) {g:Nat→List (List Int)} (hg:∀k,(g k).length=n∧∀x∈g k,x.length≤B∧∀v∈x,Q v) (c:Change) :
  ∀k,(T5 p file g c k).length=n∧∀x∈T5 p file g c k,x.length≤B∧∀v∈x,Q v:=by
 intro k
 unfold T5
 split
 ·refine ⟨by rw [List.length_set];exact (hg k).1,fun x hx=>?_⟩
  rcases List.mem_or_eq_of_mem_set hx with h | rfl
  ·exact (hg k).2 x h
  ·exact ⟨by simp;omega,fun v hv=>hf.2 v (j1 hv)⟩
 ·exact hg k
theorem B08 {Q:Int→Prop} {B n p:Nat} {file:List Int} (hf:file.length≤B∧∀v∈file,Q v):∀(sc:List Change) {g:Nat→List (List Int)},(∀k,(g k).length=n∧∀x∈g k,x.length≤B∧∀v∈x,Q v) →
  ∀k,(sc.foldl (T5 p file) g k).length=n∧∀x∈sc.foldl (T5 p file) g k,x.length≤B∧∀v∈x,Q v
 | [],_,hg=>hg
 | c::r,_,hg=>B08 hf r (I75 hf hg c)
theorem G95 {p:Int} {ms:List Int} {x:Span} (h:∀m∈ms,0≤m∧m < 4294967296):(N9 p ms x).length=ms.length∧∀m∈N9 p ms x,0≤m∧m < 4294967296:=by
 refine ⟨by simp [N9],fun m hm=>?_⟩
 rcases List.mem_or_eq_of_mem_set hm with h' | rfl
 ·exact h m h'
 ·exact E58 _
theorem B63 {p:Int}:∀(ps:List Span) {ms:List Int},(∀m∈ms,0≤m∧m < 4294967296)→(ps.foldl (N9 p) ms).length=ms.length∧∀m∈ps.foldl (N9 p) ms,0≤m∧m < 4294967296
 | [],ms,h=>⟨rfl,h⟩
 | x::r,ms,h=>by
  have h1:=G95 (p:=p) (x:=x) h
  have h2:=B63 (p:=p) r h1.2
  exact ⟨h2.1.trans h1.1,h2.2⟩
theorem F11 {Q:Int→Prop} {B lines n:Nat} {ids:List (List Int)} (hids:∀x∈ids,x.length≤B∧∀v∈x,Q v) {s:Loom} (h:LoomOk Q B lines n s) (p:Nat):LoomOk Q B lines n (x4 ids s p):=by
 have hf:(ids.getD (p+1) []).length≤B∧∀v∈ids.getD (p+1) [],Q v:=by
  rw [J82]
  cases hx:ids[p+1]? with
  | none=>simp
  | some x=>exact hids x (J93 hx)
 have hr:∀m∈s.1.map (V0 · (R9 p)),0≤m∧m < 4294967296:=fun m hm=>by
  obtain ⟨v,_,rfl⟩:=List.mem_map.1 hm;exact E58 _
 have hc:=B63 (p:=p) (n5 (r9 (ids.getD (p+1) []) (ids.getD 0 [])) (ids.getD (p+1) []).length) hr
 exact { len:=by rw [x4];simp only;rw [hc.1,K10];exact h.len,marks:=hc.2,gaps:=B08 hf _ h.gaps }
theorem D71 (ids:List (List Int)) (lines n p:Nat):A62 ids lines n (p+1)=x4 ids (A62 ids lines n p) p:=by
 unfold A62;rw [K22,K21];rfl
theorem D37 {Q:Int→Prop} {B lines n:Nat} {ids:List (List Int)} (hids:∀x∈ids,x.length≤B∧∀v∈x,Q v):∀p,LoomOk Q B lines n (A62 ids lines n p)
 | 0=>J27 Q B lines n
 | p+1=>by rw [D71];exact F11 hids (D37 hids p) p
theorem H71 (l:List Str) (s:Str):∀k:Int,0≤k→s∈l→k≤V4 l s k∧V4 l s k < k+l.length:=by
 induction l with
 | nil=>intro k _ h;cases h
 | cons x r ih =>
  intro k hk h
  unfold V4
  by_cases hx:x=s
  ·rw [if_pos hx];simp;omega
  ·rw [if_neg hx]
   have:=ih (k+1) (by omega) (by rcases List.mem_cons.1 h with rfl | h;exact absurd rfl hx;exact h)
   simp only [J78];omega
theorem D93 (l:List Str):∀(out:List Str) (s:Str),s∈out∨s∈l→s∈l.foldl K5 out:=by
 induction l with
 | nil=>intro out s h;rcases h with h | h;exact h;cases h
 | cons x r ih =>
  intro out s h
  apply ih
  rcases h with h | h
  ·left;unfold K5;split;exact h;exact List.mem_append_left _ h
  ·rcases List.mem_cons.1 h with rfl | h
   ·left;unfold K5;split;assumption;simp
   ·exact .inr h
theorem G96 (fs:List (List Str)) (s:Str) (f:List Str) (hf:f∈fs) (hs:s∈f):s∈H0 fs:=D93 _ _ _ (.inr (List.mem_flatten.2 ⟨f,hf,hs⟩))
theorem ids_in (fs:List (List Str)):∀x∈fs.map (V6 (H0 fs)),∀v∈x,0≤v∧v < (H0 fs).length:=by
 intro x hx v hv
 obtain ⟨f,hf,rfl⟩:=List.mem_map.1 hx
 obtain ⟨s,hs,rfl⟩:=List.mem_map.1 hv
 have:=H71 (H0 fs) s 0 (Int.le_refl _) (G96 fs s f hf hs)
 omega
theorem D94 (l:List Str):∀(out:List Str) (s:Str),s∈l.foldl K5 out→s∈out∨s∈l:=by
 induction l with
 | nil=>intro out s h;exact .inl h
 | cons x r ih =>
  intro out s h
  rcases ih _ _ h with h | h
  ·unfold K5 at h
   split at h
   ·exact .inl h
   ·rcases List.mem_append.1 h with h | h
    ·exact .inl h
    ·simp at h;subst h;exact .inr (by simp)
  ·exact .inr (List.mem_cons_of_mem _ h)
theorem G97 (fs:List (List Str)) (s:Str) (h:s∈H0 fs):s∈fs.flatten:=by
 rcases D94 _ _ _ h with h | h
 ·cases h
 ·exact h
end Go.AL
namespace Go.AL
open Go
theorem C88 (s:Str):Lib.hasSuffix s [10]=ended s:=by
 unfold Lib.hasSuffix ended
 rw [Bool.eq_iff_iff,List.isSuffixOf_iff_suffix,beq_iff_eq]
 constructor
 ·rintro ⟨t,rfl⟩;simp
 ·intro h
  obtain ⟨hne,h2⟩:=List.getLast?_eq_some_iff.1 h
  exact ⟨hne,h2.symm⟩
def B09 (s:Str):Str:=if ended s then s.dropLast else s
theorem C17 (s:Str):Lib.trimSuffix s [10]=B09 s:=by
 unfold Lib.trimSuffix B09
 rw [C88,List.dropLast_eq_take];rfl
theorem j6 (c:UInt8):∀l:Str,(c∉l∧Lib.indexByte l c = -1)∨∃a b,l=a++c::b∧c∉a∧Lib.indexByte l c=a.length
 | []=>.inl ⟨by simp,rfl⟩
 | x::l=>by
  unfold Lib.indexByte
  by_cases hx:x=c
  ·exact .inr ⟨[],l,by rw [hx];rfl,by simp,by simp [hx]⟩
  ·rcases j6 c l with ⟨h1,h2⟩ | ⟨a,b,h1,h2,h3⟩
   ·exact .inl ⟨by simp [h1,Ne.symm hx],by simp [hx,h2]⟩
   ·refine .inr ⟨x::a,b,by rw [h1];rfl,by simp [h2,Ne.symm hx],?_⟩
    have h4:¬((a.length:Int) = -1):=by omega
    simp [hx,h3,h4]
theorem F12 (c:UInt8) (l:Str):0≤Lib.indexByte l c↔c∈l:=by
 rcases j6 c l with ⟨h1,h2⟩ | ⟨a,b,h1,h2,h3⟩
 ·rw [h2];simp [h1]
 ·rw [h3,h1];simp
theorem C34 (s:Str):J1 s=true↔s≠[]∧10∉s.dropLast:=by
 unfold J1
 rw [J80,List.all_eq_true]
 constructor
 ·rintro ⟨h1,h2⟩
  exact ⟨by simpa using h2,fun h=>by have:=h1 10 h;simp at this⟩
 ·rintro ⟨h1,h2⟩
  exact ⟨fun x hx=>by simpa using fun e:x=10=>h2 (e ▸ hx),by simpa using h1⟩
theorem J28 (s:Str):10∈B09 s↔10∈s.dropLast:=by
 unfold B09
 split
 ·exact Iff.rfl
 ·rename_i h
  by_cases hs:s=[]
  ·subst hs;simp
  ·constructor
   ·intro h2
    have e:=(List.dropLast_concat_getLast hs).symm
    rw [e] at h2
    rcases List.mem_append.1 h2 with h3 | h3
    ·exact h3
    ·exfalso
     refine h ?_
     unfold ended
     rw [List.getLast?_eq_some_getLast hs]
     simp at h3;simp [←h3]
   ·exact fun h2=>List.dropLast_subset s h2
theorem I76 (s:Str):(if decide (s≠[])=true then !decide (0≤Lib.indexByte (B09 s) 10) else false)=J1 s:=by
 rw [Bool.eq_iff_iff,C34]
 have h:=J28 s
 have h2:=F12 10 (B09 s)
 by_cases hs:s=[]
 ·simp [hs]
 ·simp [hs,h2,h]
theorem G98 (s:Str) (r:List Str):c8 (s::r)=(J1 s&&(r.isEmpty||ended s)&&c8 r):=rfl
def G99 (a b:Int):Int:=IntKind.u32.wrap ((BitVec.ofInt IntKind.u32.bits a &&& BitVec.ofInt IntKind.u32.bits b).toNat:Int)
def not32 (a:Int):Int:=IntKind.u32.wrap ((BitVec.ofInt IntKind.u32.bits IntKind.u32.max ^^^ BitVec.ofInt IntKind.u32.bits a).toNat:Int)
theorem B88 (n c:Nat):A46 (n:Int) c=n.testBit c:=by
 unfold A46
 rw [Nat.testBit_eq_decide_div_mod_eq]
 have:((n:Int) / 2 ^ c % 2 == 1)=decide (n / 2 ^ c % 2=1):=by
  rw [Bool.eq_iff_iff,beq_iff_eq,decide_eq_true_iff]
  have e:(n:Int) / 2 ^ c % 2=((n / 2 ^ c % 2:Nat):Int):=by simp
  rw [e];omega
 exact this
theorem D98 (n:Nat) (h:n < 4294967296):IntKind.u32.wrap (n:Int)=n:=by simp [IntKind.wrap,IntKind.signed,IntKind.bits];omega
theorem D38 (n:Nat):BitVec.ofInt IntKind.u32.bits (n:Int)=BitVec.ofNat 32 n:=BitVec.ofInt_natCast 32 n
theorem I77 (n m:Nat) (hn:n < 4294967296) (hm:m < 4294967296):G99 n m=((n &&& m:Nat):Int):=by
 unfold G99
 rw [D38,D38]
 have e:(BitVec.ofNat 32 n &&& BitVec.ofNat 32 m).toNat=n &&& m:=by
  rw [BitVec.toNat_and,BitVec.toNat_ofNat,BitVec.toNat_ofNat,Nat.mod_eq_of_lt (by omega),Nat.mod_eq_of_lt (by omega)]
 have h2:n &&& m < 2 ^ 32:=Nat.and_lt_two_pow n (by omega)
 show IntKind.u32.wrap ((BitVec.ofNat 32 n &&& BitVec.ofNat 32 m).toNat:Int)=_
 rw [e,D98 _ (by omega)]
theorem C89 (n m:Nat) (hn:n < 4294967296) (hm:m < 4294967296):V0 n m=((n ||| m:Nat):Int)∧n ||| m < 4294967296:=by
 unfold V0
 rw [D38,D38]
 have e:(BitVec.ofNat 32 n ||| BitVec.ofNat 32 m).toNat=n ||| m:=by
  rw [BitVec.toNat_or,BitVec.toNat_ofNat,BitVec.toNat_ofNat,Nat.mod_eq_of_lt (by omega),Nat.mod_eq_of_lt (by omega)]
 have h2:n ||| m < 2 ^ 32:=Nat.or_lt_two_pow (by omega) (by omega)
 refine ⟨?_,by omega⟩
 show IntKind.u32.wrap ((BitVec.ofNat 32 n ||| BitVec.ofNat 32 m).toNat:Int)=_
 rw [e,D98 _ (by omega)]
theorem I78 (n:Nat) (hn:n < 4294967296):not32 n=((4294967295 ^^^ n:Nat):Int)∧4294967295 ^^^ n < 4294967296:=by
 unfold not32
 rw [D38,show IntKind.u32.max=((4294967295:Nat):Int) from rfl,D38]
 have e:(BitVec.ofNat 32 4294967295 ^^^ BitVec.ofNat 32 n).toNat=4294967295 ^^^ n:=by
  rw [BitVec.toNat_xor,BitVec.toNat_ofNat,BitVec.toNat_ofNat,Nat.mod_eq_of_lt (by omega),Nat.mod_eq_of_lt (by omega)]
 have h2:4294967295 ^^^ n < 2 ^ 32:=Nat.xor_lt_two_pow (by omega) (by omega)
 refine ⟨?_,by omega⟩
 show IntKind.u32.wrap ((BitVec.ofNat 32 4294967295 ^^^ BitVec.ofNat 32 n).toNat:Int)=_
 rw [e,D98 _ (by omega)]
theorem J29 (c:Nat) (h:c < 32):(4294967295:Nat).testBit c=true:=by
 have:(4294967295:Nat)=2 ^ 32 - 1:=rfl
 rw [this,Nat.testBit_two_pow_sub_one];simpa using h
def F13 (r:Row):Int:=if r.Lost then r.Marks else not32 r.Marks
def D72 (res:Bool) (par:Int) (r:Row):Bool:=decide (G99 par (F13 r)=0)&&(r.Lost||!res)
def B64 (res:Bool) (r:Row):Bool:=if ended r.Text then res else res||!r.Lost
def B65 (par:Int) (r:Row):Int:=if ended r.Text then par else V0 par (F13 r)
def V7:Bool→Int→List Row→Bool
 | _,_,[]=>true
 | res,par,r::rs=>J1 r.Text&&D72 res par r&&V7 (B64 res r) (B65 par r) rs
theorem H00 (r:Row) (hr:0≤r.Marks∧r.Marks < 4294967296):∃m:Nat,m < 4294967296∧F13 r=m∧∀c,c < 32→m.testBit c=U4 r c:=by
 obtain ⟨k,hk⟩:∃k:Nat,r.Marks=k:=⟨r.Marks.toNat,by omega⟩
 have hv:∀c:Nat,c < 32→U4 r c=(k.testBit c == r.Lost):=by
  intro c hc
  rw [U4,if_neg (by omega),if_neg (by omega),hk,J83,B88]
 unfold F13
 cases hl:r.Lost
 ·have:=I78 k (by omega)
  refine ⟨4294967295 ^^^ k,this.2,by rw [if_neg (by simp),hk];exact this.1,fun c hc=>?_⟩
  rw [hv c hc,hl,Nat.testBit_xor,J29 c hc]
  cases k.testBit c<;>rfl
 ·refine ⟨k,by omega,by rw [if_pos rfl];exact hk,fun c hc=>?_⟩
  rw [hv c hc,hl]
  cases k.testBit c<;>rfl
theorem B10 (r:Row):U4 r (-1)=!r.Lost:=by rw [U4,if_pos rfl]
def j7:Bool→List Str→Bool
 | _,[]=>true
 | b,s::r=>!b&&J1 s&&j7 (!ended s) r
theorem G19 (l:List Str):j7 true l=l.isEmpty:=by cases l<;>simp [j7]
theorem H01 (l:List Str):c8 l=j7 false l:=by
 induction l with
 | nil=>rfl
 | cons s r ih =>
  rw [G98,ih,j7]
  cases he:ended s
  ·rw [show (!false)=true from rfl,G19]
   cases r<;>simp [j7]
  ·simp
structure EndsAt (res:Bool) (par:Int) (bad:Int→Bool):Prop where
 res:res=bad (-1)
 par:∃p:Nat,p < 4294967296∧par=p∧∀c:Nat,c < 32→p.testBit c=bad c
theorem J30 (n m:Nat) (hm:m < 4294967296):n &&& m=0↔∀c,c < 32→m.testBit c=true→n.testBit c=false:=by
 constructor
 ·intro h c hc hm1
  have:(n &&& m).testBit c=false:=by rw [h];simp
  rw [Nat.testBit_and,hm1] at this
  simpa using this
 ·intro h
  refine Nat.eq_of_testBit_eq fun c=>?_
  rw [Nat.testBit_and,Nat.zero_testBit]
  by_cases hc:c < 32
  ·cases hm1:m.testBit c
   ·simp
   ·rw [h c hc hm1];rfl
  ·have:m.testBit c=false:=Nat.testBit_lt_two_pow (Nat.lt_of_lt_of_le (by omega:m < 2 ^ 32) (Nat.pow_le_pow_right (by omega) (by omega)))
   rw [this];simp
theorem I79 {res:Bool} {par:Int} {bad:Int→Bool} (h:EndsAt res par bad) (r:Row) (hr:0≤r.Marks∧r.Marks < 4294967296):D72 res par r=true↔∀c:Int,-1≤c→c < 32→U4 r c=true→bad c=false:=by
 obtain ⟨m,hm,he,hb⟩:=H00 r hr
 obtain ⟨p,hp,hpe,hpb⟩:=h.par
 unfold D72
 rw [he,hpe,I77 p m hp hm,J80,decide_eq_true_iff,show (((p &&& m:Nat):Int)=0)↔p &&& m=0 by omega,J30 p m hm]
 constructor
 ·rintro ⟨h1,h2⟩ c hc1 hc2 hv
  by_cases hc:c = -1
  ·subst hc
   rw [B10] at hv
   rw [←h.res]
   simpa [show r.Lost=false by simpa using hv] using h2
  ·obtain ⟨k,rfl⟩:∃k:Nat,c=k:=⟨c.toNat,by omega⟩
   rw [←hpb k (by omega)]
   exact h1 k (by omega) (by rw [hb k (by omega)];exact hv)
 ·intro h1
  refine ⟨fun c hc hm1=>?_,?_⟩
  ·rw [hpb c hc]
   exact h1 c (by omega) (by omega) (by rw [←hb c hc];exact hm1)
  ·cases hl:r.Lost
   ·have:=h1 (-1) (by omega) (by omega) (by rw [B10,hl];rfl)
    rw [h.res,this];rfl
   ·rfl
theorem I80 {res:Bool} {par:Int} {bad:Int→Bool} (h:EndsAt res par bad) (r:Row) (hr:0≤r.Marks∧r.Marks < 4294967296):EndsAt (B64 res r) (B65 par r) (fun c=>bad c||(U4 r c&&!ended r.Text)):=by
 obtain ⟨m,hm,he,hb⟩:=H00 r hr
 obtain ⟨p,hp,hpe,hpb⟩:=h.par
 unfold B64 B65
 cases hen:ended r.Text
 ·have ho:=C89 p m hp hm
  refine ⟨?_,p ||| m,ho.2,?_,fun c hc=>?_⟩
  ·rw [if_neg (by simp),h.res,B10];simp
  ·rw [if_neg (by simp),he,hpe];exact ho.1
  ·rw [Nat.testBit_or,hpb c hc,hb c hc];simp
 ·refine ⟨?_,p,hp,?_,fun c hc=>?_⟩
  ·rw [if_pos rfl,h.res];simp
  ·rw [if_pos rfl];exact hpe
  ·rw [hpb c hc];simp
theorem B11 (r:Row) (rs:List Row) (c:Int):O5 (r::rs) c=if U4 r c then r.Text::O5 rs c else O5 rs c:=by
 unfold O5
 cases hv:U4 r c<;>simp [hv]
theorem E60:∀(rows:List Row) (res:Bool) (par:Int) (bad:Int→Bool),EndsAt res par bad→I9 rows→(V7 res par rows=true↔(∀r∈rows,J1 r.Text=true)∧∀c:Int,-1≤c→c < 32→j7 (bad c) (O5 rows c)=true)
 | [],res,par,bad,_,_=>by simp [V7,O5,j7]
 | r :: rs,res,par,bad,h,hr=>by
  have hr1:=hr r (by simp)
  have ih:=E60 rs _ _ _ (I80 h r hr1) (fun x hx=>hr x (by simp [hx]))
  rw [V7,J80,J80,I79 h r hr1,ih]
  constructor
  ·rintro ⟨⟨h1,h2⟩,h3,h4⟩
   refine ⟨fun x hx=>?_,fun c hc1 hc2=>?_⟩
   ·rcases List.mem_cons.1 hx with rfl | hx
    ·exact h1
    ·exact h3 x hx
   ·have h5:=h4 c hc1 hc2
    rw [B11]
    cases hv:U4 r c
    ·rw [if_neg (by simp)];simpa [hv] using h5
    ·rw [if_pos rfl,j7,h2 c hc1 hc2 hv,h1]
     rw [h2 c hc1 hc2 hv,hv] at h5
     simpa using h5
  ·rintro ⟨h1,h2⟩
   refine ⟨⟨h1 r (by simp),fun c hc1 hc2 hv=>?_⟩,fun x hx=>h1 x (by simp [hx]),fun c hc1 hc2=>?_⟩
   ·have h3:=h2 c hc1 hc2
    rw [B11,hv,if_pos rfl,j7] at h3
    simp only [J80,Bool.not_eq_true'] at h3
    exact h3.1.1
   ·have h3:=h2 c hc1 hc2
    rw [B11] at h3
    cases hv:U4 r c
    ·rw [hv,if_neg (by simp)] at h3;simpa using h3
    ·rw [hv,if_pos rfl,j7] at h3
     simp only [J80,Bool.not_eq_true'] at h3
     rw [h3.1.1];simpa using h3.2
theorem ends0:EndsAt false 0 (fun _=>false):=⟨rfl,0,by omega,rfl,fun c _=>by simp⟩
theorem G20 (m:Int) (n c:Nat) (h0:0≤m) (h:m / 2 ^ n=0) (hc:n≤c):A46 m c=false:=by
 obtain ⟨k,rfl⟩:∃k:Nat,m=k:=⟨m.toNat,by omega⟩
 rw [B88]
 have h1:(k:Int) / 2 ^ n=((k / 2 ^ n:Nat):Int):=by simp
 rw [h1] at h
 have h2:k / 2 ^ n=0:=by omega
 have h3:k < 2 ^ n:=by
  rcases Nat.div_eq_zero_iff.1 h2 with h3 | h3
  ·have:=Nat.two_pow_pos n;omega
  ·exact h3
 exact Nat.testBit_lt_two_pow (Nat.lt_of_lt_of_le h3 (Nat.pow_le_pow_right (by omega) hc))
theorem G21 (rows:List Row) (n:Nat) (hm:N7 rows n=true) (hr:I9 rows) (c:Int) (h1:(n:Int)≤c) (h2:c < 32):O5 rows c=O5 rows (-1):=by
 unfold O5
 have:rows.filter (U4 · c)=rows.filter (U4 · (-1)):=by
  refine List.filter_congr fun r hmem=>?_
  have h3:U7 n r=true:=List.all_eq_true.1 hm r hmem
  unfold U7 at h3
  simp only [J80,beq_iff_eq] at h3
  have h4:=G20 r.Marks n c.toNat (hr r hmem).1 h3.1 (by omega)
  rw [B10,U4,if_neg (by omega),if_neg (by omega),h4]
  cases r.Lost<;>rfl
 rw [this]
theorem H72 (rows:List Row) (n:Nat) (hn:n≤32) (hm:N7 rows n=true) (hr:I9 rows):V7 false 0 rows=s6 rows n:=by
 rw [Bool.eq_iff_iff,E60 rows false 0 _ ends0 hr,s6,J80,List.all_eq_true,List.all_eq_true]
 refine and_congr Iff.rfl ?_
 constructor
 ·intro h k hk
  have hk:=List.mem_range.1 hk
  rw [H01]
  exact h _ (by omega) (by omega)
 ·intro h c hc1 hc2
  have key:∀c:Int,-1≤c→c < n→j7 false (O5 rows c)=true:=by
   intro c h1 h2
   have:=h (c+1).toNat (List.mem_range.2 (by omega))
   rw [show (((c+1).toNat:Nat):Int) - 1=c by omega,H01] at this
   exact this
  by_cases hcn:c < n
  ·exact key c hc1 hcn
  ·rw [G21 rows n hm hr c (by omega) hc2]
   exact key (-1) (by omega) (by omega)
end Go.AL
namespace Go.AL
open Go
def N4 (c:UInt8):Bool:=decide (33≤c.toNat∧c.toNat≤126∧c.toNat≠34∧c.toNat≠92)
def digs8:Str:=[48,49,50,51,52,53,54,55]
def digs10:Str:=[48,49,50,51,52,53,54,55,56,57]
def C90 (c:UInt8):Str:=(digs8.drop (c.toNat / 64)).take 1++(digs8.drop (c.toNat / 8 % 8)).take 1++(digs8.drop (c.toNat % 8)).take 1
def O0 (c:UInt8):Str:=if c.toNat=34∨c.toNat=92 then [92,c] else if c.toNat=10 then [92,110] else if c.toNat=9 then [92,116] else if c.toNat < 32∨126 < c.toNat then 92::C90 c else [c]
def H6 (s:Str):Str:=if s≠[]∧s.all N4=true then s else 34::((s.map O0).flatten++[34])
theorem F66 (c:UInt8):(C90 c).length≤3:=by unfold C90;simp only [J77,J90];omega
theorem F67 (c:UInt8):(O0 c).length≤4:=by
 have:=F66 c
 unfold O0;split
 ·simp
 ·split
  ·simp
  ·split
   ·simp
   ·split
    ·simp only [J78];omega
    ·simp
theorem C91 (s:Str):((s.map O0).flatten).length≤4*s.length:=by
 induction s with
 | nil=>simp
 | cons c r ih=>have:=F67 c;simp only [J85,J91,J77,J78];omega
theorem H02 (s:Str):(H6 s).length≤4*s.length+2:=by
 unfold H6;have:=C91 s
 split
 ·omega
 ·simp only [J78,J77,J81];omega
def I4 (n:Int):Str:=if n < 0∨2147483647 < n then [] else Lib.itoa n
def G4 (a n:Int):Str:=if a < 0∨n < 0∨2147483647 < a∨2147483647 - a < n then [] else if n=0 then I4 a++[44,48] else if n=1 then I4 (a+1) else I4 (a+1)++[44]++I4 n
theorem C18:∀(k u:Nat),u < 10 ^ (k+1)→(Lib.decDigits u).length≤k+1
 | 0,u,h=>by rw [Lib.decDigits,dif_pos (by omega)];simp
 | k+1,u,h=>by
  rw [Lib.decDigits]
  split
  ·simp
  ·have:=C18 k (u / 10) (by rw [Nat.div_lt_iff_lt_mul (by omega)];rw [Nat.pow_succ] at h;omega)
   simp only [J77,J78,J81];omega
theorem V8 (n:Int):(I4 n).length≤10:=by
 unfold I4;split
 ·simp
 ·unfold Lib.itoa
  rw [if_neg (by omega)]
  exact C18 9 n.toNat (by omega)
theorem A48 (a n:Int):(G4 a n).length≤21:=by
 have:=V8 a;have:=V8 (a+1);have:=V8 n
 unfold G4
 split
 ·simp
 ·split
  ·simp only [J77,J78,J81];omega
  ·split
   ·omega
   ·simp only [J77,J78,J81];omega
theorem dig10 (k:Nat) (h:k < 10):(digs10.drop k).take 1=[UInt8.ofNat (48+k)]:=by
 have:∀k:Fin 10,(digs10.drop k.1).take 1=[UInt8.ofNat (48+k.1)]:=by decide
 exact this ⟨k,h⟩
theorem I81 (n:Int) (h0:0≤n) (h:n < 10):I4 n=(digs10.drop n.toNat).take 1:=by
 unfold I4 Lib.itoa
 rw [if_neg (by omega),if_neg (by omega),dig10 _ (by omega),Lib.decDigits,dif_pos (by omega)]
theorem fmt_big (n:Int) (h0:10≤n) (h:n≤2147483647):I4 n=I4 (n / 10)++(digs10.drop (n % 10).toNat).take 1:=by
 unfold I4 Lib.itoa
 rw [if_neg (by omega),if_neg (by omega),if_neg (by omega),if_neg (by omega),dig10 _ (by omega),Lib.decDigits,dif_neg (by omega)]
 have e1:n.toNat / 10=(n / 10).toNat:=by omega
 have e2:n.toNat % 10=(n % 10).toNat:=by omega
 rw [e1,e2]
theorem dig8 (k:Nat) (h:k < 8):(digs8.drop k).take 1=[UInt8.ofNat (48+k)]:=by
 have:∀k:Fin 8,(digs8.drop k.1).take 1=[UInt8.ofNat (48+k.1)]:=by decide
 exact this ⟨k,h⟩
theorem A49 (c:UInt8):C90 c=[UInt8.ofNat (48+c.toNat / 64),UInt8.ofNat (48+c.toNat / 8 % 8),UInt8.ofNat (48+c.toNat % 8)]:=by
 have:=c.toNat_lt
 unfold C90
 rw [dig8 _ (by omega),dig8 _ (by omega),dig8 _ (by omega)];rfl
def escs (s:Str) (i:Nat):Str:=((s.take i).map O0).flatten
theorem I82 (s:Str):escs s 0=[]:=rfl
theorem F68 (s:Str) (i:Nat) (h:i < s.length):escs s (i+1)=escs s i++O0 s[i]:=by
 unfold escs;rw [J86 h,J92,K04];simp only [J85,K12,J91,K19,K02]
theorem H03 (s:Str) (i:Nat) (h:i≤s.length):(escs s i).length≤4*i:=by
 have:=C91 (s.take i);unfold escs;rw [J90] at this;omega
def plains (s:Str) (i:Nat):Bool:=decide (s≠[])&&(s.take i).all N4
theorem D73 (s:Str):plains s 0=decide (s≠[]):=by simp [plains]
theorem D74 (s:Str) (i:Nat) (h:i < s.length):plains s (i+1)=(plains s i&&N4 s[i]):=by
 unfold plains;rw [J86 h,K29];simp only [List.all_cons,List.all_nil,Bool.and_true,Bool.and_assoc]
theorem B12 (s:Str):H6 s=if plains s s.length=true then s else (34::escs s s.length)++[34]:=by
 unfold H6 plains escs
 rw [J97]
 simp only [J80,decide_eq_true_eq,K08]
end Go.AL
namespace Go.AL
open Go
theorem E61 (s cur:Str):(G2 cur s).length=s.count 10+if s=[] then (if cur=[] then 0 else 1) else if ended s=true then 0 else 1:=by
 induction s generalizing cur with
 | nil=>by_cases h:cur=[]<;>simp [G2,h]
 | cons c r ih =>
  have he:ended (c::r)=if r=[] then c == 10 else ended r:=by
   cases r with
   | nil=>simp [ended]
   | cons d t=>simp [ended,List.getLast?_cons_cons]
  rw [G2,if_neg (List.cons_ne_nil _ _),he]
  by_cases hc:c=10
  ·subst hc
   rw [if_pos rfl,J78,ih,List.count_cons_self]
   by_cases hr:r=[]<;>simp [hr]
   omega
  ·rw [if_neg hc,ih,List.count_cons_of_ne hc]
   by_cases hr:r=[]<;>simp [hr,hc]
theorem F14 (s:Str):(D2 s).length=s.count 10+if s≠[]∧ended s=false then 1 else 0:=by
 unfold D2
 rw [E61]
 by_cases hs:s=[]<;>simp [hs]
 cases ended s<;>simp
theorem B89 {α:Type} (P:List α) (z x:α) (i:Nat) (h:P[i]?=some x):(P.take i++List.replicate (P.length - i) z).set i x=P.take (i+1)++List.replicate (P.length - (i+1)) z:=by
 obtain ⟨hi,hx⟩:=List.getElem?_eq_some_iff.1 h
 have hl:(P.take i).length=i:=by rw [J90];omega
 rw [List.set_append_right _ _ (by omega),hl,K20,show P.length - i=(P.length - (i+1))+1 by omega,List.replicate_succ,List.set_cons_zero,J86 hi,hx,J89]
 rfl
end Go.AL
namespace Go.AL
open Go
def O1 (n:Int):Prop:=0≤n∧n≤4096
instance (n:Int):Decidable (O1 n):=by unfold O1;exact inferInstance
def badC (k:Nat) (i j:Int) (c:Change):Prop:=((((((¬O1 c.Old∨¬O1 c.OldLen)∨¬O1 c.New)∨¬O1 c.NewLen)∨c.OldLen+c.NewLen=0)∨c.Old - i≠c.New - j)∨c.Old < i)∨(0 < (k:Int)∧c.Old=i)
instance (k:Nat) (i j:Int) (c:Change):Decidable (badC k i j c):=by unfold badC;exact inferInstance
def P1 (k:Nat) (i j:Int):List Change→Int→Int→Bool
 | [],m,n=>decide (¬(m - i≠n - j∨m < i))
 | c::r,m,n=>decide (¬badC k i j c)&&P1 (k+1) (c.Old+c.OldLen) (c.New+c.NewLen) r m n
def check8 (l:List Change) (m n:Int):Int:=if ¬O1 m∨¬O1 n then 80 else if P1 0 0 0 l m n=true then 0 else 80
def ScOk (i j:Int):List Change→Int→Int→Prop
 | [],m,n=>i≤m∧j≤n
 | c::r,m,n=>O1 c.Old∧O1 c.OldLen∧O1 c.New∧O1 c.NewLen∧i≤c.Old∧j≤c.New∧ScOk (c.Old+c.OldLen) (c.New+c.NewLen) r m n
theorem B66:∀(l:List Change) (k:Nat) (i j m n:Int),P1 k i j l m n=true→ScOk i j l m n
 | [],k,i,j,m,n,h=>by simp only [P1,decide_eq_true_eq] at h;simp only [ScOk];omega
 | c::r,k,i,j,m,n,h=>by
  simp only [P1,J80,decide_eq_true_eq] at h
  obtain ⟨h1,h2⟩:=h
  unfold badC at h1
  refine ⟨?_,?_,?_,?_,?_,?_,B66 r _ _ _ m n h2⟩
  all_goals (by_cases a1:O1 c.Old<;>by_cases a2:O1 c.OldLen<;>by_cases a3:O1 c.New<;>by_cases a4:O1 c.NewLen<;>simp [a1,a2,a3,a4] at h1 ⊢<;>omega)
def cAt (l:List Change) (k:Nat):Change:=l.getD k ⟨0,0,0,0⟩
theorem ScOk.end_le:∀{l:List Change} {i j m n:Int},ScOk i j l m n→i≤m∧j≤n
 | [],_,_,_,_,h=>h
 | c::r,i,j,m,n,⟨h1,h2,h3,h4,h5,h6,h7⟩=>by have:=h7.end_le;unfold O1 at *;omega
theorem ScOk.get:∀{l:List Change} {i j m n:Int} (k:Nat),ScOk i j l m n→k < l.length→O1 (cAt l k).Old∧O1 (cAt l k).OldLen∧O1 (cAt l k).New∧O1 (cAt l k).NewLen∧(cAt l k).Old+(cAt l k).OldLen≤m∧(cAt l k).New+(cAt l k).NewLen≤n
 | c::r,i,j,m,n,0,⟨h1,h2,h3,h4,h5,h6,h7⟩,_=>by have:=h7.end_le;exact ⟨h1,h2,h3,h4,this.1,this.2⟩
 | c::r,i,j,m,n,k+1,⟨h1,h2,h3,h4,h5,h6,h7⟩,hk=>by
  have:=h7.get k (by simpa using hk)
  simpa [cAt] using this
theorem ScOk.next:∀{l:List Change} {i j m n:Int} (k:Nat),ScOk i j l m n→k+1 < l.length→(cAt l k).Old+(cAt l k).OldLen≤(cAt l (k+1)).Old
 | [c],_,_,_,_,_,_,hk=>by simp at hk
 | c::c2::r,i,j,m,n,0,⟨_,_,_,_,_,_,h7⟩,_=>by simpa [cAt] using h7.2.2.2.2.1
 | c::c2::r,i,j,m,n,k+1,⟨_,_,_,_,_,_,h7⟩,hk=>by
  have:=h7.next k (by simpa using hk)
  simpa [cAt] using this
theorem ScOk.mono {l:List Change} {m n:Int} (h:ScOk 0 0 l m n):∀(a b:Nat),a≤b→b < l.length→(cAt l a).Old≤(cAt l b).Old∧(cAt l a).Old+(cAt l a).OldLen≤(cAt l b).Old+(cAt l b).OldLen
 | a,0,h1,h2=>by rw [show a=0 by omega];omega
 | a,b+1,h1,h2=>by
  by_cases hab:a=b+1
  ·subst hab;omega
  ·have h3:=h.mono a b (by omega) (by omega)
   have h4:=h.next b h2
   have h5:=h.get b (by omega)
   have h6:=h.get (b+1) h2
   unfold O1 at *;omega
def G22 (a b:Int):Int:=if b < a then b else a
def opens (l:List Change) (ctx:Int) (k:Nat):Prop:=k=0∨2*ctx < (cAt l k).Old - (cAt l (k - 1)).Old - (cAt l (k - 1)).OldLen
instance (l:List Change) (ctx:Int) (k:Nat):Decidable (opens l ctx k):=by unfold opens;exact inferInstance
def I16:Hunk:=⟨0,0,⟨0,0⟩,⟨0,0⟩⟩
def A80 (l:List Change) (ctx:Int) (k:Nat):Hunk:=⟨k,0,⟨(cAt l k).Old - G22 ctx (cAt l k).Old,0⟩,⟨(cAt l k).New - G22 ctx (cAt l k).Old,0⟩⟩
def C92 (l:List Change) (m ctx:Int) (k:Nat) (h:Hunk):Hunk :=
 let c:=cAt l k
 let a:=G22 ctx (m - (c.Old+c.OldLen))
 ⟨h.First,k+1,⟨h.Old.From,c.Old+c.OldLen+a⟩,⟨h.New.From,c.New+c.NewLen+a⟩⟩
def D39 (l:List Change) (ctx:Int) (k:Nat) (out:List Hunk):List Hunk:=if opens l ctx k then out++[A80 l ctx k] else out
def Y5 (l:List Change) (m ctx:Int):Nat→List Hunk
 | 0=>[]
 | k+1=>let out:=D39 l ctx k (Y5 l m ctx k);out.set (out.length - 1) (C92 l m ctx k (out.getD (out.length - 1) I16))
theorem D75 (l:List Change) (m ctx:Int):∀k,(Y5 l m ctx k).length≤k∧(0 < k→0 < (Y5 l m ctx k).length)
 | 0=>by simp [Y5]
 | k+1=>by
  have h:=D75 l m ctx k
  simp only [Y5,List.length_set,D39]
  split
  ·simp only [J77,J78,J81];omega
  ·rename_i ho
   have:k≠0:=fun e=>ho (.inl e)
   omega
end Go.AL
namespace Go.AL
open Go
def V9 (s:Str):Bool:=decide (1≤s.length∧s.length≤200)
def G6 (ls:List PatchLine) (k:UInt8):List Str:=(ls.filter (fun x=>decide (x.Kind≠k))).map (·.Text)
def badLn (x:PatchLine):Prop:=((x.Kind≠32∧x.Kind≠45)∧x.Kind≠43)∨J1 x.Text=false
instance (x:PatchLine):Decidable (badLn x):=by unfold badLn;exact inferInstance
def C35 (x:PatchLine):Bool:=decide (¬badLn x)
def A63 (ls:List PatchLine):Bool:=ls.any (fun x=>decide (x.Kind≠32))
def C93 (some:Bool) (i j:Int) (h:PatchHunk):Prop:=((((some=false∨h.Old < i)∨h.New < j)∨4096 < h.Old)∨4096 < h.New)∨h.Old - i≠h.New - j
instance (s:Bool) (i j:Int) (h:PatchHunk):Decidable (C93 s i j h):=by unfold C93;exact inferInstance
def A81 (h:PatchHunk):Int:=(G6 h.Lines 43).length
def A82 (h:PatchHunk):Int:=(G6 h.Lines 45).length
def D40 (i j:Int):List PatchHunk→Bool
 | []=>true
 | h::r=>h.Lines.all C35&&(decide (¬C93 (A63 h.Lines) i j h)&&(decide (¬(4096 < h.Old+A81 h∨4096 < h.New+A82 h))&&D40 (h.Old+A81 h) (h.New+A82 h) r))
def M9 (hs:List PatchHunk) (k:UInt8):List Str:=(hs.map (fun h=>G6 h.Lines k)).flatten
def W0:List Str→Bool
 | []=>true
 | x::r=>(r.isEmpty||ended x)&&W0 r
def H73 (hs:List PatchHunk) (k:UInt8):Bool:=W0 (M9 hs k)
def D41 (hs:List PatchHunk):Bool:=D40 0 0 hs&&(H73 hs 43&&H73 hs 45)
def markS:Str:=[10,92,32,78,111,32,110,101,119,108,105,110,101,32,97,116,32,101,110,100,32,111,102,32,102,105,108,101,10]
def linePs (x:PatchLine):List Str:=if ended x.Text then [[x.Kind]++x.Text] else [[x.Kind]++x.Text,markS]
def headW (h:PatchHunk):Str:=[64,64,32,45]++G4 h.Old (A81 h)++[32,43]++G4 h.New (A82 h)++[32,64,64,10]
def hunkPs (h:PatchHunk):List Str:=headW h::(h.Lines.map linePs).flatten
def namePs (p:Patch):List Str:=[[45,45,45,32]++H6 p.OldName++[10],[43,43,43,32]++H6 p.NewName++[10]]
def writePs (p:Patch):List Str:=namePs p++(p.Hunks.map hunkPs).flatten
def I17 (p:Patch):Str:=(writePs p).flatten
def C94 (p:Patch):Int:=if V9 p.OldName=false∨V9 p.NewName=false then 120 else if D41 p.Hunks=false then 121 else if 16777216 < (I17 p).length then 1 else 0
def szL (x:PatchLine):Nat:=x.Text.length+64
def szH (h:PatchHunk):Nat:=64+(h.Lines.map szL).sum
def szP (hs:List PatchHunk):Nat:=(hs.map szH).sum
structure PFit (p:Patch):Prop where
 old:p.OldName.length≤4194304
 new:p.NewName.length≤4194304
 hunks:szP p.Hunks≤268435456
theorem szL_len (ls:List PatchLine):64*ls.length≤(ls.map szL).sum:=by
 induction ls with
 | nil=>simp
 | cons x r ih=>simp only [J85,K03,J78,szL];omega
end Go.AL
namespace Go.AL
open Go
def A50 (k:UInt8) (ts:List Str):List PatchLine:=ts.map fun t=>⟨k,t⟩
def sub (x:List Str) (a b:Int):List Str:=(x.drop a.toNat).take (b.toNat - a.toNat)
def B35 (c:Change):Int:=c.Old+c.OldLen
def A51 (l:List Change) (i0:Int) (a t:Nat):Int:=if t=0 then i0 else B35 (cAt l (a+t - 1))
theorem H74 (l:List Change) (i0:Int) (a t:Nat):A51 l i0 a (t+1)=B35 (cAt l (a+t)):=by
 unfold A51;rw [if_neg (by omega)];congr 2
def A05 (l:List Change) (x y:List Str) (i0:Int) (a:Nat):Nat→List PatchLine
 | 0=>[]
 | t+1=>A05 l x y i0 a t++A50 32 (sub x (A51 l i0 a t) (cAt l (a+t)).Old)++A50 45 (sub x (cAt l (a+t)).Old (B35 (cAt l (a+t))))++A50 43 (sub y (cAt l (a+t)).New ((cAt l (a+t)).New+(cAt l (a+t)).NewLen))
def Y6 (l:List Change) (x y:List Str) (h:Hunk):PatchHunk :=
 ⟨h.Old.From,h.New.From,A05 l x y h.Old.From h.First.toNat (h.Last.toNat - h.First.toNat)++A50 32 (sub x (A51 l h.Old.From h.First.toNat (h.Last.toNat - h.First.toNat)) h.Old.To)⟩
end Go.AL
namespace Go.AL
open Go
end Go.AL
namespace Go.AL
open Go
def H04 (i j:Int) (h:PatchHunk):Prop:=((((h.Old < 0∨h.New < 0)∨4096 < h.Old)∨4096 < h.New)∨h.Old < i)∨h.Old - i≠h.New - j
instance (i j:Int) (h:PatchHunk):Decidable (H04 i j h):=by unfold H04;exact inferInstance
end Go.AL
namespace Go.AL
open Go
theorem textsLen_le (rows:List Row) (B:Nat) (h:∀r∈rows,r.Text.length≤B):P0 rows≤rows.length*B:=by
 unfold P0
 induction rows with
 | nil=>simp
 | cons r rs ih =>
  have h1:=ih fun x hx=>h x (by simp [hx])
  have h2:=h r (by simp)
  simp only [J85,J91,J77,J78,K09,Nat.one_mul]
  omega
theorem H05 (b s:Str) (h:s∈D2 b):s.length≤b.length:=by
 have h1:(D2 b).flatten=b:=by
  have key:∀(s cur:Str),(G2 cur s).flatten=cur++s:=by
   intro s
   induction s with
   | nil=>intro cur;unfold G2;split<;>simp [*]
   | cons c r ih=>intro cur;unfold G2;split<;>simp [ih]
  exact key b []
 have h2:∀(l:List Str),s∈l→s.length≤l.flatten.length:=by
  intro l
  induction l with
  | nil=>intro h;cases h
  | cons x r ih =>
   intro h
   rcases List.mem_cons.1 h with rfl | h
   ·simp
   ·have:=ih h;simp only [J91,J77];omega
 have:=h2 _ h;rw [h1] at this;exact this
end Go.AL
namespace Go.AL
open Go
theorem D99 {x:List Str} {a b:Int} {s:Str} (h:s∈sub x a b):s∈x:=by
 unfold sub at h
 exact List.mem_of_mem_drop (List.mem_of_mem_take h)
end Go.AL
namespace Go.AL
open Go
def G23 (c:Change):Int:=c.New+c.NewLen
def eoI (i:Int) (l:List Change) (k:Nat):Int:=if k=0 then i else B35 (cAt l (k - 1))
def enI (j:Int) (l:List Change) (k:Nat):Int:=if k=0 then j else G23 (cAt l (k - 1))
theorem z7 (i:Int) (c:Change) (r:List Change) (k:Nat):eoI i (c::r) (k+1)=eoI (B35 c) r k:=by
 cases k<;>rfl
theorem z8 (j:Int) (c:Change) (r:List Change) (k:Nat):enI j (c::r) (k+1)=enI (G23 c) r k:=by
 cases k<;>rfl
theorem B67 (i:Int) (l:List Change) (k:Nat):eoI i l (k+1)=B35 (cAt l k):=rfl
theorem B68 (j:Int) (l:List Change) (k:Nat):enI j l (k+1)=G23 (cAt l k):=rfl
theorem C95 (c:Change) (r:List Change) (k:Nat):cAt (c::r) (k+1)=cAt r k:=rfl
def D42 (x y:List Str) (i j:Int):List Change→Prop
 | []=>sub x i x.length=sub y j y.length
 | c::r=>sub x i c.Old=sub y j c.New∧D42 x y (B35 c) (G23 c) r
theorem A06 (m n:Int):∀(l:List Change) (k0:Nat) (i j:Int),P1 k0 i j l m n=true→∀k,k < l.length →
  O1 (cAt l k).Old∧O1 (cAt l k).OldLen∧O1 (cAt l k).New∧O1 (cAt l k).NewLen∧(cAt l k).OldLen+(cAt l k).NewLen≠0∧(cAt l k).Old - eoI i l k=(cAt l k).New - enI j l k∧eoI i l k≤(cAt l k).Old∧(0 < k0+k→eoI i l k < (cAt l k).Old)
 | [],_,_,_,_,k,hk=>by simp at hk
 | c :: r,k0,i,j,h,k,hk=>by
  simp only [P1,J80,decide_eq_true_eq] at h
  obtain ⟨h1,h2⟩:=h
  cases k with
  | zero =>
   unfold badC at h1
   show O1 c.Old∧O1 c.OldLen∧O1 c.New∧O1 c.NewLen∧c.OldLen+c.NewLen≠0∧c.Old - i=c.New - j∧i≤c.Old∧(0 < k0+0→i < c.Old)
   have d1:O1 c.Old:=by by_cases q:O1 c.Old;exact q;exact absurd (.inl (.inl (.inl (.inl (.inl (.inl (.inl q))))))) h1
   have d2:O1 c.OldLen:=by by_cases q:O1 c.OldLen;exact q;exact absurd (.inl (.inl (.inl (.inl (.inl (.inl (.inr q))))))) h1
   have d3:O1 c.New:=by by_cases q:O1 c.New;exact q;exact absurd (.inl (.inl (.inl (.inl (.inl (.inr q)))))) h1
   have d4:O1 c.NewLen:=by by_cases q:O1 c.NewLen;exact q;exact absurd (.inl (.inl (.inl (.inl (.inr q))))) h1
   refine ⟨d1,d2,d3,d4,fun q=>h1 (.inl (.inl (.inl (.inr q)))),?_,?_,fun h0=>?_⟩
   ·by_cases q:c.Old - i=c.New - j
    ·exact q
    ·exact absurd (.inl (.inl (.inr q))) h1
   ·by_cases q:c.Old < i
    ·exact absurd (.inl (.inr q)) h1
    ·omega
   ·by_cases q:c.Old < i
    ·exact absurd (.inl (.inr q)) h1
    ·by_cases q2:c.Old=i
     ·exact absurd (.inr ⟨by omega,q2⟩) h1
     ·omega
  | succ k =>
   have:=A06 m n r (k0+1) _ _ h2 k (by simpa using hk)
   rw [C95,z7,z8]
   obtain ⟨e1,e2,e3,e4,e5,e6,e7,e8⟩:=this
   exact ⟨e1,e2,e3,e4,e5,e6,e7,fun h0=>e8 (by omega)⟩
theorem G24 (m n:Int):∀(l:List Change) (k0:Nat) (i j:Int),P1 k0 i j l m n=true→m - eoI i l l.length=n - enI j l l.length∧eoI i l l.length≤m
 | [],_,i,j,h=>by
  simp only [P1,decide_eq_true_eq] at h
  show m - i=n - j∧i≤m
  omega
 | c::r,k0,i,j,h=>by
  simp only [P1,J80,decide_eq_true_eq] at h
  rw [J78,z7,z8]
  exact G24 m n r _ _ _ h.2
theorem E62 (x y:List Str):∀(l:List Change) (i j:Int),D42 x y i j l→∀k,k < l.length→sub x (eoI i l k) (cAt l k).Old=sub y (enI j l k) (cAt l k).New
 | [],_,_,_,k,hk=>by simp at hk
 | c::r,i,j,h,k,hk=>by
  cases k with
  | zero=>exact h.1
  | succ k=>rw [z7,z8,C95];exact E62 x y r _ _ h.2 k (by simpa using hk)
theorem G25 (x y:List Str):∀(l:List Change) (i j:Int),D42 x y i j l→sub x (eoI i l l.length) x.length=sub y (enI j l l.length) y.length
 | [],_,_,h=>h
 | c::r,i,j,h=>by rw [J78,z7,z8];exact G25 x y r _ _ h.2
def mkH (l:List Change) (m ctx:Int) (a b:Nat):Hunk:=C92 l m ctx (b - 1) (A80 l ctx a)
def GrOk (l:List Change) (m ctx:Int):Nat→List Hunk→Nat→Prop
 | a,[],k=>a=k
 | a,h::r,k=>∃b,a < b∧opens l ctx a∧h=mkH l m ctx a b∧GrOk l m ctx b r k
theorem GrOk.le {l:List Change} {m ctx:Int}:∀{hs:List Hunk} {a k:Nat},GrOk l m ctx a hs k→a≤k
 | [],a,k,h=>Nat.le_of_eq h
 | _::_,a,k,⟨b,h1,_,_,h2⟩=>by have:=GrOk.le h2;omega
theorem GrOk.snoc {l:List Change} {m ctx:Int} {k:Nat} (ho:opens l ctx k):∀{hs:List Hunk} {a:Nat},GrOk l m ctx a hs k→GrOk l m ctx a (hs++[mkH l m ctx k (k+1)]) (k+1)
 | [],a,h=>by
  obtain rfl:a=k:=h
  exact ⟨a+1,by omega,ho,rfl,rfl⟩
 | _::_,a,⟨b,h1,h2,h3,h4⟩=>⟨b,h1,h2,h3,GrOk.snoc ho h4⟩
theorem GrOk.last {l:List Change} {m ctx:Int} {k:Nat}:∀{hs:List Hunk} {a:Nat},GrOk l m ctx a hs k→hs≠[]→GrOk l m ctx a (hs.set (hs.length - 1) (C92 l m ctx k (hs.getD (hs.length - 1) I16))) (k+1)
 | [],_,_,h0=>absurd rfl h0
 | [h],a,⟨b,h1,h2,h3,h4⟩,_=>by
  obtain rfl:b=k:=h4
  subst h3
  exact ⟨b+1,by omega,h2,rfl,rfl⟩
 | h::h'::r,a,⟨b,h1,h2,h3,h4⟩,_=>by
  have ih:=GrOk.last h4 (by simp)
  refine ⟨b,h1,h2,h3,?_⟩
  simpa using ih
theorem B13 (l:List Change) (m ctx:Int):∀k,GrOk l m ctx 0 (Y5 l m ctx k) k
 | 0=>rfl
 | k+1=>by
  have ih:=B13 l m ctx k
  have hne:=(D75 l m ctx k).2
  simp only [Y5,D39]
  by_cases ho:opens l ctx k
  ·rw [if_pos ho]
   have e:(Y5 l m ctx k++[A80 l ctx k]).set ((Y5 l m ctx k++[A80 l ctx k]).length - 1) (C92 l m ctx k ((Y5 l m ctx k++[A80 l ctx k]).getD ((Y5 l m ctx k++[A80 l ctx k]).length - 1) I16))=Y5 l m ctx k++[mkH l m ctx k (k+1)]:=by
    simp [mkH]
   rw [e]
   exact ih.snoc ho
  ·rw [if_neg ho]
   refine ih.last ?_
   have:k≠0:=fun e=>ho (.inl e)
   have:=hne (by omega)
   intro e;rw [e] at this;simp at this
theorem B14 (x:List Str) {a b c:Int} (h0:0≤a) (h1:a≤b) (h2:b≤c):sub x a b++sub x b c=sub x a c:=by
 unfold sub
 obtain ⟨u,rfl⟩:∃u:Nat,(u:Int)=a:=⟨a.toNat,by omega⟩
 obtain ⟨v,rfl⟩:∃v:Nat,(v:Int)=b:=⟨b.toNat,by omega⟩
 obtain ⟨w,rfl⟩:∃w:Nat,(w:Int)=c:=⟨c.toNat,by omega⟩
 simp only [J83]
 have h3:x.drop v=(x.drop u).drop (v - u):=by rw [List.drop_drop];congr 1;omega
 rw [h3,show w - u=(v - u)+(w - v) by omega,List.take_add]
theorem I18 (x:List Str) (a:Int):sub x a a=[]:=by simp [sub]
theorem B15 (x:List Str) {a b:Int} (h0:0≤a) (h1:a≤b) (h2:b≤x.length):((sub x a b).length:Int)=b - a:=by
 unfold sub;rw [J90,J88];omega
theorem B69 {x y:List Str} {p q p' q' e:Int} (h:sub x p q=sub y p' q') (h0:0≤p) (h0':0≤p') (he:0≤e) (h1:e≤q - p) (h2:q - p=q' - p'):sub x (q - e) q=sub y (q' - e) q':=by
 have key:∀(z:List Str) (a b:Int),0≤a→e≤b - a→sub z (b - e) b=(sub z a b).drop (b - a - e).toNat:=by
  intro z a b ha hb
  unfold sub
  rw [List.drop_take,List.drop_drop]
  congr 1
  ·omega
  ·congr 1;omega
 rw [key x p q h0 h1,key y p' q' h0' (by omega),h,h2]
theorem E63 {x y:List Str} {p q p' q' e:Int} (h:sub x p q=sub y p' q') (h0:0≤p) (h0':0≤p') (he:0≤e) (h1:e≤q - p) (h2:q - p=q' - p'):sub x p (p+e)=sub y p' (p'+e):=by
 have key:∀(z:List Str) (a b:Int),0≤a→e≤b - a→sub z a (a+e)=(sub z a b).take e.toNat:=by
  intro z a b ha hb
  unfold sub
  rw [List.take_take]
  congr 1
  omega
 rw [key x p q h0 h1,key y p' q' h0' (by omega),h]
theorem B16 (p q:List PatchLine) (k:UInt8):G6 (p++q) k=G6 p k++G6 q k:=by simp [G6]
theorem B17 (k k':UInt8) (ts:List Str):G6 (A50 k ts) k'=if k=k' then [] else ts:=by
 unfold G6 A50
 by_cases h:k=k'
 ·rw [if_pos h];subst h
  simp [List.filter_eq_nil_iff]
 ·rw [if_neg h]
  rw [List.filter_eq_self.2 (by simp [h])]
  simp [Function.comp_def]
structure ScFit (x y:List Str) (l:List Change):Prop where
 lx:(x.length:Int)≤4096
 ly:(y.length:Int)≤4096
 sc:P1 0 0 0 l x.length y.length=true
 eq:D42 x y 0 0 l
section
variable {x y:List Str} {l:List Change}
theorem ScFit.ok (h:ScFit x y l):ScOk 0 0 l x.length y.length:=B66 _ _ _ _ _ _ h.sc
theorem ScFit.check (h:ScFit x y l):check8 l x.length y.length=0:=by
 have h1:=h.lx
 have h2:=h.ly
 unfold check8
 rw [if_neg (by unfold O1;omega),if_pos h.sc]
theorem ScFit.nn (h:ScFit x y l) (k:Nat) (hk:k≤l.length):0≤eoI 0 l k∧0≤enI 0 l k∧eoI 0 l k≤x.length∧enI 0 l k≤y.length:=by
 cases k with
 | zero=>exact ⟨Int.le_refl _,Int.le_refl _,Int.natCast_nonneg _,Int.natCast_nonneg _⟩
 | succ k =>
  obtain ⟨⟨a1,a2⟩,⟨b1,b2⟩,⟨c1,c2⟩,⟨d1,d2⟩,h5,h6⟩:=h.ok.get k (by omega)
  rw [B67,B68];unfold B35 G23
  omega
def eA (l:List Change) (ctx:Int) (a:Nat):Int:=G22 ctx (cAt l a).Old
def eB (l:List Change) (m ctx:Int) (b:Nat):Int:=G22 ctx (m - eoI 0 l b)
theorem I19 {a b:Int} (h:0≤a) (h':0≤b):0≤G22 a b∧G22 a b≤a∧G22 a b≤b:=by unfold G22;split<;>omega
theorem B90 {ctx:Int} {a:Nat} (ho:opens l ctx a) (ha:a≠0):2*ctx < (cAt l a).Old - eoI 0 l a:=by
 rcases ho with h | h
 ·exact absurd h ha
 ·unfold eoI;rw [if_neg ha];unfold B35;omega
theorem ScFit.before (h:ScFit x y l) {ctx:Int} (hc:0≤ctx) {a:Nat} (ha:a < l.length) (ho:opens l ctx a) :
  0≤eA l ctx a∧eA l ctx a≤ctx∧eA l ctx a≤(cAt l a).Old - eoI 0 l a:=by
 obtain ⟨⟨a1,a2⟩,_⟩:=h.ok.get a ha
 have h3:=I19 hc a1
 unfold eA
 by_cases h0:a=0
 ·subst h0
  show _∧_∧_≤(cAt l 0).Old - 0
  omega
 ·have:=B90 ho h0;omega
theorem ScFit.after (h:ScFit x y l) {ctx:Int} (hc:0≤ctx) {b:Nat} (hb:b≤l.length) (ho:b < l.length→opens l ctx b) (hb0:b≠0) :
  0≤eB l x.length ctx b∧eB l x.length ctx b≤ctx∧eoI 0 l b+eB l x.length ctx b≤x.length∧enI 0 l b+eB l x.length ctx b≤y.length ∧
   sub x (eoI 0 l b) (eoI 0 l b+eB l x.length ctx b)=sub y (enI 0 l b) (enI 0 l b+eB l x.length ctx b):=by
 obtain ⟨h1,h2,h3,h4⟩:=h.nn b hb
 have h5:=I19 hc (show 0≤(x.length:Int) - eoI 0 l b by omega)
 unfold eB
 rcases Nat.lt_or_ge b l.length with hlt | hge
 ·obtain ⟨g1,g2,g3,g4,g5,g6,g7,g8⟩:=A06 _ _ _ _ _ _ h.sc b hlt
  obtain ⟨⟨a1,a2⟩,⟨b1,b2⟩,⟨c1,c2⟩,⟨d1,d2⟩,k5,k6⟩:=h.ok.get b hlt
  have hg:=B90 (ho hlt) hb0
  refine ⟨h5.1,h5.2.1,by omega,by omega,E63 (E62 x y l 0 0 h.eq b hlt) h1 h2 h5.1 (by omega) (by omega)⟩
 ·have e:b=l.length:=by omega
  subst e
  obtain ⟨g1,g2⟩:=G24 _ _ _ _ _ _ h.sc
  refine ⟨h5.1,h5.2.1,by omega,by omega,E63 (G25 x y l 0 0 h.eq) h1 h2 h5.1 (by omega) (by omega)⟩
def G26 (l:List Change) (j0:Int) (a t:Nat):Int:=if t=0 then j0 else G23 (cAt l (a+t - 1))
theorem E64 (i0:Int) (a t:Nat) (ht:t≠0):A51 l i0 a t=eoI 0 l (a+t):=by
 unfold A51 eoI;rw [if_neg ht,if_neg (by omega)]
theorem I20 (j0:Int) (a t:Nat) (ht:t≠0):G26 l j0 a t=enI 0 l (a+t):=by
 unfold G26 enI;rw [if_neg ht,if_neg (by omega)]
theorem ScFit.made (h:ScFit x y l) {ctx:Int} (hc:0≤ctx) {a:Nat} (ho:opens l ctx a):∀t,a+t≤l.length→(t=0→a < l.length) →
  G6 (A05 l x y ((cAt l a).Old - eA l ctx a) a t) 43=sub x ((cAt l a).Old - eA l ctx a) (A51 l ((cAt l a).Old - eA l ctx a) a t) ∧
  G6 (A05 l x y ((cAt l a).Old - eA l ctx a) a t) 45=sub y ((cAt l a).New - eA l ctx a) (G26 l ((cAt l a).New - eA l ctx a) a t)
 | 0,_,_=>by
  unfold A51 G26
  rw [if_pos rfl,if_pos rfl,I18,I18]
  exact ⟨rfl,rfl⟩
 | t + 1,hl,_=>by
  have hlt:a+t < l.length:=by omega
  have hla:a < l.length:=by omega
  obtain ⟨ih1,ih2⟩:=ScFit.made h hc ho t (by omega) (fun _=>hla)
  obtain ⟨q1,q2,q3⟩:=h.before hc hla ho
  obtain ⟨p1,p2,p3,p4⟩:=h.nn (a+t) (by omega)
  obtain ⟨r1,r2,r3,r4⟩:=h.nn a (by omega)
  obtain ⟨g1,g2,g3,g4,g5,g6,g7,g8⟩:=A06 _ _ _ _ _ _ h.sc (a+t) hlt
  obtain ⟨k1,⟨k2,k2'⟩,k3,⟨k4,k4'⟩,k5,k6,k7,k8⟩:=A06 _ _ _ _ _ _ h.sc a hla
  obtain ⟨⟨a1,a2⟩,⟨b1,b2⟩,⟨c1,c2⟩,⟨d1,d2⟩,w5,w6⟩:=h.ok.get (a+t) hlt
  have hrun:sub x (A51 l ((cAt l a).Old - eA l ctx a) a t) (cAt l (a+t)).Old=sub y (G26 l ((cAt l a).New - eA l ctx a) a t) (cAt l (a+t)).New ∧
    (cAt l a).Old - eA l ctx a≤A51 l ((cAt l a).Old - eA l ctx a) a t∧A51 l ((cAt l a).Old - eA l ctx a) a t≤(cAt l (a+t)).Old ∧
    (cAt l a).New - eA l ctx a≤G26 l ((cAt l a).New - eA l ctx a) a t∧G26 l ((cAt l a).New - eA l ctx a) a t≤(cAt l (a+t)).New:=by
   have hrun:=E62 x y l 0 0 h.eq (a+t) hlt
   by_cases ht:t=0
   ·subst ht
    unfold A51 G26
    rw [if_pos rfl,if_pos rfl]
    rw [show a+0=a from rfl] at *
    exact ⟨B69 hrun r1 r2 q1 (by omega) (by omega),by omega,by omega,by omega,by omega⟩
   ·rw [E64 _ _ _ ht,I20 _ _ _ ht]
    have m1:=h.ok.mono a (a+t - 1) (by omega) (by omega)
    have m2:eoI 0 l (a+t)=(cAt l (a+t - 1)).Old+(cAt l (a+t - 1)).OldLen:=by unfold eoI;rw [if_neg (by omega)];rfl
    have m4:∀u,u≤t→(cAt l a).New≤enI 0 l (a+u)∨u=0:=by
     intro u
     induction u with
     | zero=>exact fun _=>.inr rfl
     | succ u ihu =>
      intro hu
      obtain ⟨e1,e2,⟨e3,e3'⟩,⟨e4,e4'⟩,e5,e6,e7,e8⟩:=A06 _ _ _ _ _ _ h.sc (a+u) (by omega)
      have e9:enI 0 l (a+(u+1))=(cAt l (a+u)).New+(cAt l (a+u)).NewLen:=rfl
      rcases ihu (by omega) with h' | h'
      ·left;omega
      ·left;subst h';rw [e9];show (cAt l a).New≤(cAt l a).New+(cAt l a).NewLen;exact Int.le_add_of_nonneg_right e4
    have m5:=(m4 t (Nat.le_refl _)).resolve_right ht
    refine ⟨hrun,by omega,by omega,by omega,by omega⟩
  obtain ⟨hr1,hr2,hr3,hr4,hr5⟩:=hrun
  simp (decide:=true) only [A05,B16,B17,ih1,ih2,if_true,if_false,K02]
  have e1:A51 l ((cAt l a).Old - eA l ctx a) a (t+1)=B35 (cAt l (a+t)):=H74 _ _ _ _
  have e2:G26 l ((cAt l a).New - eA l ctx a) a (t+1)=G23 (cAt l (a+t)):=rfl
  rw [e1,e2]
  have s0:0≤(cAt l a).Old - eA l ctx a:=by omega
  have s1:0≤(cAt l a).New - eA l ctx a:=by omega
  refine ⟨?_,?_⟩
  ·rw [B14 x s0 hr2 hr3,B14 x s0 (by omega) (by unfold B35;omega)]
  ·rw [hr1,B14 y s1 hr4 hr5]
   exact B14 y s1 (by omega) (by omega)
end
end Go.AL
namespace Go.AL
open Go
section
variable {x y:List Str} {l:List Change}
structure HunkIs (x y:List Str) (l:List Change) (ctx:Int) (a b:Nat) (h:PatchHunk):Prop where
 old:h.Old=(cAt l a).Old - eA l ctx a
 new:h.New=(cAt l a).New - eA l ctx a
 o0:0≤h.Old
 n0:0≤h.New
 oe:h.Old+A81 h=eoI 0 l b+eB l x.length ctx b
 ne:h.New+A82 h=enI 0 l b+eB l x.length ctx b
 ox:h.Old+A81 h≤x.length
 ny:h.New+A82 h≤y.length
 ol:G6 h.Lines 43=sub x h.Old (h.Old+A81 h)
 nl:G6 h.Lines 45=sub y h.New (h.New+A82 h)
 ch:A63 h.Lines=true
 gl:(∀s∈x,J1 s=true)→(∀s∈y,J1 s=true)→h.Lines.all C35=true
theorem E65 (p q:List PatchLine):A63 (p++q)=(A63 p||A63 q):=by simp [A63]
theorem E66 {k:UInt8} {ts:List Str} (hk:k≠32) (h:ts≠[]):A63 (A50 k ts)=true:=by
 cases ts with
 | nil=>exact absurd rfl h
 | cons t ts=>simp [A63,A50,hk]
theorem B18 {k:UInt8} {ts:List Str} (hk:k=32∨k=45∨k=43) (h:∀t∈ts,J1 t=true):(A50 k ts).all C35=true:=by
 rw [List.all_eq_true]
 intro q hq
 unfold A50 at hq
 obtain ⟨t,ht,rfl⟩:=List.mem_map.1 hq
 unfold C35
 refine decide_eq_true ?_
 rintro (⟨⟨h1,h2⟩,h3⟩ | h1)
 ·rcases hk with e | e | e
  ·exact h1 e
  ·exact h2 e
  ·exact h3 e
 ·rw [show (PatchLine.mk k t).Text=t from rfl,h t ht] at h1;cases h1
theorem D76 (hx:∀s∈x,J1 s=true) (hy:∀s∈y,J1 s=true) (i0:Int) (a:Nat):∀t,(A05 l x y i0 a t).all C35=true
 | 0=>rfl
 | t+1=>by
  simp only [A05,K29,D76 hx hy i0 a t,Bool.true_and,J80]
  exact ⟨⟨B18 (.inl rfl) (fun s hs=>hx s (D99 hs)),B18 (.inr (.inl rfl)) (fun s hs=>hx s (D99 hs))⟩,B18 (.inr (.inr rfl)) (fun s hs=>hy s (D99 hs))⟩
theorem ScFit.hunk (h:ScFit x y l) {ctx:Int} (hc:0≤ctx) {a b:Nat} (hab:a < b) (hb:b≤l.length) (ho:opens l ctx a) (hob:b < l.length→opens l ctx b) :
  HunkIs x y l ctx a b (Y6 l x y (mkH l x.length ctx a b)):=by
 have hla:a < l.length:=by omega
 obtain ⟨q1,q2,q3⟩:=h.before hc hla ho
 obtain ⟨w1,w2,w3,w4,w5⟩:=h.after hc hb hob (by omega)
 obtain ⟨m1,m2⟩:=h.made hc ho (b - a) (by omega) (fun e=>by omega)
 rw [E64 _ _ _ (by omega)] at m1
 rw [I20 _ _ _ (by omega)] at m2
 rw [show a+(b - a)=b by omega] at m1 m2
 obtain ⟨r1,r2,r3,r4⟩:=h.nn a (by omega)
 obtain ⟨s1,s2,s3,s4⟩:=h.nn b hb
 obtain ⟨k1,⟨k2,k2'⟩,k3,⟨k4,k4'⟩,k5,k6,k7,k8⟩:=A06 _ _ _ _ _ _ h.sc a hla
 have hlb:b - 1 < l.length:=by omega
 obtain ⟨g1,⟨g2,g2'⟩,g3,⟨g4,g4'⟩,g5,g6,g7,g8⟩:=A06 _ _ _ _ _ _ h.sc (b - 1) hlb
 have eo:eoI 0 l b=(cAt l (b - 1)).Old+(cAt l (b - 1)).OldLen:=by unfold eoI;rw [if_neg (by omega)];rfl
 have en:enI 0 l b=(cAt l (b - 1)).New+(cAt l (b - 1)).NewLen:=by unfold enI;rw [if_neg (by omega)];rfl
 have mo:=h.ok.mono a (b - 1) (by omega) (by omega)
 have mn:(cAt l a).New≤enI 0 l b:=by
  have m4:∀u,a+u≤l.length→(cAt l a).New≤enI 0 l (a+u)∨u=0:=by
   intro u
   induction u with
   | zero=>exact fun _=>.inr rfl
   | succ u ihu =>
    intro hu
    obtain ⟨e1,e2,⟨e3,e3'⟩,⟨e4,e4'⟩,e5,e6,e7,e8⟩:=A06 _ _ _ _ _ _ h.sc (a+u) (by omega)
    have e9:enI 0 l (a+(u+1))=(cAt l (a+u)).New+(cAt l (a+u)).NewLen:=rfl
    rcases ihu (by omega) with h' | h'
    ·left;omega
    ·left;subst h';rw [e9];show (cAt l a).New≤(cAt l a).New+(cAt l a).NewLen;exact Int.le_add_of_nonneg_right e4
  have:=(m4 (b - a) (by omega)).resolve_right (by omega)
  rwa [show a+(b - a)=b by omega] at this
 have hF:(mkH l x.length ctx a b).First.toNat=a:=by show ((a:Int)).toNat=a;omega
 have hL:(mkH l x.length ctx a b).Last.toNat - (mkH l x.length ctx a b).First.toNat=b - a:=by
  show (((b - 1:Nat):Int)+1).toNat - ((a:Int)).toNat=b - a;omega
 have hOF:(mkH l x.length ctx a b).Old.From=(cAt l a).Old - eA l ctx a:=rfl
 have hNF:(mkH l x.length ctx a b).New.From=(cAt l a).New - eA l ctx a:=rfl
 have hOT:(mkH l x.length ctx a b).Old.To=eoI 0 l b+eB l x.length ctx b:=by
  unfold eB;rw [eo];rfl
 obtain ⟨P,hP⟩:∃P,P=Y6 l x y (mkH l x.length ctx a b):=⟨_,rfl⟩
 have hPl:P.Lines=A05 l x y ((cAt l a).Old - eA l ctx a) a (b - a)++A50 32 (sub x (eoI 0 l b) (eoI 0 l b+eB l x.length ctx b)):=by
  rw [hP];unfold Y6
  show A05 l x y _ (mkH l x.length ctx a b).First.toNat ((mkH l x.length ctx a b).Last.toNat - (mkH l x.length ctx a b).First.toNat)++A50 32 (sub x (A51 l _ (mkH l x.length ctx a b).First.toNat ((mkH l x.length ctx a b).Last.toNat - (mkH l x.length ctx a b).First.toNat)) _)=_
  rw [hL,hF,hOF,hOT,E64 _ _ _ (by omega),show a+(b - a)=b by omega]
 have hPO:P.Old=(cAt l a).Old - eA l ctx a:=by rw [hP];rfl
 have hPN:P.New=(cAt l a).New - eA l ctx a:=by rw [hP];rfl
 have h43:G6 P.Lines 43=sub x ((cAt l a).Old - eA l ctx a) (eoI 0 l b+eB l x.length ctx b):=by
  rw [hPl,B16,B17,if_neg (by decide),m1]
  exact B14 x (by omega) (by omega) (by omega)
 have h45:G6 P.Lines 45=sub y ((cAt l a).New - eA l ctx a) (enI 0 l b+eB l x.length ctx b):=by
  rw [hPl,B16,B17,if_neg (by decide),m2,w5]
  exact B14 y (by omega) (by omega) (by omega)
 have hon:A81 P=eoI 0 l b+eB l x.length ctx b - ((cAt l a).Old - eA l ctx a):=by
  unfold A81;rw [h43];exact B15 x (by omega) (by omega) (by omega)
 have hnn:A82 P=enI 0 l b+eB l x.length ctx b - ((cAt l a).New - eA l ctx a):=by
  unfold A82;rw [h45];exact B15 y (by omega) (by omega) (by omega)
 rw [←hP]
 refine ⟨hPO,hPN,by omega,by omega,by omega,by omega,by omega,by omega,?_,?_,?_,?_⟩
 ·rw [h43];congr 1
  ·exact hPO.symm
  ·omega
 ·rw [h45];congr 1
  ·exact hPN.symm
  ·omega
 ·rw [hPl,E65]
  have e:A05 l x y ((cAt l a).Old - eA l ctx a) a (b - a)=A05 l x y ((cAt l a).Old - eA l ctx a) a (b - 1 - a+1):=by congr 1;omega
  rw [e]
  simp only [A05,E65]
  rw [show a+(b - 1 - a)=b - 1 by omega]
  have key:A63 (A50 45 (sub x (cAt l (b - 1)).Old (B35 (cAt l (b - 1)))))=true∨A63 (A50 43 (sub y (cAt l (b - 1)).New ((cAt l (b - 1)).New+(cAt l (b - 1)).NewLen)))=true:=by
   obtain ⟨g3a,g3b⟩:=g3
   obtain ⟨g1a,g1b⟩:=g1
   by_cases h0:(cAt l (b - 1)).OldLen=0
   ·right
    refine E66 (by decide) fun e0=>?_
    have:=B15 y (a:=(cAt l (b - 1)).New) (b:=(cAt l (b - 1)).New+(cAt l (b - 1)).NewLen) g3a (by omega) (by omega)
    rw [e0] at this;simp at this;omega
   ·left
    refine E66 (by decide) fun e0=>?_
    have:=B15 x (a:=(cAt l (b - 1)).Old) (b:=B35 (cAt l (b - 1))) g1a (by unfold B35;omega) (by unfold B35;omega)
    rw [e0] at this;unfold B35 at this;simp at this;omega
  rcases key with e1 | e1<;>rw [e1]<;>simp
 ·intro hx hy
  rw [hPl,K29,D76 hx hy,Bool.true_and]
  exact B18 (.inl rfl) (fun s hs=>hx s (D99 hs))
theorem ScFit.hunks (h:ScFit x y l) {ctx:Int} (hc:0≤ctx) (hx:∀s∈x,J1 s=true) (hy:∀s∈y,J1 s=true):∀(hs:List Hunk) (a:Nat),GrOk l x.length ctx a hs l.length →
  ∀(i j e:Int),i=eoI 0 l a+e→j=enI 0 l a+e→0≤e→e≤ctx→(a=0→e=0) →
  D40 i j (hs.map (Y6 l x y))=true∧(M9 (hs.map (Y6 l x y)) 43).Sublist (x.drop i.toNat)∧(M9 (hs.map (Y6 l x y)) 45).Sublist (y.drop j.toNat) ∧
   ∀p∈hs.map (Y6 l x y),(p.Old+A81 p≤x.length∧p.New+A82 p≤y.length∧0≤p.Old∧0≤p.New)∧G6 p.Lines 43=sub x p.Old (p.Old+A81 p)∧G6 p.Lines 45=sub y p.New (p.New+A82 p)
 | [],a,_,i,j,e,_,_,_,_,_=>⟨rfl,by simp [M9],by simp [M9],by simp⟩
 | hk::hs,a,⟨b,hab,ho,hE,hr⟩,i,j,e,hi,hj,he,hec,he0=>by
  have hb:=hr.le
  have hob:b < l.length→opens l ctx b:=by
   intro hlt
   cases hs with
   | nil=>exact absurd hr (by show ¬b=l.length;omega)
   | cons h2 hs2=>obtain ⟨_,_,ho2,_⟩:=hr;exact ho2
  obtain ⟨w1,w2,w3,w4,w5⟩:=h.after hc hb hob (by omega)
  obtain ⟨q1,q2,q3⟩:=h.before hc (show a < l.length by omega) ho
  have H:=h.hunk hc hab hb ho hob
  rw [←hE] at H
  obtain ⟨P,hP⟩:∃P,P=Y6 l x y hk:=⟨_,rfl⟩
  rw [←hP] at H
  obtain ⟨i1,i2,i3,i4⟩:=ScFit.hunks h hc hx hy hs b hr (P.Old+A81 P) (P.New+A82 P) (eB l x.length ctx b) H.oe H.ne w1 w2 (by omega)
  obtain ⟨k1,⟨k2,k2'⟩,k3,⟨k4,k4'⟩,k5,k6,k7,k8⟩:=A06 _ _ _ _ _ _ h.sc a (show a < l.length by omega)
  have h1:=H.old
  have h2:=H.new
  have h3:=H.o0
  have h4:=H.n0
  have h5:=H.ox
  have h6:=H.ny
  have h7:=h.lx
  have h8:=h.ly
  have n1:0≤A81 P:=by unfold A81;omega
  have n2:0≤A82 P:=by unfold A82;omega
  have hgap:e+eA l ctx a≤(cAt l a).Old - eoI 0 l a:=by
   by_cases h0:a=0
   ·have:=he0 h0;omega
   ·have:=B90 ho h0;omega
  obtain ⟨r1,r2,r3,r4⟩:=h.nn a (by omega)
  have hij:i≤P.Old∧j≤P.New∧P.Old - i=P.New - j∧0≤i∧0≤j:=by omega
  have hsub:∀(z:List Str) (i f t:Int),0≤i→i≤f→f≤t→∀r:List Str,r.Sublist (z.drop t.toNat)→(sub z f t++r).Sublist (z.drop i.toNat):=by
   intro z i f t h0 h1 h2 r hr
   have e1:z.drop f.toNat=sub z f t++z.drop t.toNat:=by
    unfold sub
    rw [show t.toNat=f.toNat+(t.toNat - f.toNat) by omega,←List.drop_drop,show f.toNat+(t.toNat - f.toNat) - f.toNat=t.toNat - f.toNat by omega,K18]
   have e2:z.drop f.toNat=(z.drop i.toNat).drop (f.toNat - i.toNat):=by rw [List.drop_drop];congr 1;omega
   refine List.Sublist.trans ?_ (List.drop_sublist (f.toNat - i.toNat) (z.drop i.toNat))
   rw [←e2,e1]
   exact List.Sublist.append_left hr _
  have key:∀(k:UInt8),M9 ((hk::hs).map (Y6 l x y)) k=G6 P.Lines k++M9 (hs.map (Y6 l x y)) k:=by
   intro k;rw [hP];simp [M9]
  refine ⟨?_,?_,?_,?_⟩
  ·rw [J85,←hP]
   simp only [D40,H.gl hx hy,i1,Bool.and_true,Bool.true_and,J80,decide_eq_true_eq]
   refine ⟨?_,by omega⟩
   unfold C93
   rw [H.ch]
   rintro (((((e0 | e0) | e0) | e0) | e0) | e0)
   ·cases e0
   all_goals omega
  ·rw [key,H.ol]
   exact hsub x i P.Old (P.Old+A81 P) hij.2.2.2.1 hij.1 (by omega) _ i2
  ·rw [key,H.nl]
   exact hsub y j P.New (P.New+A82 P) hij.2.2.2.2 hij.2.1 (by omega) _ i3
  ·rw [J85,←hP]
   intro p hp
   rcases List.mem_cons.1 hp with rfl | hp
   ·exact ⟨⟨h5,h6,h3,h4⟩,H.ol,H.nl⟩
   ·exact i4 p hp
theorem C96:∀{s z:List Str},s.Sublist z→W0 z=true→W0 s=true:=by
 intro s z hs
 induction hs with
 | slnil=>exact fun h=>h
 | cons a _ ih =>
  intro h
  simp only [W0,J80] at h
  exact ih h.2
 | cons_cons a hs2 ih =>
  intro h
  simp only [W0,J80,K13] at h ⊢
  refine ⟨?_,ih h.2⟩
  rcases h.1 with h1 | h1
  ·left
   rw [List.isEmpty_iff] at h1 ⊢
   rw [h1] at hs2
   exact List.sublist_nil.1 hs2
  ·exact .inr h1
def j8 (l:List Change) (x y:List Str) (ctx:Int):List PatchHunk:=(Y5 l x.length ctx l.length).map (Y6 l x y)
theorem ScFit.good (h:ScFit x y l) {ctx:Int} (hc:0≤ctx) (hx:∀s∈x,J1 s=true) (hy:∀s∈y,J1 s=true) (ex:W0 x=true) (ey:W0 y=true):D41 (j8 l x y ctx)=true:=by
 obtain ⟨h1,h2,h3,_⟩:=h.hunks hc hx hy _ 0 (B13 l x.length ctx l.length) 0 0 0 rfl rfl (Int.le_refl _) hc (fun _=>rfl)
 unfold D41 H73 j8
 rw [h1,C96 h2 (by simpa using ex),C96 h3 (by simpa using ey)]
 rfl
theorem ScFit.texts (h:ScFit x y l) {ctx:Int} (hc:0≤ctx) (hx:∀s∈x,J1 s=true) (hy:∀s∈y,J1 s=true):∀p∈j8 l x y ctx,(p.Old+A81 p≤x.length∧p.New+A82 p≤y.length∧0≤p.Old∧0≤p.New)∧G6 p.Lines 43=sub x p.Old (p.Old+A81 p)∧G6 p.Lines 45=sub y p.New (p.New+A82 p) :=
 (h.hunks hc hx hy _ 0 (B13 l x.length ctx l.length) 0 0 0 rfl rfl (Int.le_refl _) hc (fun _=>rfl)).2.2.2
end
theorem D77 (cur:Str) (c:UInt8) (h:∀z∈cur,z≠10):J1 (cur++[c])=true:=by
 unfold J1
 simp only [List.dropLast_concat,J80]
 refine ⟨List.all_eq_true.2 fun z hz=>by simpa using h z hz,by simp⟩
theorem B70:∀(s cur:Str),(∀z∈cur,z≠10)→(∀t∈G2 cur s,J1 t=true)∧W0 (G2 cur s)=true
 | [],cur,hc=>by
  unfold G2
  split
  ·exact ⟨by simp,rfl⟩
  ·rename_i h
   refine ⟨fun t ht=>?_,rfl⟩
   obtain rfl:t=cur:=by simpa using ht
   obtain ⟨d,r,e⟩:∃d r,t=r++[d]:=⟨t.getLast h,t.dropLast,(List.dropLast_concat_getLast h).symm⟩
   rw [e]
   exact D77 r d fun z hz=>hc z (by rw [e];simp [hz])
 | c::r,cur,hc=>by
  rw [R8]
  by_cases h:c=10
  ·rw [if_pos h]
   obtain ⟨h1,h2⟩:=B70 r [] (by simp)
   refine ⟨fun t ht=>?_,?_⟩
   ·rcases List.mem_cons.1 ht with rfl | ht
    ·exact D77 cur c hc
    ·exact h1 t ht
   ·simp only [W0,h2,Bool.and_true,K13]
    right;unfold ended;subst h;simp
  ·rw [if_neg h]
   refine B70 r (cur++[c]) fun z hz=>?_
   rcases List.mem_append.1 hz with hz | hz
   ·exact hc z hz
   ·simp at hz;subst hz;exact h
theorem C36 (b:Str):(∀t∈D2 b,J1 t=true)∧W0 (D2 b)=true:=B70 b [] (by simp)
end Go.AL
namespace Go.AL
open Go
def EqAt (X Y:List Str) (s:Span):Prop:=0≤s.From∧0≤s.To∧∃v,X[s.From.toNat]?=some v∧Y[s.To.toNat]?=some v
theorem H06 {X:List Str} {a b:Int} {v:Str} (h0:0≤a) (h1:a≤b) (hv:X[b.toNat]?=some v):sub X a (b+1)=sub X a b++[v]:=by
 rw [←B14 X h0 h1 (by omega:b≤b+1)]
 congr 1
 unfold sub
 obtain ⟨hl,e⟩:=List.getElem?_eq_some_iff.1 hv
 rw [J84 hl,e,show (b+1).toNat - b.toNat=1 by omega]
 rfl
theorem F69:∀(ls:List PatchLine),ls.all C35=true→(ls.map szL).sum≤64*((G6 ls 43).length+(G6 ls 45).length)+((G6 ls 43).flatten.length+(G6 ls 45).flatten.length)
 | [],_=>by simp
 | q::ls,h=>by
  rw [List.all_cons,J80] at h
  have ih:=F69 ls h.2
  have hk:q.Kind=32∨q.Kind=45∨q.Kind=43:=by
   have hg:=h.1
   unfold C35 at hg
   have hg:=A0 hg
   by_cases h1:q.Kind=32
   ·exact .inl h1
   by_cases h2:q.Kind=45
   ·exact .inr (.inl h2)
   by_cases h3:q.Kind=43
   ·exact .inr (.inr h3)
   exact absurd (.inl ⟨⟨h1,h2⟩,h3⟩) hg
  have hd:∀k:UInt8,G6 (q::ls) k=if q.Kind≠k then q.Text::G6 ls k else G6 ls k:=by
   intro k
   unfold G6
   by_cases e:q.Kind=k
   ·rw [if_neg (by simpa using e),List.filter_cons_of_neg (by simpa using e)]
   ·rw [if_pos e,List.filter_cons_of_pos (by simpa using e)];rfl
  rw [hd 43,hd 45,J85,K03]
  have hz:szL q=q.Text.length+64:=rfl
  rcases hk with e | e | e<;>rw [e]<;>simp (decide:=true) only [if_true,if_false,ne_eq,not_true_eq_false,not_false_eq_true,J78,J91,J77]<;>omega
theorem C97:∀(hs:List PatchHunk) (i j:Int),D40 i j hs=true→szP hs≤128*((M9 hs 43).length+(M9 hs 45).length)+((M9 hs 43).flatten.length+(M9 hs 45).flatten.length)
 | [],_,_,_=>by simp [szP]
 | h :: hs,i,j,hg=>by
  simp only [D40,J80,decide_eq_true_eq] at hg
  obtain ⟨h1,h2,h3,h4⟩:=hg
  have ih:=C97 hs _ _ h4
  have hl:=F69 h.Lines h1
  have hne:1≤h.Lines.length:=by
   cases hq:h.Lines with
   | nil=>exact absurd (.inl (.inl (.inl (.inl (.inl (by rw [hq];rfl)))))) h2
   | cons a b=>simp
  have hcnt:h.Lines.length≤(G6 h.Lines 43).length+(G6 h.Lines 45).length:=by
   have:64*h.Lines.length≤(h.Lines.map szL).sum:=szL_len h.Lines
   have key:∀ls:List PatchLine,ls.length≤(G6 ls 43).length+(G6 ls 45).length:=by
    intro ls
    induction ls with
    | nil=>simp
    | cons q ls ih =>
     have hd:∀k:UInt8,(G6 (q::ls) k).length=if q.Kind≠k then (G6 ls k).length+1 else (G6 ls k).length:=by
      intro k
      unfold G6
      by_cases e:q.Kind=k
      ·rw [if_neg (by simpa using e),List.filter_cons_of_neg (by simpa using e)]
      ·rw [if_pos e,List.filter_cons_of_pos (by simpa using e)];simp
     rw [hd 43,hd 45,J78]
     by_cases e:q.Kind=43
     ·have e2:q.Kind≠45:=by rw [e];decide
      rw [if_pos e2];split<;>omega
     ·rw [if_pos e];split<;>omega
   exact key h.Lines
  have hsz:szP (h::hs)=szH h+szP hs:=by simp [szP]
  have hszh:szH h=64+(h.Lines.map szL).sum:=rfl
  have hs1:∀k,M9 (h::hs) k=G6 h.Lines k++M9 hs k:=by intro k;simp [M9]
  rw [hsz,hszh,hs1 43,hs1 45]
  simp only [J77,K04]
  omega
theorem D78:∀{s z:List Str},s.Sublist z→s.flatten.length≤z.flatten.length:=by
 intro s z hs
 induction hs with
 | slnil=>exact Nat.le_refl _
 | cons a _ ih=>simp only [J91,J77];omega
 | cons_cons a _ ih=>simp only [J91,J77];omega
theorem ScFit.size {x y:List Str} {l:List Change} (h:ScFit x y l) {ctx:Int} (hc:0≤ctx) (hx:∀s∈x,J1 s=true) (hy:∀s∈y,J1 s=true):szP (j8 l x y ctx)≤128*(x.length+y.length)+(x.flatten.length+y.flatten.length):=by
 obtain ⟨h1,h2,h3,_⟩:=h.hunks hc hx hy _ 0 (B13 l x.length ctx l.length) 0 0 0 rfl rfl (Int.le_refl _) hc (fun _=>rfl)
 have h4:=C97 _ _ _ h1
 have e:j8 l x y ctx=(Y5 l x.length ctx l.length).map (Y6 l x y):=rfl
 rw [←e] at h2 h3 h4
 have h2':(M9 (j8 l x y ctx) 43).Sublist x:=by simpa using h2
 have h3':(M9 (j8 l x y ctx) 45).Sublist y:=by simpa using h3
 have:=h2'.length_le
 have:=h3'.length_le
 have:=D78 h2'
 have:=D78 h3'
 omega
theorem B71 (s:Str):∀cur:Str,(G2 cur s).flatten=cur++s:=by
 induction s with
 | nil=>intro cur;unfold G2;split<;>simp [*]
 | cons c r ih=>intro cur;rw [R8];split<;>simp [ih]
theorem C37 (a:Str):(D2 a).flatten.length=a.length∧(D2 a).length≤a.length:=⟨by unfold D2;rw [B71];rfl,S7 a⟩
end Go.AL
namespace Go.AL
open Go
end Go.AL
namespace Go.AL
open Go
def flat (a b:List Int) (done:Nat→Nat→Bool):List Int :=
 (List.range ((a.length+1)*(b.length+1))).map fun p=>if done (p / (b.length+1)) (p % (b.length+1))=true then (dist (a.drop (p / (b.length+1))) (b.drop (p % (b.length+1))):Int) else 0
end Go.AL
namespace Go.AL
open Go
def GrX (l:List Change) (m ctx:Int):Nat→List Hunk→Nat→Prop
 | a,[],k=>a=k
 | a,h::r,k=>∃b,a < b∧opens l ctx a∧(∀c,a < c→c < b→¬opens l ctx c)∧h=mkH l m ctx a b∧GrX l m ctx b r k
theorem GrX.le {l:List Change} {m ctx:Int}:∀{hs:List Hunk} {a k:Nat},GrX l m ctx a hs k→a≤k
 | [],a,k,h=>Nat.le_of_eq h
 | _::_,a,k,⟨b,h1,_,_,_,h2⟩=>by have:=GrX.le h2;omega
theorem GrX.snoc {l:List Change} {m ctx:Int} {k n:Nat} (ho:opens l ctx k) (hk:k < n) (hno:∀c,k < c→c < n→¬opens l ctx c):∀{hs:List Hunk} {a:Nat},GrX l m ctx a hs k→GrX l m ctx a (hs++[mkH l m ctx k n]) n
 | [],a,h=>by
  obtain rfl:a=k:=h
  exact ⟨n,hk,ho,hno,rfl,rfl⟩
 | _::_,a,⟨b,h1,h2,h3,h4,h5⟩=>⟨b,h1,h2,h3,h4,GrX.snoc ho hk hno h5⟩
theorem GrX.last {l:List Change} {m ctx:Int} {k:Nat} (hno:¬opens l ctx k):∀{hs:List Hunk} {a:Nat},GrX l m ctx a hs k→hs≠[]→GrX l m ctx a (hs.set (hs.length - 1) (C92 l m ctx k (hs.getD (hs.length - 1) I16))) (k+1)
 | [],_,_,h0=>absurd rfl h0
 | [h],a,⟨b,h1,h2,h3,h4,h5⟩,_=>by
  obtain rfl:b=k:=h5
  subst h4
  refine ⟨b+1,by omega,h2,fun c hc1 hc2=>?_,rfl,rfl⟩
  by_cases hcb:c=b
  ·rw [hcb];exact hno
  ·exact h3 c hc1 (by omega)
 | h::h'::r,a,⟨b,h1,h2,h3,h4,h5⟩,_=>by
  have ih:=GrX.last hno h5 (by simp)
  refine ⟨b,h1,h2,h3,h4,?_⟩
  simpa using ih
theorem GrX.len {l:List Change} {m ctx:Int}:∀{hs:List Hunk} {a k:Nat},GrX l m ctx a hs k→hs.length≤k - a
 | [],_,_,_=>Nat.zero_le _
 | _::_,a,k,⟨b,h1,_,_,_,h2⟩=>by have:=GrX.len h2;have:=h2.le;simp only [J78];omega
end Go.AL
namespace Go.AL
open Go
end Go.AL
namespace Go.AL
open Go
theorem I21 (m n:Int):∀(l:List Change) (k0:Nat) (i j:Int),(∀k,k < l.length→O1 (cAt l k).Old∧O1 (cAt l k).OldLen∧O1 (cAt l k).New∧O1 (cAt l k).NewLen∧(cAt l k).OldLen+(cAt l k).NewLen≠0∧(cAt l k).Old - eoI i l k=(cAt l k).New - enI j l k∧eoI i l k≤(cAt l k).Old∧(0 < k0+k→eoI i l k < (cAt l k).Old)) →
  (m - eoI i l l.length=n - enI j l l.length∧eoI i l l.length≤m)→P1 k0 i j l m n=true
 | [],k0,i,j,_,h=>by
  have h1:m - i=n - j∧i≤m:=h
  simp only [P1,decide_eq_true_eq];omega
 | c::r,k0,i,j,h,he=>by
  simp only [P1,J80,decide_eq_true_eq]
  refine ⟨?_,I21 m n r (k0+1) _ _ (fun k hk=>?_) ?_⟩
  ·obtain ⟨h1,h2,h3,h4,h5,h6,h7,h8⟩:=h 0 (by simp)
   have h1:O1 c.Old:=h1
   have h2:O1 c.OldLen:=h2
   have h3:O1 c.New:=h3
   have h4:O1 c.NewLen:=h4
   have h5:c.OldLen+c.NewLen≠0:=h5
   have h6:c.Old - i=c.New - j:=h6
   have h7:i≤c.Old:=h7
   have h8:0 < k0+0→i < c.Old:=h8
   unfold badC
   rintro (((((((q | q) | q) | q) | q) | q) | q) | ⟨q,q2⟩)
   ·exact q h1
   ·exact q h2
   ·exact q h3
   ·exact q h4
   ·exact h5 q
   ·exact q h6
   ·omega
   ·have:=h8 (by omega);omega
  ·have:=h (k+1) (by simpa using hk)
   rw [C95,z7,z8] at this
   obtain ⟨e1,e2,e3,e4,e5,e6,e7,e8⟩:=this
   exact ⟨e1,e2,e3,e4,e5,e6,e7,fun h0=>e8 (by omega)⟩
  ·rw [J78,z7,z8] at he;exact he
theorem I22 (x y:List Str):∀(l:List Change) (i j:Int),(∀k,k < l.length→sub x (eoI i l k) (cAt l k).Old=sub y (enI j l k) (cAt l k).New)→sub x (eoI i l l.length) x.length=sub y (enI j l l.length) y.length→D42 x y i j l
 | [],_,_,_,h=>h
 | c::r,i,j,h,he=>by
  refine ⟨h 0 (by simp),I22 x y r _ _ (fun k hk=>?_) ?_⟩
  ·have:=h (k+1) (by simpa using hk)
   rw [C95,z7,z8] at this;exact this
  ·rw [J78,z7,z8] at he;exact he
theorem I23 {x:List Str} {p q:Int} {t:Nat} (h0:0≤p) (h:p+t < q):(sub x p q)[t]?=x[(p+t).toNat]?:=by
 unfold sub
 rw [List.getElem?_take,if_pos (by omega),J99]
 congr 1;omega
theorem G27 {x y:List Str} {p q p' q':Int} (h:sub x p q=sub y p' q') (h0:0≤p) (h0':0≤p') (hq:q≤x.length) (he:q - p=q' - p') {t:Nat} (ht:p+t < q):∃v,x[(p+t).toNat]?=some v∧y[(p'+t).toNat]?=some v:=by
 have h1:x[(p+t).toNat]?=some x[(p+t).toNat]:=J79 (by omega)
 refine ⟨_,h1,?_⟩
 rw [←I23 (q:=q') h0' (by omega),←h,I23 h0 ht];exact h1
theorem D79 {i j:Int} {n:Nat} {p:Span} (h:p∈S9 i j n):∃t:Nat,t < n∧p=⟨i+t,j+t⟩:=by
 unfold S9 at h
 obtain ⟨t,h1,h2⟩:=List.mem_map.1 h
 exact ⟨t,List.mem_range.1 h1,h2.symm⟩
theorem E67 {x y:List Str}:∀(l:List Change) (k0:Nat) (i j:Int),P1 k0 i j l x.length y.length=true→D42 x y i j l→0≤i→0≤j→∀p∈L3 i j l x.length,EqAt x y p
 | [],k0,i,j,hs,he,hi,hj,p,hp=>by
  simp only [P1,decide_eq_true_eq] at hs
  unfold L3 at hp
  obtain ⟨t,ht,rfl⟩:=D79 hp
  have he:sub x i x.length=sub y j y.length:=he
  exact ⟨by dsimp only;omega,by dsimp only;omega,G27 he hi hj (by omega) (by omega) (by omega)⟩
 | c::r,k0,i,j,hs,he,hi,hj,p,hp=>by
  have hok:=B66 _ _ _ _ _ _ hs
  have g:=A06 x.length y.length (c::r) k0 i j hs 0 (by simp)
  obtain ⟨g1,g2,g3,g4,g5,g6,g7,_⟩:=g
  have g1:O1 c.Old:=g1
  have g2:O1 c.OldLen:=g2
  have g3:O1 c.New:=g3
  have g4:O1 c.NewLen:=g4
  have g6:c.Old - i=c.New - j:=g6
  have g7:i≤c.Old:=g7
  simp only [P1,J80,decide_eq_true_eq] at hs
  unfold L3 at hp
  unfold O1 at g1 g2 g3 g4
  have hm:=hok.2.2.2.2.2.2.end_le
  rcases List.mem_append.1 hp with hp | hp
  ·obtain ⟨t,ht,rfl⟩:=D79 hp
   exact ⟨by dsimp only;omega,by dsimp only;omega,G27 he.1 hi hj (by omega) (by omega) (by omega)⟩
  ·rw [show max i c.Old+c.OldLen=c.Old+c.OldLen by omega,show j+((c.Old - i).toNat:Int)+c.NewLen=c.New+c.NewLen by omega] at hp
   exact E67 r (k0+1) _ _ hs.2 he.2 (by omega) (by omega) p hp
theorem ScFit.pairs {x y:List Str} {l:List Change} (h:ScFit x y l):∀p∈n5 l x.length,EqAt x y p:=E67 l 0 0 0 h.sc h.eq (Int.le_refl _) (Int.le_refl _)
def D43 (c:Change):Change:=⟨c.Old+1,c.OldLen,c.New+1,c.NewLen⟩
def B19 (l:List Change) (k:Nat):List Change:=l.set k (D43 (cAt l k))
def atI (t:List Int) (i:Int):Int:=t.getD i.toNat 0
def I24 (l:List Change) (k:Nat) (t:List Int) (f n:Int):Prop:=(f+n < t.length∧atI t f=atI t (f+n))∧(k+1=l.length∨(cAt l k).Old+(cAt l k).OldLen+1 < (cAt l (k+1)).Old)
instance (l:List Change) (k:Nat) (t:List Int) (f n:Int):Decidable (I24 l k t f n):=by unfold I24;exact inferInstance
def E00 (l:List Change) (a b:List Int) (k:Nat):Bool :=
 if (cAt l k).NewLen=0 then decide (I24 l k a (cAt l k).Old (cAt l k).OldLen) else if (cAt l k).OldLen=0 then decide (I24 l k b (cAt l k).New (cAt l k).NewLen) else false
theorem s7 (l:List Change) (k:Nat):(B19 l k).length=l.length:=by simp [B19]
theorem B91 (l:List Change) {k:Nat} (hk:k < l.length) (q:Nat):cAt (B19 l k) q=if q=k then D43 (cAt l k) else cAt l q:=by
 unfold B19
 by_cases h:q=k
 ·subst h
  have:∀z,cAt (l.set q z) q=z:=fun z=>by unfold cAt;simp [hk]
  rw [if_pos rfl,this]
 ·rw [if_neg h];unfold cAt
  simp only [J82]
  rw [List.getElem?_set_ne (Ne.symm h)]
theorem C98 (l:List Change) {k:Nat} (hk:k < l.length) (q:Nat):eoI 0 (B19 l k) q=eoI 0 l q+(if q=k+1 then 1 else 0):=by
 cases q with
 | zero=>simp [eoI]
 | succ q =>
  rw [B67,B67,B91 l hk]
  by_cases h:q=k
  ·subst h;rw [if_pos rfl,if_pos rfl];simp only [B35,D43];omega
  ·rw [if_neg h,if_neg (by omega)];omega
theorem C99 (l:List Change) {k:Nat} (hk:k < l.length) (q:Nat):enI 0 (B19 l k) q=enI 0 l q+(if q=k+1 then 1 else 0):=by
 cases q with
 | zero=>simp [enI]
 | succ q =>
  rw [B68,B68,B91 l hk]
  by_cases h:q=k
  ·subst h;rw [if_pos rfl,if_pos rfl];simp only [G23,D43];omega
  ·rw [if_neg h,if_neg (by omega)];omega
structure IdsOf (x:List Str) (a:List Int):Prop where
 len:a.length=x.length
 inj:∀(i j:Nat) (u v:Str) (z:Int),x[i]?=some u→x[j]?=some v→a[i]?=some z→a[j]?=some z→u=v
theorem ScFit.down {x y:List Str} {l:List Change} {a b:List Int} (h:ScFit x y l) (ha:IdsOf x a) (hb:IdsOf y b) {k:Nat} (hk:k < l.length) (hd:E00 l a b k=true):ScFit x y (B19 l k):=by
 have hlx:=h.lx
 have hly:=h.ly
 have hg:=A06 _ _ _ 0 0 0 h.sc
 have hge:=G24 _ _ _ 0 0 0 h.sc
 have hq:=E62 _ _ _ _ _ h.eq
 have hqe:=G25 _ _ _ _ _ h.eq
 have hok:=h.ok
 obtain ⟨c,hc⟩:∃c,c=cAt l k:=⟨_,rfl⟩
 obtain ⟨g1,g2,g3,g4,g5,g6,g7,g8⟩:=hg k hk
 have hb4:=hok.get k hk
 rw [←hc] at g1 g2 g3 g4 g5 g6 g7 g8 hb4
 unfold O1 at g1 g2 g3 g4
 have eo1:eoI 0 l (k+1)=c.Old+c.OldLen:=by rw [B67,←hc];rfl
 have en1:enI 0 l (k+1)=c.New+c.NewLen:=by rw [B68,←hc];rfl
 obtain ⟨E,E',hE1,hE2,hE3,hE4,hE5,hEn⟩:∃E E':Int,sub x (c.Old+c.OldLen) E=sub y (c.New+c.NewLen) E'∧E - (c.Old+c.OldLen)=E' - (c.New+c.NewLen)∧E≤x.length∧E'≤y.length∧(c.Old+c.OldLen < E)∧(k+1 < l.length→E=(cAt l (k+1)).Old∧E'=(cAt l (k+1)).New∧c.Old+c.OldLen+1 < E):=by
  by_cases hl:k+1=l.length
  ·rw [←hl,eo1,en1] at hge hqe
   refine ⟨x.length,y.length,hqe,by omega,by omega,by omega,?_,fun q=>absurd hl (by omega)⟩
   unfold E00 at hd
   rw [←hc] at hd
   split at hd
   ·have:=(A0 hd).1.1;rw [ha.len] at this;omega
   ·split at hd
    ·have:=(A0 hd).1.1;rw [hb.len] at this;omega
    ·cases hd
  ·have hl:k+1 < l.length:=by omega
   obtain ⟨f1,f2,f3,f4,f5,f6,f7,f8⟩:=hg (k+1) hl
   have f9:=hq (k+1) hl
   have f10:=hok.get (k+1) hl
   rw [eo1,en1] at f6 f9
   rw [eo1] at f7
   unfold O1 at f2 f4
   have hroom:c.Old+c.OldLen+1 < (cAt l (k+1)).Old:=by
    unfold E00 at hd
    rw [←hc] at hd
    split at hd
    ·have:=(A0 hd).2;rw [←hc] at this;omega
    ·split at hd
     ·have:=(A0 hd).2;rw [←hc] at this;omega
     ·cases hd
   exact ⟨_,_,f9,by omega,by omega,by omega,by omega,fun _=>⟨rfl,rfl,hroom⟩⟩
 have hv:∃v,x[c.Old.toNat]?=some v∧y[c.New.toNat]?=some v:=by
  obtain ⟨v,v1,v2⟩:=G27 (t:=0) hE1 (by omega) (by omega) (by omega) hE2 (by omega)
  simp only [Int.natCast_zero,Int.add_zero] at v1 v2
  unfold E00 at hd
  rw [←hc] at hd
  split at hd
  ·rename_i hn
   have:=(A0 hd).1.2
   rw [hn,Int.add_zero] at v2
   refine ⟨v,?_,v2⟩
   have l1:c.Old.toNat < a.length:=by rw [ha.len];omega
   have l2:(c.Old+c.OldLen).toNat < a.length:=by rw [ha.len];omega
   have hx:x[c.Old.toNat]?=some x[c.Old.toNat]:=J79 (by omega)
   have ea:a[c.Old.toNat]?=some (atI a c.Old):=by unfold atI;rw [J82,J79 l1];rfl
   have eb:a[(c.Old+c.OldLen).toNat]?=some (atI a (c.Old+c.OldLen)):=by unfold atI;rw [J82,J79 l2];rfl
   rw [←this] at eb
   have:=ha.inj _ _ _ _ _ hx v1 ea eb
   rw [hx,this]
  ·split at hd
   ·rename_i _ hn
    have:=(A0 hd).1.2
    rw [hn,Int.add_zero] at v1
    refine ⟨v,v1,?_⟩
    have l1:c.New.toNat < b.length:=by rw [hb.len];omega
    have l2:(c.New+c.NewLen).toNat < b.length:=by rw [hb.len];omega
    have hx:y[c.New.toNat]?=some y[c.New.toNat]:=J79 (by omega)
    have ea:b[c.New.toNat]?=some (atI b c.New):=by unfold atI;rw [J82,J79 l1];rfl
    have eb:b[(c.New+c.NewLen).toNat]?=some (atI b (c.New+c.NewLen)):=by unfold atI;rw [J82,J79 l2];rfl
    rw [←this] at eb
    have:=hb.inj _ _ _ _ _ hx v2 ea eb
    rw [hx,this]
   ·cases hd
 obtain ⟨v,v1,v2⟩:=hv
 have hen0:0≤eoI 0 l k∧0≤enI 0 l k:=by
  cases k with
  | zero=>simp [eoI,enI]
  | succ k =>
   obtain ⟨f1,f2,f3,f4,_⟩:=hg k (by omega)
   unfold O1 at f1 f2 f3 f4
   rw [B67,B68];unfold B35 G23;omega
 have htail:sub x (c.Old+c.OldLen+1) E=sub y (c.New+c.NewLen+1) E':=by
  have:=B69 (e:=E - (c.Old+c.OldLen) - 1) hE1 (by omega) (by omega) (by omega) (by omega) hE2
  rw [show E - (E - (c.Old+c.OldLen) - 1)=c.Old+c.OldLen+1 by omega,show E' - (E - (c.Old+c.OldLen) - 1)=c.New+c.NewLen+1 by omega] at this
  exact this
 refine ⟨hlx,hly,I21 _ _ _ 0 0 0 (fun q hql=>?_) ?_,I22 _ _ _ 0 0 (fun q hql=>?_) ?_⟩
 ·rw [s7] at hql
  rw [B91 l hk,C98 l hk,C99 l hk]
  by_cases e:q=k
  ·rw [if_pos e,if_neg (show ¬q=k+1 by omega),e,←hc]
   unfold O1
   simp only [D43]
   refine ⟨by omega,g2,by omega,g4,g5,by omega,by omega,fun _=>by omega⟩
  ·rw [if_neg e]
   obtain ⟨f1,f2,f3,f4,f5,f6,f7,f8⟩:=hg q hql
   refine ⟨f1,f2,f3,f4,f5,?_,?_,?_⟩
   ·by_cases e2:q=k+1
    ·rw [if_pos e2];omega
    ·rw [if_neg e2];omega
   ·by_cases e2:q=k+1
    ·rw [if_pos e2];have:=f8 (by omega);omega
    ·rw [if_neg e2];omega
   ·intro h0
    by_cases e2:q=k+1
    ·rw [if_pos e2,e2,eo1]
     have:=(hEn (by omega))
     omega
    ·rw [if_neg e2];have:=f8 h0;omega
 ·rw [s7,C98 l hk,C99 l hk]
  by_cases e2:l.length=k+1
  ·rw [if_pos e2,e2,eo1,en1]
   rw [e2,eo1,en1] at hge
   have h1:E≤x.length:=hE3
   omega
  ·rw [if_neg e2];omega
 ·rw [s7] at hql
  rw [B91 l hk,C98 l hk,C99 l hk]
  by_cases e:q=k
  ·rw [if_pos e,if_neg (show ¬q=k+1 by omega),e,←hc]
   simp only [D43,Int.add_zero]
   have:=hq k hk
   rw [←hc] at this
   rw [H06 hen0.1 g7 v1,H06 hen0.2 (by omega) v2,this]
  ·rw [if_neg e]
   by_cases e2:q=k+1
   ·rw [if_pos e2]
    subst e2
    obtain ⟨q1,q2,_⟩:=hEn hql
    rw [eo1,en1,←q1,←q2];exact htail
   ·rw [if_neg e2,Int.add_zero,Int.add_zero]
    exact hq q hql
 ·rw [s7,C98 l hk,C99 l hk]
  by_cases e2:l.length=k+1
  ·rw [if_pos e2]
   rw [e2,eo1,en1] at hqe hge ⊢
   have:=B69 (e:=x.length - (c.Old+c.OldLen) - 1) hqe (by omega) (by omega) (by omega) (by omega) (by omega)
   rw [show (x.length:Int) - (x.length - (c.Old+c.OldLen) - 1)=c.Old+c.OldLen+1 by omega,show (y.length:Int) - (x.length - (c.Old+c.OldLen) - 1)=c.New+c.NewLen+1 by omega] at this
   exact this
  ·rw [if_neg e2,Int.add_zero,Int.add_zero];exact hqe
section
variable {x y:List Str} {a b:List Int} (ha:IdsOf x a) (hb:IdsOf y b)
include ha hb
omit ha hb in
omit ha hb in
end
end Go.AL
namespace Go.AL
open Go
structure Made12 (on nn a b:Str) (l:List Change) (ctx:Int):Prop where
 chk:C94 ⟨on,nn,j8 l (D2 a) (D2 b) ctx⟩=0
 wr:(I17 ⟨on,nn,j8 l (D2 a) (D2 b) ctx⟩).length≤16777216
 fit:PFit ⟨on,nn,j8 l (D2 a) (D2 b) ctx⟩
 rg:∀h∈j8 l (D2 a) (D2 b) ctx,(-4611686018427387904≤h.Old∧h.Old≤4611686018427387904)∧(-4611686018427387904≤h.New∧h.New≤4611686018427387904)
 sz:szP (j8 l (D2 a) (D2 b) ctx)≤268435456
end Go.AL
namespace Go.AL
open Go
section
variable {x y:List Str} {l:List Change}
end
end Go.AL
namespace Go.AL
open Go
def ChainH (x y:List Str) (i j:Int):List PatchHunk→Prop
 | []=>sub x i x.length=sub y j y.length∧0≤i∧0≤j∧i≤x.length∧j≤y.length
 | h::r=>(sub x i h.Old=sub y j h.New∧G6 h.Lines 43=sub x h.Old (h.Old+A81 h)∧G6 h.Lines 45=sub y h.New (h.New+A82 h))∧(0≤i∧0≤j∧i≤h.Old∧j≤h.New∧h.Old+A81 h≤x.length∧h.New+A82 h≤y.length)∧ChainH x y (h.Old+A81 h) (h.New+A82 h) r
theorem ScFit.chain {x y:List Str} {l:List Change} (h:ScFit x y l) {ctx:Int} (hc:0≤ctx):∀(hs:List Hunk) (a:Nat),GrOk l x.length ctx a hs l.length →
  ∀(i j e:Int),i=eoI 0 l a+e→j=enI 0 l a+e→0≤e→e≤ctx→(a=0→e=0)→i≤x.length→j≤y.length→ChainH x y i j (hs.map (Y6 l x y))
 | [],a,hr,i,j,e,hi,hj,he,_,_,hix,hjy=>by
  have hr:a=l.length:=hr
  have hq:=G25 _ _ _ _ _ h.eq
  have hge:=G24 _ _ _ 0 0 0 h.sc
  obtain ⟨r1,r2,r3,r4⟩:=h.nn a (by omega)
  rw [←hr] at hq hge
  refine ⟨?_,by omega,by omega,hix,hjy⟩
  have:=B69 (e:=x.length - i) hq r1 r2 (by omega) (by omega) (by omega)
  rw [show (x.length:Int) - (x.length - i)=i by omega,show (y.length:Int) - (x.length - i)=j by omega] at this
  exact this
 | hk::hs,a,⟨b,hab,ho,hE,hr⟩,i,j,e,hi,hj,he,hec,he0,hix,hjy=>by
  have hb:=hr.le
  have hob:b < l.length→opens l ctx b:=by
   intro hlt
   cases hs with
   | nil=>exact absurd hr (by show ¬b=l.length;omega)
   | cons h2 hs2=>obtain ⟨_,_,ho2,_⟩:=hr;exact ho2
  obtain ⟨w1,w2,w3,w4,w5⟩:=h.after hc hb hob (by omega)
  obtain ⟨q1,q2,q3⟩:=h.before hc (show a < l.length by omega) ho
  have H:=h.hunk hc hab hb ho hob
  rw [←hE] at H
  obtain ⟨P,hP⟩:∃P,P=Y6 l x y hk:=⟨_,rfl⟩
  rw [←hP] at H
  have ih:=ScFit.chain h hc hs b hr (P.Old+A81 P) (P.New+A82 P) (eB l x.length ctx b) H.oe H.ne w1 w2 (by omega) H.ox H.ny
  obtain ⟨k1,⟨k2,k2'⟩,k3,⟨k4,k4'⟩,k5,k6,k7,k8⟩:=A06 _ _ _ _ _ _ h.sc a (show a < l.length by omega)
  have h1:=H.old
  have h2:=H.new
  have h3:=H.o0
  have h4:=H.n0
  have hgap:e+eA l ctx a≤(cAt l a).Old - eoI 0 l a:=by
   by_cases h0:a=0
   ·have:=he0 h0;omega
   ·have:=B90 ho h0;omega
  obtain ⟨r1,r2,r3,r4⟩:=h.nn a (by omega)
  have hij:i≤P.Old∧j≤P.New∧P.Old - i=P.New - j∧0≤i∧0≤j:=by omega
  have hrun:=E62 _ _ _ _ _ h.eq a (show a < l.length by omega)
  have t1:=B69 (e:=(cAt l a).Old - i) hrun r1 r2 (by omega) (by omega) (by omega)
  rw [show (cAt l a).Old - ((cAt l a).Old - i)=i by omega,show (cAt l a).New - ((cAt l a).Old - i)=j by omega] at t1
  have t2:=E63 (e:=P.Old - i) t1 (by omega) (by omega) (by omega) (by omega) (by omega)
  rw [show i+(P.Old - i)=P.Old by omega,show j+(P.Old - i)=P.New by omega] at t2
  rw [J85,←hP]
  exact ⟨⟨t2,H.ol,H.nl⟩,⟨by omega,by omega,hij.1,hij.2.1,H.ox,H.ny⟩,ih⟩
end Go.AL
namespace Go.AL
open Go
def Z6 (c:UInt8):Bool:=decide (48≤c.toNat∧c.toNat≤57)
def K9 (s:Str):Str:=s.takeWhile Z6
def j3 (ds:Str):Nat:=ds.foldl (fun n c=>10*n+(c.toNat - 48)) 0
def Q0 (s:Str):Option (Nat × Nat) :=
 if K9 s=[]∨(s.head?=some 48∧1 < (K9 s).length)∨2147483647 < j3 (K9 s) then none else some (j3 (K9 s),(K9 s).length)
theorem F70 (ds:Str) (c:UInt8):j3 (ds++[c])=10*j3 ds+(c.toNat - 48):=by
 unfold j3;rw [K21];rfl
theorem x6 (k:Nat) (h:k < 10):(UInt8.ofNat (48+k)).toNat=48+k:=by
 rw [UInt8.toNat_ofNat'];omega
theorem C38 (u:Nat):(∀c∈Lib.decDigits u,Z6 c=true)∧j3 (Lib.decDigits u)=u∧Lib.decDigits u≠[]∧((Lib.decDigits u).head?=some 48→u=0)∧(1 < (Lib.decDigits u).length→10≤u):=by
 induction u using Nat.strongRecOn with
 | _ u ih =>
  rw [Lib.decDigits]
  split
  ·rename_i h
   refine ⟨?_,?_,by simp,?_,by simp⟩
   ·intro c hc
    simp only [K06,K05,or_false] at hc
    subst hc;unfold Z6;rw [x6 u h];simp;omega
   ·unfold j3;simp only [K16,List.foldl_nil];rw [x6 u h];omega
   ·intro h1
    simp only [List.head?_cons,Option.some.injEq] at h1
    have:=congrArg UInt8.toNat h1
    rw [x6 u h] at this
    have e:(48:UInt8).toNat=48:=rfl
    omega
  ·rename_i h
   obtain ⟨h1,h2,h3,h4,h5⟩:=ih (u / 10) (by omega)
   have h6:u % 10 < 10:=Nat.mod_lt _ (by omega)
   refine ⟨?_,?_,by simp,?_,fun _=>by omega⟩
   ·intro c hc
    rcases List.mem_append.1 hc with hc | hc
    ·exact h1 c hc
    ·simp only [K06,K05,or_false] at hc
     subst hc;unfold Z6;rw [x6 _ h6];simp;omega
   ·rw [F70,h2,x6 _ h6];omega
   ·intro h7
    rw [List.head?_append] at h7
    cases hd:(Lib.decDigits (u / 10)).head? with
    | none=>exact absurd (List.head?_eq_none_iff.1 hd) h3
    | some x =>
     rw [hd] at h7
     have h7:x=48:=by simpa using h7
     have:=h4 (by rw [hd,h7])
     omega
theorem J31 {ds t:Str} (h:∀c∈ds,Z6 c=true) (ht:∀c,t.head?=some c→Z6 c=false):K9 (ds++t)=ds:=by
 unfold K9
 rw [List.takeWhile_append_of_pos h]
 cases t with
 | nil=>simp
 | cons c r=>rw [List.takeWhile_cons,ht c rfl];simp
theorem D00 {n:Int} (h0:0≤n) (h1:n≤2147483647):I4 n=Lib.decDigits n.toNat:=by
 unfold I4 Lib.itoa;rw [if_neg (by omega),if_neg (by omega)]
theorem B92 {n:Int} {t:Str} (h0:0≤n) (h1:n≤2147483647) (ht:∀c,t.head?=some c→Z6 c=false):Q0 (I4 n++t)=some (n.toNat,(I4 n).length):=by
 rw [D00 h0 h1]
 obtain ⟨h2,h3,h4,h5,h6⟩:=C38 n.toNat
 have e:=J31 h2 ht
 unfold Q0
 rw [e,h3]
 rw [if_neg]
 rintro (h | ⟨h,h'⟩ | h)
 ·exact h4 h
 ·have h7:(Lib.decDigits n.toNat).head?=some 48:=by
   rw [List.head?_append] at h
   cases hd:(Lib.decDigits n.toNat).head? with
   | none=>exact absurd (List.head?_eq_none_iff.1 hd) h4
   | some x=>rw [hd] at h;simpa using h
  have:=h5 h7;have:=h6 h';omega
 ·omega
def A07 (s:Str) (a c:Nat) (e:Nat):Option (Int × Int × Nat) :=
 if G4 (if 0 < c then (a:Int) - 1 else a) c=s.take e then some ((if 0 < c then (a:Int) - 1 else a),(c:Int),e) else none
def P2 (s:Str):Option (Int × Int × Nat) :=
 match Q0 s with
 | none=>none
 | some (a,k)=>if s[k]?=some 44 then (match Q0 (s.drop (k+1)) with | none=>none | some (c,k2)=>A07 s a c (k+1+k2)) else A07 s a 1 k
theorem D44 {s:Str} {a c e:Nat} {st:Int} (hst:st=if 0 < c then (a:Int) - 1 else a) (h:G4 st c=s.take e):A07 s a c e=some (st,(c:Int),e):=by
 unfold A07;rw [←hst,if_pos h]
theorem F71 {a n:Int} {t:Str} (h0:0≤a) (h1:0≤n) (h2:a≤2147483647) (h3:n≤2147483647 - a) (ht:∀c,t.head?=some c→Z6 c=false∧c≠44):P2 (G4 a n++t)=some (a,n,(G4 a n).length):=by
 have hr:G4 a n=if n=0 then I4 a++[44,48] else if n=1 then I4 (a+1) else I4 (a+1)++[44]++I4 n:=by
  unfold G4;rw [if_neg (by omega)]
 have hf0:I4 0=[48]:=by rw [D00 (by omega) (by omega)];rw [Lib.decDigits];rfl
 have hd44:Z6 44=false:=by decide
 have hT:(G4 a n++t).take (G4 a n).length=G4 a n:=List.take_left
 by_cases hn0:n=0
 ·subst hn0
  rw [if_pos rfl] at hr
  have e1:G4 a 0++t=I4 a++(44::(I4 0++t)):=by rw [hr,hf0];simp
  have ed:(I4 a++(44::(I4 0++t))).drop ((I4 a).length+1)=I4 0++t:=by rw [List.drop_append];simp
  have el:(I4 a).length+1+(I4 0).length=(G4 a 0).length:=by rw [hr,hf0];simp
  rw [e1] at hT ⊢
  unfold P2
  rw [B92 h0 h2 (by intro c hc;cases hc;exact hd44)]
  dsimp only
  rw [if_pos (by simp),ed,B92 (n:=0) (by omega) (by omega) (fun c hc=>(ht c hc).1)]
  dsimp only
  rw [el]
  exact D44 (st:=a) (c:=0) (by simp;omega) hT.symm
 ·by_cases hn1:n=1
  ·subst hn1
   rw [if_neg (by omega),if_pos rfl] at hr
   rw [hr] at hT ⊢
   unfold P2
   rw [B92 (by omega) (by omega) (fun c hc=>(ht c hc).1)]
   dsimp only
   rw [if_neg]
   ·exact D44 (st:=a) (c:=1) (by simp;omega) (by rw [hT];exact hr)
   ·rw [J95 (Nat.le_refl _),K20]
    cases t with
    | nil=>simp
    | cons c r=>simp;exact fun e=>(ht c rfl).2 e
  ·rw [if_neg hn0,if_neg hn1] at hr
   have e1:G4 a n++t=I4 (a+1)++(44::(I4 n++t)):=by rw [hr];simp
   have ed:(I4 (a+1)++(44::(I4 n++t))).drop ((I4 (a+1)).length+1)=I4 n++t:=by rw [List.drop_append];simp
   have el:(I4 (a+1)).length+1+(I4 n).length=(G4 a n).length:=by rw [hr];simp;omega
   have e4:((n.toNat:Nat):Int)=n:=by omega
   rw [e1] at hT ⊢
   unfold P2
   rw [B92 (by omega) (by omega) (by intro c hc;cases hc;exact hd44)]
   dsimp only
   rw [if_pos (by simp),ed,B92 (n:=n) (by omega) (by omega) (fun c hc=>(ht c hc).1)]
   dsimp only
   rw [el]
   have:=D44 (s:=I4 (a+1)++(44::(I4 n++t))) (a:=(a+1).toNat) (c:=n.toNat) (e:=(G4 a n).length) (st:=a) (by rw [if_pos (by omega)];omega) (by rw [hT,e4])
   rw [this,e4]
def octV (a b c:UInt8):Option UInt8 :=
 if ((((((a.toNat < 48∨55 < a.toNat)∨b.toNat < 48)∨55 < b.toNat)∨c.toNat < 48)∨55 < c.toNat)∨256≤64*(a.toNat - 48)+8*(b.toNat - 48)+(c.toNat - 48)) then none
 else some (UInt8.ofNat (64*(a.toNat - 48)+8*(b.toNat - 48)+(c.toNat - 48)))
def B32:Str→Option (UInt8 × Nat)
 | []=>none
 | d::r=>if d.toNat=34∨d.toNat=92 then some (d,1) else if d.toNat=110 then some (10,1) else if d.toNat=116 then some (9,1) else match r with
  | e::f::_=>(octV d e f).map fun x=>(x,3)
  | _=>none
theorem F72 {s:Str} {x:UInt8} {k:Nat} (h:B32 s=some (x,k)):1≤k∧k≤s.length:=by
 cases s with
 | nil=>cases h
 | cons d r =>
  simp only [B32] at h
  split at h
  ·cases h;simp
  ·split at h
   ·cases h;simp
   ·split at h
    ·cases h;simp
    ·split at h
     ·simp only [Option.map_eq_some_iff] at h
      obtain ⟨_,_,h⟩:=h
      cases h;simp
     ·cases h
def I0 (s:Str) (i:Nat) (acc:Str):Option (Str × Nat) :=
 if h:i < s.length then
  if s[i].toNat=34 then some (acc,i+1)
  else if s[i].toNat=92 then (match he:B32 (s.drop (i+1)) with | none=>none | some (x,k)=>I0 s (i+1+k) (acc++[x]))
  else I0 s (i+1) (acc++[s[i]])
 else none
termination_by s.length - i
decreasing_by all_goals omega
def Q9 (s:Str):Option (Str × Nat) :=
 if s.head?=some 34 then (match I0 s 1 [] with | none=>none | some (w,k)=>if H6 w=s.take k then some (w,k) else none)
 else if s.takeWhile N4=[] then none else some (s.takeWhile N4,(s.takeWhile N4).length)
theorem H75 {s:Str} (n:Nat):∀{i:Nat} {acc w:Str} {k:Nat},s.length - i≤n→I0 s i acc=some (w,k)→i < k∧k≤s.length∧w.length+i≤acc.length+k:=by
 induction n with
 | zero =>
  intro i acc w k hn h
  rw [I0,dif_neg (by omega)] at h;cases h
 | succ n ih =>
  intro i acc w k hn h
  rw [I0] at h
  split at h
  ·rename_i hi
   split at h
   ·cases h;omega
   ·split at h
    ·split at h
     ·cases h
     ·rename_i x k' he
      have h1:=F72 he
      rw [J88] at h1
      have:=ih (by omega) h
      rw [J77] at this;simp only [J78,J81] at this;omega
    ·have:=ih (by omega) h
     rw [J77] at this;simp only [J78,J81] at this;omega
  ·cases h
theorem J32 (c:UInt8) (pre r acc:Str):I0 (pre++(O0 c++(r++[34]))) pre.length acc=I0 (pre++(O0 c++(r++[34]))) (pre.length+(O0 c).length) (acc++[c]):=by
 have hc:=c.toNat_lt
 have hget:∀(d:UInt8) (l:Str),(pre++d::l)[pre.length]?=some d:=by intro d l;rw [J95 (Nat.le_refl _),K20];rfl
 have hdrop:∀(d:UInt8) (l:Str),(pre++d::l).drop (pre.length+1)=l:=by intro d l;rw [List.drop_append];simp
 have e92:(92:UInt8).toNat=92:=rfl
 have e110:(110:UInt8).toNat=110:=rfl
 have e116:(116:UInt8).toNat=116:=rfl
 have key:∀(l:Str) (k:Nat),B32 (l++(r++[34]))=some (c,k)→k=l.length→I0 (pre++((92::l)++(r++[34]))) pre.length acc=I0 (pre++((92::l)++(r++[34]))) (pre.length+(92::l).length) (acc++[c]):=by
  intro l k hl hk
  subst hk
  rw [I0,dif_pos (by simp)]
  have hg:(pre++((92::l)++(r++[34])))[pre.length]'(by simp)=92:=by
   have:=hget 92 (l++(r++[34]))
   rw [J79 (by simp)] at this
   exact Option.some.inj this
  rw [hg,if_neg (by decide),if_pos e92]
  have hd:(pre++((92::l)++(r++[34]))).drop (pre.length+1)=l++(r++[34]):=hdrop 92 _
  split
  ·rename_i he;rw [hd,hl] at he;cases he
  ·rename_i x k' he
   rw [hd,hl] at he;cases he
   rw [J78,show pre.length+1+l.length=pre.length+(l.length+1) by omega]
 unfold O0
 split
 ·rename_i h
  refine key [c] 1 ?_ rfl
  simp only [K08,K07,B32]
  rw [if_pos h]
 ·rename_i h
  split
  ·rename_i h1
   refine key [110] 1 ?_ rfl
   simp only [K08,K07,B32]
   rw [if_neg (by decide),if_pos (by decide)]
   have:c=10:=UInt8.toNat_inj.1 h1
   rw [this]
  ·rename_i h1
   split
   ·rename_i h2
    refine key [116] 1 ?_ rfl
    simp only [K08,K07,B32]
    rw [if_neg (by decide),if_neg (by decide),if_pos (by decide)]
    have:c=9:=UInt8.toNat_inj.1 h2
    rw [this]
   ·rename_i h2
    split
    ·rename_i h3
     refine key (C90 c) 3 ?_ (by rw [A49];rfl)
     rw [A49]
     have t:∀k,k < 8→(UInt8.ofNat (48+k)).toNat=48+k:=fun k hk=>x6 k (by omega)
     have t1:=t (c.toNat / 64) (by omega)
     have t2:=t (c.toNat / 8 % 8) (by omega)
     have t3:=t (c.toNat % 8) (by omega)
     simp only [K08,K07,B32]
     rw [t1,if_neg (by omega),if_neg (by omega),if_neg (by omega)]
     unfold octV
     rw [t1,t2,t3,if_neg (by omega)]
     simp only [Option.map_some,Option.some.injEq,Prod.mk.injEq,and_true]
     apply UInt8.toNat_inj.1
     rw [UInt8.toNat_ofNat'];omega
    ·rw [I0,dif_pos (by simp)]
     have hg:(pre++([c]++(r++[34])))[pre.length]'(by simp)=c:=by
      have:=hget c (r++[34])
      rw [J79 (by simp)] at this
      exact Option.some.inj this
     rw [hg,if_neg (by omega),if_neg (by omega)]
     rfl
theorem word_go (w:Str):∀(pre acc:Str),I0 (pre++((w.map O0).flatten++[34])) pre.length acc=some (acc++w,(pre++((w.map O0).flatten++[34])).length):=by
 induction w with
 | nil =>
  intro pre acc
  rw [I0,dif_pos (by simp)]
  have hg:(pre++((([]:Str).map O0).flatten++[34]))[pre.length]'(by simp)=34:=by simp
  rw [hg,if_pos (show (34:UInt8).toNat=34 from rfl)];simp
 | cons c r ih =>
  intro pre acc
  have e:(((c::r).map O0).flatten++[34])=O0 c++((r.map O0).flatten++[34]):=by simp
  rw [e,J32]
  have h1:=ih (pre++O0 c) (acc++[c])
  rw [J89,J77,J89 acc] at h1
  exact h1
theorem C19 {p:UInt8→Bool}:∀{w:Str},w.all p=true→w.takeWhile p=w
 | [],_=>rfl
 | c::r,h=>by
  simp only [List.all_cons,J80] at h
  rw [List.takeWhile_cons,if_pos h.1,C19 h.2]
theorem H76 (w:Str):Q9 (H6 w)=some (w,(H6 w).length):=by
 unfold Q9
 by_cases h:w≠[]∧w.all N4=true
 ·have e:H6 w=w:=by unfold H6;rw [if_pos h]
  rw [e]
  have e2:w.takeWhile N4=w:=by
   exact C19 h.2
  rw [e2,if_neg,if_neg h.1]
  intro h34
  cases w with
  | nil=>exact h.1 rfl
  | cons c r =>
   simp only [List.head?_cons,Option.some.injEq] at h34
   subst h34
   have:=h.2
   simp only [List.all_cons,J80] at this
   exact absurd this.1 (by decide)
 ·have e:H6 w=[34]++((w.map O0).flatten++[34]):=by unfold H6;rw [if_neg h];rfl
  have e2:=word_go w [34] []
  rw [←e] at e2
  rw [if_pos (by rw [e];rfl),show I0 (H6 w) 1 []=_ from e2]
  dsimp only
  rw [K07,J97,if_pos rfl]
end Go.AL
namespace Go.AL
open Go
def c9 (s:Str):Option (List Str):=if s=[] then some [] else if ended s=true then some ((D2 s).map List.dropLast) else none
theorem B20 (a b cur:Str) (h:(10:UInt8)∉a):G2 cur (a++10::b)=(cur++a++[10])::G2 [] b:=by
 induction a generalizing cur with
 | nil=>simp [G2]
 | cons c r ih =>
  simp only [K06,not_or] at h
  rw [K08,R8,if_neg (fun e=>h.1 e.symm),ih _ h.2];simp
def R0 (ts:List Str):Str:=(ts.map fun t=>t++[10]).flatten
theorem D01:∀(ts:List Str),(∀t∈ts,(10:UInt8)∉t)→D2 (R0 ts)=ts.map fun t=>t++[10]
 | [],_=>rfl
 | t::r,h=>by
  have ih:=D01 r (fun x hx=>h x (by simp [hx]))
  have e:R0 (t::r)=t++10::R0 r:=by unfold R0;simp
  have h1:=B20 t (R0 r) [] (h t (by simp))
  unfold D2 at ih ⊢
  rw [e,h1,ih];simp
theorem D45 (a:Str):ended (a++[10])=true:=by unfold ended;simp
theorem ended_iff {s:Str}:ended s=true↔∃a,s=a++[10]:=by
 constructor
 ·intro h
  unfold ended at h
  have h:s.getLast?=some 10:=by simpa using h
  obtain ⟨ys,hy⟩:=List.getLast?_eq_some_iff.1 h
  exact ⟨ys,hy⟩
 ·rintro ⟨a,rfl⟩;exact D45 a
theorem G28 {ts:List Str} (h:ts≠[]):ended (R0 ts)=true:=by
 have hl:=List.dropLast_concat_getLast h
 rw [ended_iff]
 refine ⟨R0 ts.dropLast++ts.getLast h,?_⟩
 conv=>lhs;rw [←hl]
 unfold R0;simp
theorem H07 (ts:List Str) (h:∀t∈ts,(10:UInt8)∉t):c9 (R0 ts)=some ts:=by
 unfold c9
 by_cases hn:ts=[]
 ·subst hn;rfl
 ·have he:=G28 hn
  have h0:R0 ts≠[]:=fun e=>by rw [e] at he;cases he
  rw [if_neg h0,if_pos he,D01 ts h,K23]
  congr 1
  conv=>rhs;rw [←List.map_id ts]
  refine List.map_congr_left fun t _=>?_
  simp
def noNl:Str:=[92,32,78,111,32,110,101,119,108,105,110,101,32,97,116,32,101,110,100,32,111,102,32,102,105,108,101]
theorem J33:markS=[10]++noNl++[10]:=rfl
theorem E68 (a b:List Str):R0 (a++b)=R0 a++R0 b:=by unfold R0;simp
theorem B72 (a:Str) (b:List Str):R0 (a::b)=a++[10]++R0 b:=by unfold R0;simp
theorem I83 {n:Int} (h0:0≤n) (h1:n≤2147483647):(10:UInt8)∉I4 n:=by
 rw [D00 h0 h1]
 intro h
 have:=(C38 n.toNat).1 _ h
 revert this;decide
theorem J34 (n:Int):(10:UInt8)∉I4 n:=by
 by_cases h:n < 0∨2147483647 < n
 ·unfold I4;rw [if_pos h];simp
 ·exact I83 (by omega) (by omega)
theorem J35 (c:UInt8):(10:UInt8)∉O0 c:=by
 have hc:=c.toNat_lt
 have hn:∀{d:UInt8},d.toNat≠10→(10:UInt8)≠d:=fun h e=>h (by rw [←e];rfl)
 unfold O0
 split
 ·rename_i h;simp only [K06,K05,or_false,not_or];exact ⟨by decide,hn (by omega)⟩
 ·split
  ·decide
  ·split
   ·decide
   ·split
    ·rw [A49]
     have t:∀k,k < 8→(10:UInt8)≠UInt8.ofNat (48+k):=fun k hk=>hn (by rw [x6 k (by omega)];omega)
     simp only [K06,K05,or_false,not_or]
     exact ⟨by decide,t _ (by omega),t _ (by omega),t _ (by omega)⟩
    ·simp only [K06,K05,or_false];exact hn (by omega)
theorem H77 (w:Str):(10:UInt8)∉H6 w:=by
 unfold H6
 split
 ·rename_i h
  intro hm
  have:=List.all_eq_true.1 h.2 _ hm
  revert this;decide
 ·simp only [K06,K28,List.mem_flatten,List.mem_map,K05,or_false,not_or,not_exists,not_and]
  refine ⟨by decide,?_,by decide⟩
  rintro l ⟨x,_,rfl⟩
  exact J35 x
def T6 (l:Str) (i:Nat) (pre:Str):Option (Int × Int × Nat):=if (l.drop i).take pre.length=pre then (match P2 (l.drop (i+pre.length)) with | none=>none | some (a,n,e)=>some (a,n,i+pre.length+e)) else none
def A00 (t:Str):Str:=if ended t=true then t.dropLast else t
theorem check12_good {p:Patch} (h:C94 p=0):D41 p.Hunks=true:=by
 unfold C94 at h
 split at h
 ·cases h
 ·split at h
  ·cases h
  ·rename_i h1;simpa using h1
end Go.AL
namespace Go.AL
open Go
end Go.AL
namespace Go.AL
open Go
structure CHunk where
 At:List Int
 Rows:List Row
 deriving DecidableEq
structure Comb where
 Path:Str
 Dense:Bool
 Parents:Int
 Hunks:List CHunk
 deriving DecidableEq
def J0:CHunk→Nat→Cell:=fun h j=>match j with
 | 0=>.list Int 1 H1 h.At
 | _=>.list Row 3 rowC h.Rows
abbrev B21 (h:CHunk):PV:=.agg [.list Int 1 H1 h.At,.list Row 3 rowC h.Rows]
abbrev I5 (c:Comb):PV:=.agg [.v (.string ⟨c.Path.toArray⟩),.v (.bool c.Dense),.v (.int .i64 c.Parents),.list CHunk 2 J0 c.Hunks]
def comb0:Comb:=⟨[],false,0,[]⟩
def L0 (n k:Nat):Int:=if k=n then -1 else k
def M3 (rows:List Row) (n k:Nat):Int:=(O5 rows (L0 n k)).length
def K6 (rows:List Row) (n:Nat):List Int:=(List.range (n+1)).map (M3 rows n)
def atS (n:Nat):Str:=List.replicate n 64
def L8 (n k:Nat):UInt8:=if k=n then 43 else 45
def A52 (n:Nat) (h:CHunk) (k:Nat):Str:=[32,L8 n k]++G4 (h.At.getD k 0) (M3 h.Rows n k)
def R1 (n:Nat) (h:CHunk) (k:Nat):Str:=((List.range k).map (A52 n h)).flatten
def S0 (n:Nat) (h:CHunk):Str:=atS (n+1)++R1 n h (n+1)++[32]++atS (n+1)
def n6 (r:Row) (p:Nat):UInt8:=if A46 r.Marks p=false then 32 else if r.Lost then 45 else 43
def K4 (n:Nat) (r:Row):Str:=(List.range n).map (n6 r)
def X6 (n:Nat) (r:Row):List Str:=if ended r.Text=true then [K4 n r++r.Text.dropLast] else [K4 n r++r.Text,noNl]
def S2 (n:Nat) (r:Row):List Str:=if ended r.Text=true then [K4 n r++r.Text] else [K4 n r++r.Text,markS]
def X1 (n:Nat) (h:CHunk):List Str:=S0 n h::(h.Rows.map (X6 n)).flatten
def M2 (n:Nat) (h:CHunk):List Str:=(S0 n h++[10])::(h.Rows.map (S2 n)).flatten
def ccS:Str:=[100,105,102,102,32,45,45,99,99,32]
def combS:Str:=[100,105,102,102,32,45,45,99,111,109,98,105,110,101,100,32]
def parS:Str:=[112,97,114,101,110,116,115,32]
def W1 (d:Bool):Str:=if d=true then ccS else combS
def A31 (c:Comb):List Str:=(W1 c.Dense++H6 c.Path)::(parS++I4 c.Parents)::(c.Hunks.map (X1 c.Parents.toNat)).flatten
def G29 (c:Comb):List Str:=(W1 c.Dense++H6 c.Path++[10])::(parS++I4 c.Parents++[10])::(c.Hunks.map (M2 c.Parents.toNat)).flatten
def O3 (c:Comb):Str:=(G29 c).flatten
theorem H78 (n:Nat) (r:Row):R0 (X6 n r)=(S2 n r).flatten:=by
 unfold X6 S2
 by_cases h:ended r.Text=true
 ·rw [if_pos h,if_pos h]
  obtain ⟨a,ha⟩:=ended_iff.1 h
  rw [ha];unfold R0;simp
 ·rw [if_neg h,if_neg h,J33];unfold R0;simp
theorem H08 (n:Nat) (rs:List Row):R0 ((rs.map (X6 n)).flatten)=((rs.map (S2 n)).flatten).flatten:=by
 induction rs with
 | nil=>rfl
 | cons x r ih=>simp only [J85,J91,E68,ih,H78,K04]
theorem G30 (n:Nat) (h:CHunk):R0 (X1 n h)=(M2 n h).flatten:=by
 unfold X1 M2
 rw [B72,H08,J91]
theorem H09 (c:Comb):R0 (A31 c)=O3 c:=by
 unfold A31 O3 G29
 rw [B72,B72]
 have h:∀(n:Nat) (hs:List CHunk),R0 ((hs.map (X1 n)).flatten)=((hs.map (M2 n)).flatten).flatten:=by
  intro n hs
  induction hs with
  | nil=>rfl
  | cons x r ih=>simp only [J85,J91,E68,ih,G30,K04]
 rw [h];simp
def A64 (n:Nat) (ends:List Int) (h:CHunk):Bool:=decide (h.At.length=n+1∧h.Rows≠[])&&(List.range (n+1)).all fun k=>decide ((ends.getD k 0≤h.At.getD k 0∧h.At.getD k 0≤4096)∧h.At.getD k 0+M3 h.Rows n k≤4096)
def W2 (n:Nat) (h:CHunk):List Int:=(List.range (n+1)).map fun k=>h.At.getD k 0+M3 h.Rows n k
def X7 (n:Nat) (ends:List Int):List CHunk→Bool
 | []=>true
 | h::r=>A64 n ends h&&X7 n (W2 n h) r
def K0 (hs:List CHunk):List Row:=(hs.map (·.Rows)).flatten
def Q6 (n:Nat) (hs:List CHunk):Bool:=X7 n (List.replicate (n+1) 0) hs&&s6 (K0 hs) n
def Y3 (n:Nat) (hs:List CHunk):Bool:=hs.all fun h=>N7 h.Rows n
def G8 (c:Comb):Int:=if V9 c.Path=false then 120 else if c.Parents < 1∨32 < c.Parents then 2 else if Y3 c.Parents.toNat c.Hunks=false then 180 else if Q6 c.Parents.toNat c.Hunks=false then 121 else if 16777216 < (O3 c).length then 1 else 0
theorem B22 {n:Nat} {r:Row} (h:U7 n r=true):0≤r.Marks∧r.Marks < 2 ^ n∧(r.Lost=true→r.Marks≠0):=by
 unfold U7 at h
 simp only [J80,beq_iff_eq,Bool.not_eq_true',Bool.and_eq_false_iff,beq_eq_false_iff_ne] at h
 obtain ⟨h1,h2⟩:=h
 have hp:(0:Int) < 2 ^ n:=Int.pow_pos (by decide)
 have h3:=Int.emod_add_mul_ediv r.Marks (2 ^ n)
 have h4:=Int.emod_nonneg r.Marks (Int.ne_of_gt hp)
 have h5:=Int.emod_lt_of_pos r.Marks hp
 rw [h1,Int.mul_zero,Int.add_zero] at h3
 rw [h3] at h4 h5
 refine ⟨h4,h5,fun hl=>?_⟩
 rcases h2 with h2 | h2
 ·rw [hl] at h2;cases h2
 ·exact h2
theorem pow32 {n:Nat} (h:n≤32):(2:Int) ^ n≤4294967296:=by
 have h1:(2:Nat) ^ n≤2 ^ 32:=Nat.pow_le_pow_right (by omega) h
 have h2:((2 ^ n:Nat):Int)=2 ^ n:=by simp
 have h3:(2:Nat) ^ 32=4294967296:=rfl
 omega
theorem J36 {n:Nat} (hn:n≤32) {rows:List Row} (h:N7 rows n=true):I9 rows:=by
 intro r hr
 have h1:=B22 (List.all_eq_true.1 h r hr)
 have:=pow32 hn
 omega
def Z7 (n:Nat) (ends:List Int) (h:CHunk):Bool:=decide (h.At.length=n+1∧h.Rows≠[])&&(List.range (n+1)).all fun k=>decide (ends.getD k 0≤h.At.getD k 0∧h.At.getD k 0≤4096)
def s8 (res:Bool) (rows:List Row):Bool:=rows.foldl B64 res
def s9 (par:Int) (rows:List Row):Int:=rows.foldl B65 par
def t7 (n:Nat) (ends:List Int) (res:Bool) (par:Int):List CHunk→Bool
 | []=>decide (∀e∈ends,e≤4096)
 | h::r=>Z7 n ends h&&(V7 res par h.Rows&&t7 n (W2 n h) (s8 res h.Rows) (s9 par h.Rows) r)
theorem E69:∀(a b:List Row) (res:Bool) (par:Int),V7 res par (a++b)=(V7 res par a&&V7 (s8 res a) (s9 par a) b)
 | [],b,res,par=>by simp [V7,s8,s9]
 | x::a,b,res,par=>by
  rw [K08,V7,V7,E69 a b]
  simp only [s8,s9,K16,Bool.and_assoc]
theorem A32 (f:Nat→Int) (n k:Nat) (h:k < n):((List.range n).map f).getD k 0=f k:=by
 rw [J82,K11,K14 h];rfl
theorem E70 {n:Nat} {ends:List Int} (hl:ends.length=n+1):(∀e∈ends,e≤4096)↔∀k,k < n+1→ends.getD k 0≤4096:=by
 constructor
 ·intro h k hk
  rw [J82,J79 (by omega)]
  exact h _ (J96 _)
 ·intro h e he
  obtain ⟨k,hk,rfl⟩:=List.getElem_of_mem he
  have:=h k (by omega)
  rwa [J82,J79 hk] at this
theorem B23 (n:Nat) (h:CHunk):(W2 n h).length=n+1:=by unfold W2;simp
theorem D80 (n:Nat):∀(hs:List CHunk) (ends:List Int) (res:Bool) (par:Int),ends.length=n+1 →
  t7 n ends res par hs=(decide (∀e∈ends,e≤4096)&&X7 n ends hs&&V7 res par (K0 hs))
 | [],ends,res,par,_=>by simp [t7,X7,K0,V7]
 | h::r,ends,res,par,hl=>by
  have ih:=D80 n r (W2 n h) (s8 res h.Rows) (s9 par h.Rows) (B23 n h)
  have e1:K0 (h::r)=h.Rows++K0 r:=by simp [K0]
  rw [t7,ih,X7,e1,E69]
  have e2:(Z7 n ends h&&decide (∀e∈W2 n h,e≤4096))=(decide (∀e∈ends,e≤4096)&&A64 n ends h):=by
   rw [Bool.eq_iff_iff]
   unfold Z7 A64
   simp only [J80,decide_eq_true_eq,List.all_eq_true,List.mem_range]
   rw [E70 hl,E70 (B23 n h)]
   have e3:∀k,k < n+1→(W2 n h).getD k 0=h.At.getD k 0+M3 h.Rows n k:=fun k hk=>A32 _ _ _ hk
   constructor
   ·rintro ⟨⟨h1,h2⟩,h3⟩
    exact ⟨fun k hk=>by have:=h2 k hk;omega,h1,fun k hk=>⟨h2 k hk,by have:=h3 k hk;rwa [e3 k hk] at this⟩⟩
   ·rintro ⟨_,h2,h3⟩
    exact ⟨⟨h2,fun k hk=>(h3 k hk).1⟩,fun k hk=>by rw [e3 k hk];exact (h3 k hk).2⟩
  generalize Z7 n ends h=A at e2 ⊢
  generalize decide (∀e∈W2 n h,e≤4096)=B at e2 ⊢
  generalize decide (∀e∈ends,e≤4096)=C at e2 ⊢
  generalize A64 n ends h=D at e2 ⊢
  generalize V7 res par h.Rows=E
  generalize X7 n (W2 n h) r=F
  generalize V7 (s8 res h.Rows) (s9 par h.Rows) (K0 r)=G
  cases A<;>cases B<;>cases C<;>cases D<;>first | (cases e2;done) | (cases E<;>cases F<;>cases G<;>rfl)
theorem F73 {n:Nat} {hs:List CHunk} (h:Y3 n hs=true):N7 (K0 hs) n=true:=by
 unfold N7 K0
 rw [List.all_eq_true]
 intro r hr
 obtain ⟨l,h1,h2⟩:=List.mem_flatten.1 hr
 obtain ⟨x,hx,rfl⟩:=List.mem_map.1 h1
 exact List.all_eq_true.1 (List.all_eq_true.1 h x hx) r h2
theorem H10 {n:Nat} (hn:n≤32) {hs:List CHunk} (h:Y3 n hs=true):t7 n (List.replicate (n+1) 0) false 0 hs=Q6 n hs:=by
 rw [D80 n hs _ _ _ (List.length_replicate ..),H72 _ n hn (F73 h) (J36 hn (F73 h))]
 have:∀L:List Int,(∀e∈L,e≤4096)→decide (∀e∈L,e≤4096)=true:=fun L h=>decide_eq_true h
 rw [this _ (fun e he=>by have:=(List.mem_replicate.1 he).2;omega)];rfl
theorem D46 {n:Nat}:∀(hs:List CHunk) (ends:List Int),(∀k,k < n+1→0≤ends.getD k 0)→X7 n ends hs=true→∀h∈hs,h.At.length=n+1∧h.Rows≠[]∧∀k,k < n+1→0≤h.At.getD k 0∧h.At.getD k 0+M3 h.Rows n k≤4096
 | [],_,_,_,h,hm=>by cases hm
 | x::r,ends,he,hg,h,hm=>by
  rw [X7,J80] at hg
  obtain ⟨h1,h2⟩:=hg
  unfold A64 at h1
  simp only [J80,decide_eq_true_eq,List.all_eq_true,List.mem_range] at h1
  obtain ⟨⟨h3,h4⟩,h5⟩:=h1
  have hx:∀k,k < n+1→0≤x.At.getD k 0∧x.At.getD k 0+M3 x.Rows n k≤4096:=fun k hk=>by have:=h5 k hk;have:=he k hk;omega
  rcases List.mem_cons.1 hm with rfl | hm
  ·exact ⟨h3,h4,hx⟩
  ·refine D46 r _ (fun k hk=>?_) h2 h hm
   rw [show (W2 n x).getD k 0=x.At.getD k 0+M3 x.Rows n k from A32 _ _ _ hk]
   have:=hx k hk
   have:0≤M3 x.Rows n k:=by unfold M3;omega
   omega
structure CRead (n:Nat) (h:CHunk):Prop where
 len:h.At.length=n+1
 ne:h.Rows≠[]
 at0:∀k,k < n+1→0≤h.At.getD k 0∧h.At.getD k 0+M3 h.Rows n k≤4096
 rows:∀r∈h.Rows,U7 n r=true∧J1 r.Text=true
theorem A33 {c:Comb} (h:G8 c=0):(1≤c.Parents.toNat∧c.Parents.toNat≤32)∧c.Parents=(c.Parents.toNat:Int)∧(∀x∈c.Hunks,CRead c.Parents.toNat x)∧(O3 c).length≤16777216∧V9 c.Path=true:=by
 unfold G8 at h
 split at h
 ·cases h
 ·rename_i h0
  split at h
  ·cases h
  ·rename_i h1
   split at h
   ·cases h
   ·rename_i h2
    split at h
    ·cases h
    ·rename_i h3
     split at h
     ·cases h
     ·rename_i h4
      refine ⟨by omega,by omega,?_,by omega,by simpa using h0⟩
      intro x hx
      have h2:Y3 c.Parents.toNat c.Hunks=true:=by simpa using h2
      have h3:Q6 c.Parents.toNat c.Hunks=true:=by simpa using h3
      unfold Q6 at h3
      rw [J80] at h3
      obtain ⟨a1,a2,a3⟩:=D46 c.Hunks _ (fun k hk=>by rw [J82,List.getElem?_replicate_of_lt hk];exact Int.le_refl _) h3.1 x hx
      refine ⟨a1,a2,a3,fun r hr=>⟨List.all_eq_true.1 (List.all_eq_true.1 h2 x hx) r hr,?_⟩⟩
      have h5:=h3.2
      unfold s6 at h5
      rw [J80] at h5
      exact List.all_eq_true.1 h5.1 r (List.mem_flatten.2 ⟨x.Rows,List.mem_map.2 ⟨x,hx,rfl⟩,hr⟩)
def G3 (c:UInt8) (s:Str):Nat→Nat
 | 0=>0
 | k+1=>G3 c s k+if s.getD k 0=c then 2 ^ k else 0
def u5 (c:UInt8):Bool:=decide (c=32∨c=43∨c=45)
def rowAt (s:Str) (n:Nat):Option Row :=
 if n < 1∨32 < n∨s.length < n∨(s.take n).all u5=false∨(G3 43 s n≠0∧G3 45 s n≠0) then none
 else some ⟨decide (G3 45 s n≠0),((G3 43 s n+G3 45 s n:Nat):Int),s.drop n⟩
theorem E01 (c:UInt8) (s:Str):∀k,G3 c s k < 2 ^ k
 | 0=>by simp [G3]
 | k+1=>by
  have:=E01 c s k
  rw [G3,Nat.pow_succ]
  split<;>omega
theorem E71 {c d:UInt8} (h:c≠d) (s:Str):∀k,G3 c s k+G3 d s k < 2 ^ k
 | 0=>by simp [G3]
 | k+1=>by
  have:=E71 h s k
  rw [G3,G3,Nat.pow_succ]
  by_cases h1:s.getD k 0=c
  ·rw [if_pos h1,if_neg (fun e=>h (h1.symm.trans e))];omega
  ·rw [if_neg h1];split<;>omega
theorem T8 (n:Nat) (r:Row):(K4 n r).length=n:=by simp [K4]
theorem I84 (n:Nat) (r:Row) (t:Str) {k:Nat} (h:k < n):(K4 n r++t).getD k 0=n6 r k:=by
 rw [J82,J94 (by rw [T8];exact h)]
 unfold K4
 rw [K11,K14 h];rfl
theorem C39 (n:Nat) (r:Row):(K4 n r).all u5=true:=by
 rw [List.all_eq_true]
 intro c hc
 obtain ⟨p,_,rfl⟩:=List.mem_map.1 hc
 unfold n6
 split
 ·rfl
 ·split<;>rfl
theorem E72 {n m:Nat} {r:Row} (hm:r.Marks=(m:Int)) (t:Str):∀k,k≤n→G3 43 (K4 n r++t) k=(if r.Lost=true then 0 else m % 2 ^ k)∧G3 45 (K4 n r++t) k=(if r.Lost=true then m % 2 ^ k else 0)
 | 0,_=>by simp [G3,Nat.mod_one]
 | k+1,hk=>by
  obtain ⟨h1,h2⟩:=E72 (n:=n) hm t k (by omega)
  have hb:A46 r.Marks k=m.testBit k:=by rw [hm,B88]
  have h3:m % 2 ^ (k+1)=m % 2 ^ k+2 ^ k*(m / 2 ^ k % 2):=Nat.mod_pow_succ
  have h4:m.testBit k=decide (m / 2 ^ k % 2=1):=Nat.testBit_eq_decide_div_mod_eq
  rw [G3,G3,h1,h2,I84 n r t (k:=k) (by omega)]
  unfold n6
  rw [hb,h4]
  by_cases h5:m / 2 ^ k % 2=1
  ·rw [h5] at h3
   cases hl:r.Lost<;>simp [h5,h3]
  ·have h6:m / 2 ^ k % 2=0:=by omega
   rw [h6] at h3
   cases hl:r.Lost<;>simp [h6,h3]
theorem E73 {n:Nat} {r:Row} (hn:1≤n∧n≤32) (h:U7 n r=true) (t:Str):rowAt (K4 n r++t) n=some ⟨r.Lost,r.Marks,t⟩:=by
 obtain ⟨h1,h2,h3⟩:=B22 h
 obtain ⟨m,hm⟩:∃m:Nat,r.Marks=m:=⟨r.Marks.toNat,by omega⟩
 obtain ⟨h4,h5⟩:=E72 hm t n (Nat.le_refl _)
 have hmn:m < 2 ^ n:=by
  have e:((2 ^ n:Nat):Int)=2 ^ n:=by simp
  omega
 rw [Nat.mod_eq_of_lt hmn] at h4 h5
 have ht:(K4 n r++t).take n=K4 n r:=by rw [List.take_append_of_le_length (by rw [T8];omega),K17 (by rw [T8];omega)]
 have hd:(K4 n r++t).drop n=t:=by
  have:=List.drop_left (l₁:=K4 n r) (l₂:=t)
  rwa [T8] at this
 cases hl:r.Lost
 ·rw [hl,if_neg (by decide)] at h4 h5
  unfold rowAt
  rw [ht,hd,h4,h5,C39,J77,T8,if_neg (by simp;omega),hm];simp
 ·have h6:m≠0:=fun e=>h3 hl (by omega)
  rw [hl,if_pos rfl] at h4 h5
  unfold rowAt
  rw [ht,hd,h4,h5,C39,J77,T8,if_neg (by simp;omega),hm];simp [h6]
theorem H79 {x:Str} {n:Nat} {r:Row} (h:rowAt (x++[10]) n=some r):r.Text=x.drop n++[10]∧n≤x.length:=by
 unfold rowAt at h
 split at h
 ·cases h
 ·rename_i h1
  simp only [not_or,Nat.not_lt] at h1
  obtain ⟨a1,a2,a3,a4,a5⟩:=h1
  have a4:((x++[10]).take n).all u5=true:=by simpa using a4
  have hle:n≤x.length:=by
   refine Decidable.byContradiction fun hc=>?_
   rw [J77] at a3
   simp only [J78,J81] at a3
   have hn:n=x.length+1:=by omega
   rw [K17 (by simp;omega)] at a4
   have:=List.all_eq_true.1 a4 10 (by simp)
   revert this;decide
  cases h
  refine ⟨?_,hle⟩
  rw [List.drop_append_of_le_length hle]
def N5 (c:UInt8):Str→List Str
 | []=>[[]]
 | x::r=>if x=c then []::N5 c r else match N5 c r with
  | []=>[[x]]
  | a::b=>(x::a)::b
theorem I85 (c:UInt8):∀s,N5 c s≠[]
 | []=>by simp [N5]
 | x::r=>by
  unfold N5
  split
  ·simp
  ·split<;>simp
theorem B73 {c:UInt8}:∀{a:Str},c∉a→N5 c a=[a]
 | [],_=>rfl
 | x::r,h=>by
  simp only [K06,not_or] at h
  unfold N5
  rw [if_neg (fun e=>h.1 e.symm),B73 h.2]
theorem C40 {c:UInt8} (b:Str):∀{a:Str},c∉a→N5 c (a++c::b)=a::N5 c b
 | [],_=>by
  show N5 c (c::b)=_
  rw [N5,if_pos rfl]
 | x::r,h=>by
  simp only [K06,not_or] at h
  rw [K08,N5,if_neg (fun e=>h.1 e.symm),C40 b h.2]
theorem u0 (c:UInt8):∀s,(N5 c s).length=s.count c+1
 | []=>rfl
 | x::r=>by
  have ih:=u0 c r
  unfold N5
  by_cases h:x=c
  ·rw [if_pos h,J78,ih,List.count_cons,if_pos (by simp [h])]
  ·rw [if_neg h,List.count_cons,if_neg (by simp [h])]
   split
   ·rename_i e;exact absurd e (I85 c r)
   ·rename_i a b e;rw [e] at ih;simpa using ih
def Q1 (n:Nat):Nat→List Str→Option (List Int)
 | _,[]=>some []
 | k,w::r=>if w.take 1=[L8 n k] then (match P2 (w.drop 1) with
  | some (a,_,e)=>if e=(w.drop 1).length then (Q1 n (k+1) r).map (a::·) else none
  | none=>none) else none
def A83 (n:Nat):Str:=[32]++atS (n+1)
def D02 (n:Nat):Str:=atS (n+1)++[32]
def S8 (s p:Str):Bool:=decide (p.length≤s.length∧s.drop (s.length - p.length)=p)
def A34 (n:Nat) (l:Str):Option (List Int) :=
 if l.take (n+2)=D02 n∧S8 (l.drop (n+2)) (A83 n)=true then
  (match Q1 n 0 (N5 32 ((l.drop (n+2)).take ((l.drop (n+2)).length - (n+2)))) with
   | some a=>if a.length=n+1 then some a else none
   | none=>none)
 else none
def R2 (n:Nat) (l:Str):Nat→Nat→Nat→Option (List Int × List Int)
 | 0,_,_=>some ([],[])
 | m+1,k,i=>match T6 l i [32,L8 n k] with
  | none=>none
  | some (a,c,j)=>(R2 n l m (k+1) j).map fun q=>(a::q.1,c::q.2)
def A84 (n:Nat) (l:Str):Option (List Int × List Int):=R2 n l (n+1) 0 (l.takeWhile (fun c=>decide (c=64))).length
theorem H11 {d:UInt8} (hd:d=10∨d=32) (a n:Int):d∉G4 a n:=by
 have hf:∀n:Int,d∉I4 n:=by
  intro n
  by_cases h:n < 0∨2147483647 < n
  ·unfold I4;rw [if_pos h];simp
  ·rw [D00 (by omega) (by omega)]
   intro h
   have:=(C38 n.toNat).1 _ h
   rcases hd with rfl | rfl<;>(revert this;decide)
 have h1:=hf a;have h2:=hf (a+1);have h3:=hf n
 have h4:d≠44:=by rcases hd with rfl | rfl<;>decide
 have h5:d≠48:=by rcases hd with rfl | rfl<;>decide
 unfold G4
 split
 ·simp
 ·split
  ·simp [h1,h4,h5]
  ·split
   ·exact h2
   ·simp [h2,h3,h4]
theorem sgn_ne (n k:Nat):(32:UInt8)≠L8 n k∧(10:UInt8)≠L8 n k:=by unfold L8;split<;>decide
def D81 (n:Nat) (h:CHunk) (k:Nat):Str:=L8 n k::G4 (h.At.getD k 0) (M3 h.Rows n k)
theorem H12 (n:Nat) (h:CHunk) (k:Nat):(32:UInt8)∉D81 n h k:=by
 unfold D81
 simp only [K06,not_or]
 exact ⟨(sgn_ne n k).1,H11 (.inr rfl) _ _⟩
theorem B93 (n:Nat) (h:CHunk) (k:Nat):A52 n h k=32::D81 n h k:=rfl
def Q7 (n:Nat) (h:CHunk):Nat→Nat→Str
 | 0,_=>[]
 | m+1,k=>A52 n h k++Q7 n h m (k+1)
theorem H13 (n:Nat) (h:CHunk):∀(m k:Nat),Q7 n h m k=((List.range' k m).map (A52 n h)).flatten
 | 0,_=>rfl
 | m+1,k=>by rw [Q7,H13 n h m (k+1),List.range'_succ];simp
theorem E74 (n:Nat) (h:CHunk) (m:Nat):R1 n h m=Q7 n h m 0:=by
 unfold R1;rw [H13,List.range_eq_range']
theorem F74 (n:Nat) (h:CHunk):∀(m k:Nat),N5 32 (Q7 n h (m+1) k).tail=(List.range' k (m+1)).map (D81 n h)
 | 0,k=>by
  rw [Q7,Q7,K02,B93,List.tail_cons,B73 (H12 n h k)];rfl
 | m+1,k=>by
  have ih:=F74 n h m (k+1)
  have e:Q7 n h (m+1+1) k=32::(D81 n h k++32::(Q7 n h (m+1) (k+1)).tail):=by
   rw [Q7,B93]
   have:Q7 n h (m+1) (k+1)=32::(Q7 n h (m+1) (k+1)).tail:=by rw [Q7,B93];rfl
   conv=>lhs;rw [this]
   rfl
  rw [e,List.tail_cons,C40 _ (H12 n h k),ih,List.range'_succ (n:=m+1)];rfl
theorem B74 {l:List Int} {k:Nat} (h:k < l.length):l.drop k=l.getD k 0::l.drop (k+1):=by
 rw [J84 h,J82,J79 h];rfl
theorem E75 {n:Nat} {h:CHunk} (hl:h.At.length=n+1) (ha:∀k,k < n+1→0≤h.At.getD k 0∧h.At.getD k 0+M3 h.Rows n k≤4096):∀(m k:Nat),k+m=n+1→Q1 n k ((List.range' k m).map (D81 n h))=some (h.At.drop k)
 | 0,k,hk=>by
  have:h.At.drop k=[]:=J87 (by omega)
  rw [this];rfl
 | m+1,k,hk=>by
  have ih:=E75 hl ha m (k+1) (by omega)
  obtain ⟨a1,a2⟩:=ha k (by omega)
  have hc:0≤M3 h.Rows n k:=by unfold M3;omega
  have hr:=F71 (t:=[]) a1 hc (by omega) (by omega) (by intro c hc;cases hc)
  rw [K02] at hr
  rw [List.range'_succ,J85,Q1]
  have e1:(D81 n h k).take 1=[L8 n k]:=rfl
  have e2:(D81 n h k).drop 1=G4 (h.At.getD k 0) (M3 h.Rows n k):=rfl
  rw [if_pos e1,e2,hr]
  dsimp only
  rw [if_pos rfl,ih,B74 (l:=h.At) (k:=k) (by omega)];rfl
theorem j9 (n:Nat):(atS n).length=n:=by simp [atS]
theorem H80 {n:Nat} {h:CHunk} (hr:CRead n h):A34 n (S0 n h)=some h.At:=by
 have hj:Q7 n h (n+1) 0=32::(Q7 n h (n+1) 0).tail:=by rw [Q7,B93];rfl
 obtain ⟨T,hT⟩:∃T,T=(Q7 n h (n+1) 0).tail:=⟨_,rfl⟩
 have e:S0 n h=D02 n++(T++A83 n):=by
  unfold S0 D02 A83
  rw [E74,hj,←hT];simp
 have hp:(D02 n).length=n+2:=by simp [D02,j9]
 have hs:(A83 n).length=n+2:=by simp [A83,j9]
 have t1:(S0 n h).take (n+2)=D02 n:=by rw [e,←hp,List.take_left]
 have d1:(S0 n h).drop (n+2)=T++A83 n:=by rw [e,←hp,List.drop_left]
 have l1:(T++A83 n).length - (n+2)=T.length:=by rw [J77,hs];omega
 unfold A34
 rw [t1,d1,if_pos ⟨rfl,by unfold S8;rw [hs,l1,List.drop_left];simp [hs]⟩,l1,List.take_left,hT,F74,E75 hr.len hr.at0 (n+1) 0 (by omega)]
 dsimp only
 rw [List.drop_zero,if_pos hr.len]
theorem E76 {n:Nat} {h:CHunk} (hl:h.At.length=n+1) (ha:∀k,k < n+1→0≤h.At.getD k 0∧h.At.getD k 0+M3 h.Rows n k≤4096) (tail:Str) (ht:tail=A83 n):∀(m k:Nat) (pre:Str),k+m=n+1 →
  R2 n (pre++(Q7 n h m k++tail)) m k pre.length=some (h.At.drop k,(List.range' k m).map (M3 h.Rows n))
 | 0,k,pre,hk=>by
  have:h.At.drop k=[]:=J87 (by omega)
  rw [this];rfl
 | m+1,k,pre,hk=>by
  obtain ⟨a1,a2⟩:=ha k (by omega)
  have hc:0≤M3 h.Rows n k:=by unfold M3;omega
  obtain ⟨R,hR⟩:∃R,R=G4 (h.At.getD k 0) (M3 h.Rows n k):=⟨_,rfl⟩
  have hh:∀c,(Q7 n h m (k+1)++tail).head?=some c→Z6 c=false∧c≠44:=by
   intro c hc
   have:c=32:=by
    cases m with
    | zero=>rw [Q7,ht] at hc;simpa [A83] using hc.symm
    | succ m=>rw [Q7,B93] at hc;simpa using hc.symm
   rw [this];decide
  have hr:=F71 (t:=Q7 n h m (k+1)++tail) a1 hc (by omega) (by omega) hh
  have e:pre++(Q7 n h (m+1) k++tail)=(pre++([32,L8 n k]++R))++(Q7 n h m (k+1)++tail):=by
   rw [Q7,hR];simp [A52]
  have ih:=E76 hl ha tail ht m (k+1) (pre++([32,L8 n k]++R)) (by omega)
  rw [←e] at ih
  have d1:(pre++(Q7 n h (m+1) k++tail)).drop pre.length=[32,L8 n k]++(R++(Q7 n h m (k+1)++tail)):=by
   rw [List.drop_left,Q7,hR];simp [A52]
  have d2:(pre++(Q7 n h (m+1) k++tail)).drop (pre.length+2)=R++(Q7 n h m (k+1)++tail):=by rw [←List.drop_drop,d1];rfl
  have hsp:T6 (pre++(Q7 n h (m+1) k++tail)) pre.length [32,L8 n k]=some (h.At.getD k 0,M3 h.Rows n k,pre.length+2+R.length):=by
   unfold T6
   simp only [J78,J81,Nat.zero_add,Nat.reduceAdd]
   rw [if_pos (by rw [d1];rfl),d2,hR,hr]
  rw [R2,hsp]
  dsimp only
  have hlen:(pre++([32,L8 n k]++R)).length=pre.length+2+R.length:=by simp;omega
  rw [hlen] at ih
  rw [ih,List.range'_succ,B74 (l:=h.At) (k:=k) (by omega)];rfl
theorem H81 {n:Nat} {h:CHunk} (hr:CRead n h):A84 n (S0 n h)=some (h.At,K6 h.Rows n):=by
 have e:S0 n h=atS (n+1)++(Q7 n h (n+1) 0++A83 n):=by unfold S0 A83;rw [E74];simp
 have ht:(S0 n h).takeWhile (fun c=>decide (c=64))=atS (n+1):=by
  rw [e,List.takeWhile_append_of_pos (by intro c hc;have:=(List.mem_replicate.1 hc).2;simpa using this),Q7,B93]
  simp
 unfold A84
 rw [ht,e,E76 hr.len hr.at0 (A83 n) rfl (n+1) 0 (atS (n+1)) (by omega)]
 unfold K6
 rw [List.range_eq_range',List.drop_zero]
end Go.AL
namespace Go.AL
open Go
def u1 (a:Str):Option (Bool × Str):=if a.take 10=ccS then some (true,a.drop 10) else if a.take 16=combS then some (false,a.drop 16) else none
def R3 (q:Bool) (a b:Str):Option (Bool × Str × Int) :=
 match u1 a with
 | none=>none
 | some (d,x)=>if b.take 8=parS then (match Q9 x,Q0 (b.drop 8) with
  | some (w,e),some (n,e2)=>if (q=true→e=x.length∧e2=(b.drop 8).length)∧1≤n∧n≤32 then some (d,w,(n:Int)) else none
  | _,_=>none) else none
theorem E77 (q d:Bool) (p:Str) (n:Int) (hn:1≤n∧n≤32):R3 q (W1 d++H6 p) (parS++I4 n)=some (d,p,n):=by
 have hk:u1 (W1 d++H6 p)=some (d,H6 p):=by
  cases d
  ·have h2:(combS++H6 p).take 16=combS:=rfl
   have h1:(combS++H6 p).take 10≠ccS:=by
    intro h
    have:=congrArg (fun l=>l[8]?) h
    revert this
    show ¬(some (111:UInt8)=some 99)
    decide
   show u1 (combS++H6 p)=_
   unfold u1
   rw [if_neg h1,if_pos h2];rfl
  ·show u1 (ccS++H6 p)=_
   have h2:(ccS++H6 p).take 10=ccS:=rfl
   unfold u1
   rw [if_pos h2];rfl
 have hf:=B92 (n:=n) (t:=[]) (by omega) (by omega) (by intro c hc;cases hc)
 rw [K02] at hf
 have h8:(parS++I4 n).take 8=parS:=rfl
 have d8:(parS++I4 n).drop 8=I4 n:=rfl
 unfold R3
 rw [hk]
 dsimp only
 rw [if_pos h8,d8,H76,hf]
 dsimp only
 rw [if_pos ⟨fun _=>⟨rfl,rfl⟩,by omega,by omega⟩,show ((n.toNat:Nat):Int)=n by omega]
def G31 (hs:List CHunk) (r:Row):Option (List CHunk):=match hs.getLast? with
 | none=>none
 | some h=>some (hs.dropLast++[⟨h.At,h.Rows++[r]⟩])
def E78 (hs:List CHunk):Option (List CHunk):=match hs.getLast? with
 | none=>none
 | some h=>match h.Rows.getLast? with
  | none=>none
  | some r=>some (hs.dropLast++[⟨h.At,h.Rows.dropLast++[⟨r.Lost,r.Marks,A00 r.Text⟩]⟩])
def W3 (n:Nat) (hs:List CHunk) (l:Str):Option (List CHunk) :=
 if l.take 1=[64] then (match A34 n l with | none=>none | some a=>some (hs++[⟨a,[]⟩]))
 else if hs=[] then none
 else if l=noNl then E78 hs
 else match rowAt (l++[10]) n with
  | none=>none
  | some r=>G31 hs r
def Z8 (n:Nat) (hs:List CHunk):List Str→Option (List CHunk)
 | []=>some hs
 | x::r=>match W3 n hs x with
  | none=>none
  | some g=>Z8 n g r
def O4 (l:List Str):Option Comb:=match l with
 | a::b::r=>(match R3 true a b with
  | some (d,p,n)=>(match Z8 n.toNat [] r with | some hs=>some ⟨p,d,n,hs⟩ | none=>none)
  | none=>none)
 | _=>none
theorem H14 {n:Nat} (r:Row) (hn:1≤n) (t:Str):∃s,K4 n r++t=n6 r 0::s:=by
 obtain ⟨m,rfl⟩:∃m,n=m+1:=⟨n - 1,by omega⟩
 unfold K4
 rw [List.range_succ_eq_map]
 exact ⟨_,rfl⟩
theorem H15 (r:Row) (p:Nat):n6 r p≠64∧n6 r p≠92∧n6 r p≠10:=by unfold n6;split;decide;split<;>decide
theorem J37 {n:Nat} (hn:1≤n∧n≤32) (hs:List CHunk) (a:List Int) (rs:List Row) (r:Row) (rest:List Str) (hg:U7 n r=true):Z8 n (hs++[⟨a,rs⟩]) (X6 n r++rest)=Z8 n (hs++[⟨a,rs++[r]⟩]) rest:=by
 have hadd:∀t:Str,W3 n (hs++[⟨a,rs⟩]) (K4 n r++t)=some (hs++[⟨a,rs++[⟨r.Lost,r.Marks,t++[10]⟩]⟩]):=by
  intro t
  obtain ⟨s,e⟩:=H14 r hn.1 t
  have hb:=H15 r 0
  unfold W3
  rw [if_neg (by rw [e];simpa using hb.1),if_neg (by simp),if_neg (by rw [e];intro h;injection h with h;exact hb.2.1 h),J89,E73 hn hg]
  unfold G31;simp
 unfold X6
 split
 ·rename_i he
  obtain ⟨x,hx⟩:=ended_iff.1 he
  rw [K08,K07,Z8,hadd]
  dsimp only
  rw [hx,List.dropLast_concat,←hx]
 ·rename_i he
  rw [K08,Z8,hadd]
  dsimp only
  have h2:W3 n (hs++[⟨a,rs++[⟨r.Lost,r.Marks,r.Text++[10]⟩]⟩]) noNl=some (hs++[⟨a,rs++[r]⟩]):=by
   unfold W3
   rw [if_neg (by decide),if_neg (by simp),if_pos rfl]
   unfold E78
   simp only [List.getLast?_append,List.getLast?_singleton,Option.some_or,List.dropLast_concat]
   unfold A00
   rw [if_pos (D45 _),List.dropLast_concat]
  rw [K08,K07,Z8,h2]
theorem F75 {n:Nat} (hn:1≤n∧n≤32) (hs:List CHunk) (a:List Int):∀(xs rs:List Row) (rest:List Str),(∀r∈xs,U7 n r=true)→Z8 n (hs++[⟨a,rs⟩]) ((xs.map (X6 n)).flatten++rest)=Z8 n (hs++[⟨a,rs++xs⟩]) rest
 | [],rs,rest,_=>by simp
 | x::r,rs,rest,hg=>by
  rw [J85,J91,J89,J37 hn _ _ _ _ _ (hg x (by simp)),F75 hn hs a r _ _ (fun y hy=>hg y (by simp [hy])),J89];rfl
theorem H16 (n:Nat) (h:CHunk):(S0 n h).take 1=[64]:=by
 unfold S0 atS
 rw [List.replicate_succ];rfl
theorem D82 {n:Nat} (hn:1≤n∧n≤32):∀(xs hs:List CHunk),(∀h∈xs,CRead n h)→Z8 n hs ((xs.map (X1 n)).flatten)=some (hs++xs)
 | [],hs,_=>by simp [Z8]
 | h::r,hs,hg=>by
  have h1:=hg h (by simp)
  have e:((h::r).map (X1 n)).flatten=S0 n h::((h.Rows.map (X6 n)).flatten++(r.map (X1 n)).flatten):=by simp [X1]
  have hs1:W3 n hs (S0 n h)=some (hs++[⟨h.At,[]⟩]):=by
   unfold W3
   rw [if_pos (H16 n h),H80 h1]
  rw [e,Z8,hs1]
  dsimp only
  rw [F75 hn _ _ _ _ _ (fun x hx=>(h1.rows x hx).1),K07,D82 hn r _ (fun x hx=>hg x (by simp [hx])),J89];rfl
theorem D83 {c:Comb} (h:G8 c=0):O4 (A31 c)=some c:=by
 obtain ⟨h1,h2,h3,_⟩:=A33 h
 unfold O4 A31
 dsimp only
 rw [E77 true _ _ _ (by omega)]
 dsimp only
 rw [D82 h1 c.Hunks [] h3]
 rfl
def A35 (cs:List Int):Bool:=cs.any fun c=>decide (0 < c)
def u6 (n:Nat) (r:Row) (cs:List Int):List Int:=(List.range (n+1)).map fun k=>cs.getD k 0 - if U4 r (L0 n k)=true then 1 else 0
def W4 (n:Nat) (l:List Str) (i:Nat) (cs:List Int) (acc:List Row):Option (List Row × Nat) :=
 if A35 cs=true then
  if h:i < l.length then
   match rowAt (l[i]++[10]) n with
   | none=>none
   | some r=>if l[i+1]?=some noNl then W4 n l (i+2) (u6 n r cs) (acc++[⟨r.Lost,r.Marks,r.Text.dropLast⟩])
    else W4 n l (i+1) (u6 n r cs) (acc++[r])
  else none
 else some (acc,i)
termination_by l.length - i
decreasing_by all_goals omega
def Q2 (n:Nat) (l:List Str) (i:Nat) (hs:List CHunk):Option (List CHunk) :=
 if h:i < l.length then
  match A84 n l[i] with
  | none=>none
  | some (a,cs)=>match W4 n l (i+1) cs [] with
   | none=>none
   | some (rs,j)=>Q2 n l (max j (i+1)) (hs++[⟨a,rs⟩])
 else some hs
termination_by l.length - i
decreasing_by all_goals omega
def u7 (l:List Str):Option Comb:=match l with
 | a::b::_=>(match R3 false a b with
  | some (d,p,n)=>(match Q2 n.toNat l 2 [] with | some hs=>some ⟨p,d,n,hs⟩ | none=>none)
  | none=>none)
 | _=>none
theorem H17 (n k:Nat) (x:Row) (r:List Row):M3 (x::r) n k=(if U4 x (L0 n k)=true then 1 else 0)+M3 r n k:=by
 unfold M3
 rw [B11]
 split
 ·rw [J78];omega
 ·omega
theorem D84 (n:Nat) (x:Row) (r:List Row):u6 n x (K6 (x::r) n)=K6 r n:=by
 unfold u6 K6
 refine List.map_congr_left fun k hk=>?_
 rw [A32 _ _ _ (List.mem_range.1 hk),H17];omega
theorem J38 (n:Nat):A35 (K6 [] n)=false:=by
 unfold A35 K6
 rw [Bool.eq_false_iff]
 intro h
 obtain ⟨c,hc,h2⟩:=List.any_eq_true.1 h
 obtain ⟨k,_,rfl⟩:=List.mem_map.1 hc
 unfold M3 O5 at h2
 simp at h2
theorem J39 {n:Nat} (hn:1≤n∧n≤32) {x:Row} (h:U7 n x=true):∃k,k < n+1∧U4 x (L0 n k)=true:=by
 obtain ⟨h1,h2,h3⟩:=B22 h
 cases hl:x.Lost
 ·refine ⟨n,by omega,?_⟩
  unfold L0 U4
  rw [if_pos rfl,if_pos rfl,hl];rfl
 ·obtain ⟨m,hm⟩:∃m:Nat,x.Marks=m:=⟨x.Marks.toNat,by omega⟩
  have hm0:m≠0:=fun e=>h3 hl (by omega)
  have hmn:m < 2 ^ n:=by
   have e:((2 ^ n:Nat):Int)=2 ^ n:=by simp
   omega
  obtain ⟨k,hk⟩:∃k,m.testBit k=true:=by
   refine Classical.byContradiction fun hc=>hm0 (Nat.eq_of_testBit_eq fun k=>?_)
   rw [Nat.zero_testBit]
   cases hb:m.testBit k
   ·rfl
   ·exact absurd ⟨k,hb⟩ hc
  have hkn:k < n:=by
   refine Decidable.byContradiction fun hc=>?_
   rw [Nat.testBit_lt_two_pow (Nat.lt_of_lt_of_le hmn (Nat.pow_le_pow_right (by omega) (by omega)))] at hk
   cases hk
  refine ⟨k,by omega,?_⟩
  unfold L0 U4
  rw [if_neg (by omega),if_neg (by omega),if_neg (by omega),J83,hm,B88,hk,hl];rfl
theorem I86 {n:Nat} (hn:1≤n∧n≤32) {x:Row} (h:U7 n x=true) (r:List Row):A35 (K6 (x::r) n)=true:=by
 obtain ⟨k,hk,hv⟩:=J39 hn h
 unfold A35 K6
 rw [List.any_eq_true]
 refine ⟨_,List.mem_map.2 ⟨k,List.mem_range.2 hk,rfl⟩,?_⟩
 rw [H17,if_pos hv,decide_eq_true_eq]
 unfold M3;omega
theorem C41 {n:Nat} (hn:1≤n∧n≤32) (l:List Str):∀(xs acc:List Row) (i:Nat) (rest:List Str),(∀r∈xs,U7 n r=true)→l.drop i=(xs.map (X6 n)).flatten++rest→(∀t,rest.head?=some t→t≠noNl) →
  W4 n l i (K6 xs n) acc=some (acc++xs,i+((xs.map (X6 n)).flatten).length)
 | [],acc,i,rest,_,_,_=>by rw [W4,if_neg (by rw [J38];decide)];simp
 | x :: r,acc,i,rest,hg,hd,hr=>by
  have hgx:=hg x (by simp)
  have hgr:∀y∈r,U7 n y=true:=fun y hy=>hg y (by simp [hy])
  have hd2:l.drop i=X6 n x++((r.map (X6 n)).flatten++rest):=by rw [hd];simp
  have hno:∀(y:Row) (t:Str),K4 n y++t≠noNl:=by
   intro y t e
   obtain ⟨s,h⟩:=H14 y hn.1 t
   rw [h] at e
   injection e with e _
   exact (H15 y 0).2.1 e
  have hnext:∀t,((r.map (X6 n)).flatten++rest).head?=some t→t≠noNl:=by
   intro t ht
   cases r with
   | nil=>exact hr t (by simpa using ht)
   | cons y r' =>
    have:∃s,t=K4 n y++s:=by
     simp only [J85,J91] at ht
     unfold X6 at ht
     split at ht
     ·simp at ht;exact ⟨_,ht.symm⟩
     ·simp at ht;exact ⟨_,ht.symm⟩
    obtain ⟨s,rfl⟩:=this
    exact hno y s
  have hlen:∀j:Nat,(l.drop i)[j]?=l[i+j]?:=fun j=>by rw [J99]
  rw [W4,if_pos (I86 hn hgx r)]
  by_cases he:ended x.Text=true
  ·obtain ⟨a,ha⟩:=ended_iff.1 he
   have hL:X6 n x=[K4 n x++a]:=by unfold X6;rw [if_pos he,ha,List.dropLast_concat]
   have h0:l[i]?=some (K4 n x++a):=by have:=hlen 0;rw [hd2,hL] at this;simpa using this.symm
   have h1:l[i+1]?≠some noNl:=by
    have:=hlen 1
    rw [hd2,hL] at this
    intro e
    rw [e] at this
    have h2:((r.map (X6 n)).flatten++rest).head?=some noNl:=by rw [List.head?_eq_getElem?];simpa using this
    exact hnext _ h2 rfl
   obtain ⟨hi,h0'⟩:=List.getElem?_eq_some_iff.1 h0
   rw [dif_pos hi,h0',J89,E73 hn hgx]
   dsimp only
   rw [if_neg h1]
   have hdn:u6 n ⟨x.Lost,x.Marks,a++[10]⟩ (K6 (x::r) n)=K6 r n:=by rw [←ha];exact D84 n x r
   rw [hdn]
   have ih:=C41 hn l r (acc++[⟨x.Lost,x.Marks,a++[10]⟩]) (i+1) rest hgr (by rw [←List.drop_drop,hd2,hL];rfl) hr
   rw [ih]
   have ex:(⟨x.Lost,x.Marks,a++[10]⟩:Row)=x:=by rw [←ha]
   rw [ex,J85,J91,hL]
   simp;omega
  ·have hL:X6 n x=[K4 n x++x.Text,noNl]:=by unfold X6;rw [if_neg he]
   have h0:l[i]?=some (K4 n x++x.Text):=by have:=hlen 0;rw [hd2,hL] at this;simpa using this.symm
   have h1:l[i+1]?=some noNl:=by have:=hlen 1;rw [hd2,hL] at this;simpa using this.symm
   obtain ⟨hi,h0'⟩:=List.getElem?_eq_some_iff.1 h0
   rw [dif_pos hi,h0',J89,E73 hn hgx]
   dsimp only
   rw [if_pos h1,List.dropLast_concat]
   have hdn:u6 n ⟨x.Lost,x.Marks,x.Text++[10]⟩ (K6 (x::r) n)=K6 r n:=D84 n x r
   rw [hdn]
   have ih:=C41 hn l r (acc++[⟨x.Lost,x.Marks,x.Text⟩]) (i+2) rest hgr (by rw [←List.drop_drop,hd2,hL];rfl) hr
   rw [ih,J85,J91,hL]
   simp;omega
theorem D03 {n:Nat} (hn:1≤n∧n≤32) (l:List Str):∀(xs hs:List CHunk) (i:Nat),(∀h∈xs,CRead n h)→l.drop i=(xs.map (X1 n)).flatten→Q2 n l i hs=some (hs++xs)
 | [],hs,i,_,hd=>by
  have:l.length≤i:=by have:=congrArg List.length hd;simp at this;omega
  rw [Q2,dif_neg (by omega)];simp
 | h::r,hs,i,hg,hd=>by
  have h1:=hg h (by simp)
  have hd2:l.drop i=S0 n h::((h.Rows.map (X6 n)).flatten++(r.map (X1 n)).flatten):=by rw [hd];simp [X1]
  have h0:l[i]?=some (S0 n h):=by rw [←Nat.add_zero i,←J99,hd2];rfl
  obtain ⟨hi,h0'⟩:=List.getElem?_eq_some_iff.1 h0
  have hdr:l.drop (i+1)=(h.Rows.map (X6 n)).flatten++(r.map (X1 n)).flatten:=by rw [←List.drop_drop,hd2];rfl
  have hb:=C41 hn l h.Rows [] (i+1) ((r.map (X1 n)).flatten) (fun x hx=>(h1.rows x hx).1) hdr (by
   intro t ht
   cases r with
   | nil=>simp at ht
   | cons y r' =>
    simp [X1] at ht
    rw [←ht]
    intro e
    have h2:=H16 n y
    rw [e] at h2
    revert h2;decide)
  rw [Q2,dif_pos hi,h0',H81 h1]
  dsimp only
  rw [hb]
  dsimp only
  rw [show max (i+1+((h.Rows.map (X6 n)).flatten).length) (i+1)=i+1+((h.Rows.map (X6 n)).flatten).length by omega]
  rw [D03 hn l r _ _ (fun x hx=>hg x (by simp [hx])) (by rw [←List.drop_drop,hdr,List.drop_left])]
  rw [J89];rfl
theorem H82 {c:Comb} (h:G8 c=0):u7 (A31 c)=some c:=by
 obtain ⟨h1,h2,h3,_⟩:=A33 h
 have hh:=D03 h1 (A31 c) c.Hunks [] 2 h3 rfl
 unfold A31 at hh ⊢
 unfold u7
 dsimp only
 rw [E77 false _ _ _ (by omega)]
 dsimp only
 rw [hh]
 rfl
def M5 (f:List Str→Option Comb) (s:Str):Comb × Int :=
 if 16777216 < s.length then (comb0,1) else match c9 s with
 | none=>(comb0,4)
 | some l=>match f l with
  | none=>(comb0,4)
  | some p=>if G8 p≠0∨O3 p≠s then (comb0,4) else (p,0)
theorem I87 (n:Nat) (h:CHunk):(10:UInt8)∉S0 n h:=by
 have hw:(10:UInt8)∉R1 n h (n+1):=by
  unfold R1
  intro hm
  obtain ⟨l,h1,h2⟩:=List.mem_flatten.1 hm
  obtain ⟨k,_,rfl⟩:=List.mem_map.1 h1
  unfold A52 at h2
  simp only [K08,K07,K06] at h2
  rcases h2 with h2 | h2 | h2
  ·revert h2;decide
  ·exact (sgn_ne n k).2 h2
  ·exact H11 (.inl rfl) _ _ h2
 have ha:(10:UInt8)∉atS (n+1):=by unfold atS;intro h;have:=(List.mem_replicate.1 h).2;revert this;decide
 unfold S0
 simp [hw,ha]
theorem J40 {n:Nat} {r:Row} (hl:J1 r.Text=true):∀t∈X6 n r,(10:UInt8)∉t:=by
 have hm:(10:UInt8)∉K4 n r:=by
  intro h
  have:=List.all_eq_true.1 (C39 n r) _ h
  revert this;decide
 obtain ⟨hne,hd⟩:=(C34 _).1 hl
 intro t ht
 unfold X6 at ht
 split at ht
 ·simp only [K06,K05,or_false] at ht
  subst ht
  simp [hm,hd]
 ·rename_i he
  simp only [K06,K05,or_false] at ht
  rcases ht with rfl | rfl
  ·simp only [K28,not_or]
   refine ⟨hm,fun h10=>?_⟩
   rw [←List.dropLast_concat_getLast hne] at h10
   rcases List.mem_append.1 h10 with h10 | h10
   ·exact hd h10
   ·simp only [K06,K05,or_false] at h10
    refine he (ended_iff.2 ⟨r.Text.dropLast,?_⟩)
    conv=>lhs;rw [←List.dropLast_concat_getLast hne]
    rw [h10]
  ·decide
theorem I88 {c:Comb} (h:G8 c=0):∀t∈A31 c,(10:UInt8)∉t:=by
 obtain ⟨h1,h2,h3,_⟩:=A33 h
 intro t ht
 unfold A31 at ht
 rcases List.mem_cons.1 ht with rfl | ht
 ·have:=H77 c.Path
  have hk:(10:UInt8)∉W1 c.Dense:=by cases c.Dense<;>decide
  simp [this,hk]
 ·rcases List.mem_cons.1 ht with rfl | ht
  ·have:=J34 c.Parents
   have hk:(10:UInt8)∉parS:=by decide
   simp [this,hk]
  ·obtain ⟨l,hl1,hl2⟩:=List.mem_flatten.1 ht
   obtain ⟨x,hx,rfl⟩:=List.mem_map.1 hl1
   unfold X1 at hl2
   rcases List.mem_cons.1 hl2 with rfl | hl2
   ·exact I87 _ _
   ·obtain ⟨l2,h4,h5⟩:=List.mem_flatten.1 hl2
    obtain ⟨y,hy,rfl⟩:=List.mem_map.1 h4
    exact J40 ((h3 x hx).rows y hy).2 t h5
theorem D47 {f:List Str→Option Comb} (hf:∀p:Comb,G8 p=0→f (A31 p)=some p) {p:Comb} (hc:G8 p=0):M5 f (O3 p)=(p,0):=by
 have hl:c9 (O3 p)=some (A31 p):=by rw [←H09];exact H07 _ (I88 hc)
 obtain ⟨_,_,_,h4,_⟩:=A33 hc
 unfold M5
 rw [if_neg (by omega),hl]
 dsimp only
 rw [hf p hc]
 dsimp only
 rw [if_neg]
 simp [hc]
theorem F76 {f:List Str→Option Comb} {s:Str} (h:(M5 f s).2=0):G8 (M5 f s).1=0∧O3 (M5 f s).1=s:=by
 unfold M5 at h ⊢
 split at h
 ·cases h
 ·rename_i h1
  rw [if_neg h1]
  split at h
  ·cases h
  ·rename_i l hl
   split at h
   ·cases h
   ·rename_i p hp
    split at h
    ·cases h
    ·rename_i h2
     rw [if_neg h2]
     by_cases a:G8 p=0<;>by_cases b:O3 p=s<;>simp [a,b] at h2 ⊢
theorem C42 {f:List Str→Option Comb} {s:Str} (h:(M5 f s).2≠0):M5 f s=if 16777216 < s.length then (comb0,1) else (comb0,4):=by
 unfold M5 at h ⊢
 by_cases h1:16777216 < s.length
 ·rw [if_pos h1,if_pos h1]
 ·rw [if_neg h1] at h ⊢
  rw [if_neg h1]
  split
  ·rfl
  ·rename_i l hl
   rw [hl] at h
   dsimp only at h
   split
   ·rfl
   ·rename_i p hp
    rw [hp] at h
    dsimp only at h
    split
    ·rfl
    ·rename_i h2;rw [if_neg h2] at h;exact absurd rfl h
theorem I89 (s:Str):M5 O4 s=M5 u7 s:=by
 by_cases h1:(M5 O4 s).2=0
 ·obtain ⟨h2,h3⟩:=F76 h1
  have h4:=D47 (fun p hg=>H82 hg) h2
  rw [h3] at h4
  rw [h4]
  exact Prod.ext rfl h1
 ·by_cases h2:(M5 u7 s).2=0
  ·obtain ⟨h3,h4⟩:=F76 h2
   have h5:=D47 (fun p hg=>D83 hg) h3
   rw [h4] at h5
   rw [h5] at h1
   exact absurd rfl h1
  ·rw [C42 h1,C42 h2]
end Go.AL
namespace Go.AL
open Go
def N0 (r:Row):Nat:=r.Text.length+96
def A65 (h:CHunk):Nat:=2048+h.At.length+(h.Rows.map N0).sum
def szC (hs:List CHunk):Nat:=(hs.map A65).sum
theorem T9 (rows:List Row):rows.length*96≤(rows.map N0).sum:=by
 induction rows with
 | nil=>simp
 | cons x r ih=>simp only [J85,K03,J78,N0] at ih ⊢;omega
theorem B24 (rows:List Row):P0 rows≤(rows.map N0).sum:=by
 unfold P0
 induction rows with
 | nil=>simp
 | cons x r ih=>simp only [J85,J91,J77,K03,N0] at ih ⊢;omega
theorem B94 {rows:List Row} {r:Row} (h:r∈rows):N0 r≤(rows.map N0).sum:=by
 induction rows with
 | nil=>cases h
 | cons x l ih =>
  simp only [J85,K03]
  rcases List.mem_cons.1 h with rfl | h
  ·omega
  ·have:=ih h;omega
theorem A53 {hs:List CHunk} {h:CHunk} (hm:h∈hs):A65 h≤szC hs:=by
 unfold szC
 induction hs with
 | nil=>cases hm
 | cons x l ih =>
  simp only [J85,K03]
  rcases List.mem_cons.1 hm with rfl | hm
  ·omega
  ·have:=ih hm;omega
theorem A14 (hs:List CHunk):hs.length*2048≤szC hs:=by
 unfold szC
 induction hs with
 | nil=>simp
 | cons x l ih =>
  have h2:2048≤A65 x:=by unfold A65;exact Nat.le_trans (Nat.le_add_right _ _) (Nat.le_add_right _ _)
  rw [J85,K03,J78,K09,Nat.one_mul,Nat.add_comm]
  exact Nat.add_le_add h2 ih
theorem E79 (rows:List Row) (k:Nat):((rows.take k).map N0).sum≤(rows.map N0).sum:=by
 conv=>rhs;rw [←K18 k rows,J92,K15]
 omega
theorem E80 (hs:List CHunk) (k:Nat):szC (hs.take k)≤szC hs:=by
 unfold szC
 conv=>rhs;rw [←K18 k hs,J92,K15]
 omega
theorem D04 {l:List Int} {i:Nat} (h:i < l.length):l[i]?=some (l.getD i 0):=by simp [h]
theorem C43 (rows:List Row) (n k:Nat):0≤M3 rows n k∧M3 rows n k≤rows.length:=by
 have:=D36 rows (L0 n k)
 unfold M3;omega
theorem J41 (rows:List Row) (n k i:Nat) (h:i < rows.length):M3 (rows.take (i+1)) n k=M3 (rows.take i) n k+if U4 rows[i] (L0 n k)=true then 1 else 0:=by
 unfold M3 O5
 rw [J86 h,K30,J92,J77]
 by_cases hv:U4 rows[i] (L0 n k)=true<;>simp [hv]
def u9 (rows:List Row) (n i p:Nat):List Int:=(List.range (n+1)).map fun k=>M3 (rows.take (if k < p then i+1 else i)) n k
theorem I90 (rows:List Row) (n i p:Nat):(u9 rows n i p).length=n+1:=by unfold u9;simp
theorem H83 (rows:List Row) (n:Nat):u9 rows n 0 0=List.replicate (n+1) 0:=by
 unfold u9
 refine List.ext_getElem (by simp) fun k h1 h2=>?_
 simp [M3,O5]
theorem I91 (rows:List Row) (n i p:Nat) (hp:p≤n):(u9 rows n i p)[p]?=some (M3 (rows.take i) n p):=by
 unfold u9
 rw [K11,K14 (by omega)];simp
theorem B25 (f:Nat→Int) (n p:Nat) (v:Int):((List.range n).map f).set p v=(List.range n).map (fun k=>if k=p then v else f k):=by
 refine List.ext_getElem (by simp) fun k h1 h2=>?_
 rw [List.getElem_set,List.getElem_map,List.getElem_map,List.getElem_range]
 by_cases e:p=k
 ·rw [if_pos e,if_pos e.symm]
 ·rw [if_neg e,if_neg (fun h=>e h.symm)]
theorem H84 (rows:List Row) (n i p:Nat) (hi:i < rows.length) (hp:p≤n):u9 rows n i (p+1)=if U4 rows[i] (L0 n p)=true then (u9 rows n i p).set p (M3 (rows.take i) n p+1) else u9 rows n i p:=by
 have hs:=J41 rows n p i hi
 by_cases hv:U4 rows[i] (L0 n p)=true
 ·rw [if_pos hv] at hs ⊢
  unfold u9
  rw [B25]
  refine List.map_congr_left fun k hk=>?_
  by_cases e:k=p
  ·subst e;rw [if_pos rfl,if_pos (by omega),hs]
  ·rw [if_neg e]
   by_cases h3:k < p
   ·rw [if_pos (by omega),if_pos h3]
   ·rw [if_neg (by omega),if_neg h3]
 ·rw [if_neg hv] at hs ⊢
  unfold u9
  refine List.map_congr_left fun k hk=>?_
  by_cases e:k=p
  ·subst e;rw [if_pos (by omega),if_neg (by omega),hs];omega
  ·by_cases h3:k < p
   ·rw [if_pos (by omega),if_pos h3]
   ·rw [if_neg (by omega),if_neg h3]
theorem H85 (rows:List Row) (n i:Nat):u9 rows n i (n+1)=u9 rows n (i+1) 0:=by
 unfold u9
 refine List.map_congr_left fun k hk=>?_
 rw [if_pos (List.mem_range.1 hk),if_neg (by omega)]
theorem H86 (rows:List Row) (n:Nat):u9 rows n rows.length 0=K6 rows n:=by
 unfold u9 K6
 refine List.map_congr_left fun k hk=>?_
 rw [if_neg (by omega),J97]
theorem H87 (rows:List Row) (n:Nat):(K6 rows n).length=n+1:=by unfold K6;simp
theorem H88 (rows:List Row) (n k:Nat) (h:k < n+1):(K6 rows n)[k]?=some (M3 rows n k):=by
 unfold K6
 rw [K11,K14 h];rfl
def A08 (n:Nat) (h:CHunk) (k:Nat):List Int:=(List.range (n+1)).map fun j=>if j < k then h.At.getD j 0+M3 h.Rows n j else M3 h.Rows n j
theorem H89 (n:Nat) (h:CHunk) (k:Nat):(A08 n h k).length=n+1:=by unfold A08;simp
theorem H18 (n:Nat) (h:CHunk):A08 n h 0=K6 h.Rows n:=by
 unfold A08 K6
 refine List.map_congr_left fun k hk=>?_
 rw [if_neg (by omega)]
theorem H90 (n:Nat) (h:CHunk) (k:Nat) (hk:k < n+1):(A08 n h k)[k]?=some (M3 h.Rows n k):=by
 unfold A08
 rw [K11,K14 hk];simp
theorem H91 (n:Nat) (h:CHunk) (k:Nat):(A08 n h k).set k (M3 h.Rows n k+h.At.getD k 0)=A08 n h (k+1):=by
 unfold A08
 rw [B25]
 refine List.map_congr_left fun j hj=>?_
 by_cases e:j=k
 ·subst e;rw [if_pos rfl,if_pos (by omega)];omega
 ·rw [if_neg e]
  by_cases h3:j < k
  ·rw [if_pos h3,if_pos (by omega)]
  ·rw [if_neg h3,if_neg (by omega)]
theorem H19 (n:Nat) (h:CHunk):A08 n h (n+1)=W2 n h:=by
 unfold A08 W2
 refine List.map_congr_left fun k hk=>?_
 rw [if_pos (List.mem_range.1 hk)]
theorem D85 (n:Nat) (ends:List Int) (h:CHunk):Z7 n ends h=true↔(h.At.length=n+1∧h.Rows≠[])∧∀k,k < n+1→ends.getD k 0≤h.At.getD k 0∧h.At.getD k 0≤4096:=by
 unfold Z7
 simp only [J80,decide_eq_true_eq,List.all_eq_true,List.mem_range]
theorem I92 (n:Nat) (h:CHunk) (k:Nat):(A52 n h k).length≤26:=by
 have:=A48 (h.At.getD k 0) (M3 h.Rows n k)
 unfold A52;simp only [J77,J78,J81];omega
theorem A54 (n:Nat) (h:CHunk) (k:Nat):R1 n h (k+1)=R1 n h k++A52 n h k:=by
 unfold R1
 rw [K22,J92,K04];simp
theorem A36 (n:Nat) (h:CHunk):∀k,(R1 n h k).length≤26*k
 | 0=>by simp [R1]
 | k+1=>by
  have:=A36 n h k
  have:=I92 n h k
  rw [A54,J77];omega
theorem B95 {n:Nat} (hn:n≤32) (h:CHunk):(S0 n h).length≤925:=by
 have:=A36 n h (n+1)
 unfold S0
 simp only [J77,j9,J78,J81];omega
theorem F77 {n:Nat} (hn:n≤32) (r:Row):(S2 n r).flatten.length≤N0 r:=by
 have hm:markS.length=29:=rfl
 unfold S2 N0
 split<;>simp only [J91,K19,J77,T8,J81]<;>omega
theorem E81 {n:Nat} (hn:n≤32) (rs:List Row):((rs.map (S2 n)).flatten).flatten.length≤(rs.map N0).sum:=by
 induction rs with
 | nil=>simp
 | cons x r ih =>
  have:=F77 hn x
  simp only [J85,J91,K04,J77,K03];omega
theorem H20 {n:Nat} (hn:n≤32) (h:CHunk):(M2 n h).flatten.length≤A65 h:=by
 have h1:=B95 hn h
 have h2:=E81 hn h.Rows
 unfold M2 A65
 simp only [J91,J77,J78,J81];omega
theorem G32 {n:Nat} (hn:n≤32) (hs:List CHunk):((hs.map (M2 n)).flatten).flatten.length≤szC hs:=by
 unfold szC
 induction hs with
 | nil=>simp
 | cons x r ih =>
  have:=H20 hn x
  simp only [J85,J91,K04,J77,K03];omega
def B26 (c:Comb):Str:=W1 c.Dense++H6 c.Path++[10]++(parS++I4 c.Parents++[10])
def cTo (c:Comb) (k:Nat):Str:=B26 c++(((c.Hunks.take k).map (M2 c.Parents.toNat)).flatten).flatten
theorem E82 (c:Comb):cTo c 0=B26 c:=by simp [cTo]
theorem H21 (c:Comb) (k:Nat) (h:k < c.Hunks.length):cTo c (k+1)=cTo c k++(M2 c.Parents.toNat c.Hunks[k]).flatten:=by
 unfold cTo
 rw [J86 h];simp only [J92,J85,K12,K04,J91,K19,K02,J89]
theorem D05 (c:Comb):cTo c c.Hunks.length=O3 c:=by
 unfold cTo B26 O3 G29
 rw [J97];simp
def rTo (n:Nat) (rs:List Row) (k:Nat):Str:=(((rs.take k).map (S2 n)).flatten).flatten
theorem H22 (n:Nat) (rs:List Row):rTo n rs 0=[]:=by simp [rTo]
theorem H23 (n:Nat) (rs:List Row) (k:Nat) (h:k < rs.length):rTo n rs (k+1)=rTo n rs k++(S2 n rs[k]).flatten:=by
 unfold rTo
 rw [J86 h];simp only [J92,J85,K12,K04,J91,K19,K02,J89]
theorem I25 {n:Nat} (hn:n≤32) (rs:List Row) (k:Nat):(rTo n rs k).length≤(rs.map N0).sum:=by
 have:=E81 hn (rs.take k)
 have:=E79 rs k
 unfold rTo;omega
theorem F78 (n:Nat) (h:CHunk):(M2 n h).flatten=S0 n h++[10]++rTo n h.Rows h.Rows.length:=by
 unfold M2 rTo
 rw [J97];simp
theorem C44 (p:Str):(H6 p).length≤4*p.length+2:=H02 p
theorem G33 (n:Int):(I4 n).length≤10:=V8 n
theorem E83 (c:Comb):(B26 c).length≤4*c.Path.length+48:=by
 have h1:=C44 c.Path
 have h2:=G33 c.Parents
 have h3:(W1 c.Dense).length≤16:=by cases c.Dense<;>decide
 have h4:parS.length=8:=rfl
 unfold B26
 simp only [J77,J78,J81];omega
theorem G34 (c:Comb) (hn:c.Parents.toNat≤32) (k:Nat):(cTo c k).length≤4*c.Path.length+48+szC c.Hunks:=by
 have h1:=E83 c
 have h2:=G32 hn (c.Hunks.take k)
 have h3:=E80 c.Hunks k
 unfold cTo
 rw [J77];omega
theorem D86 (n:Nat) (r:Row):K4 (n+1) r=K4 n r++[n6 r n]:=by
 unfold K4
 rw [K22,J92];rfl
theorem E84 (n:Nat) (r:Row):(S2 n r).flatten=K4 n r++r.Text++(if ended r.Text=true then [] else markS):=by
 unfold S2
 split<;>simp
end Go.AL
namespace Go.AL
open Go
def x7 (s:Str) (n:Int):Option Row:=if n < 1 then none else rowAt s n.toNat
theorem I26 (p:Nat) (h:p < 32):IntKind.u32.wrap (1*2 ^ (min ((p:Int)).toNat IntKind.u32.bits))=((2 ^ p:Nat):Int):=by
 have h2:2 ^ p < 2 ^ 32:=Nat.pow_lt_pow_right (by decide) h
 have e:(2:Int) ^ p=((2 ^ p:Nat):Int):=by simp
 rw [show min ((p:Int)).toNat IntKind.u32.bits=p by rw [J83];exact Nat.min_eq_left (by show p≤32;omega),Int.one_mul,e,D98 _ (by omega)]
theorem H92 (p:Nat) (h:p < 32):R9 (p:Int)=((2 ^ p:Nat):Int):=by
 unfold R9
 rw [A61 (by omega)]
 exact I26 p h
theorem H93 {x p:Nat} (h:x < 2 ^ p) (hp:p < 32):V0 (x:Int) ((2 ^ p:Nat):Int)=((x+2 ^ p:Nat):Int):=by
 have h2:2 ^ p < 2 ^ 32:=Nat.pow_lt_pow_right (by decide) hp
 rw [(C89 x (2 ^ p) (by omega) (by omega)).1]
 have h3:=Nat.two_pow_add_eq_or_of_lt h 1
 rw [Nat.mul_one] at h3
 rw [Nat.or_comm,←h3,Nat.add_comm]
theorem or_zero {x:Nat} (h:x < 4294967296):V0 (x:Int) 0=(x:Int):=by
 have:=(C89 x 0 h (by omega)).1
 simpa using this
theorem zero_or {x:Nat} (h:x < 4294967296):V0 0 (x:Int)=(x:Int):=by
 have:=(C89 0 x (by omega) h).1
 simpa using this
theorem B96 {s:Str} {p:Nat} {c:UInt8} (hv:s[p]?=some c) (d:UInt8):G3 d s (p+1)=G3 d s p+if c=d then 2 ^ p else 0:=by
 rw [G3,J82,hv];rfl
theorem F79 {s:Str} {p:Nat} {c:UInt8} (hv:s[p]?=some c):(s.take (p+1)).all u5=((s.take p).all u5&&u5 c):=by
 obtain ⟨h,rfl⟩:=List.getElem?_eq_some_iff.1 hv
 rw [J86 h,K29];simp
theorem I27 {s:Str} {p N:Nat} {c:UInt8} (hp:p < N) (hv:s[p]?=some c) (hc:u5 c=false):(s.take N).all u5=false:=by
 rw [Bool.eq_false_iff]
 intro h
 have:=List.all_eq_true.1 h c (J93 (i:=p) (by rw [J98 hp];exact hv))
 rw [hc] at this;cases this
theorem I28 {s:Str} {n:Int} (h:n < 1∨32 < n∨(s.length:Int) < n):x7 s n=none:=by
 unfold x7
 by_cases h1:n < 1
 ·rw [if_pos h1]
 ·rw [if_neg h1];unfold rowAt;rw [if_pos (by omega)]
theorem F80 {s:Str} {N:Nat} (h:(s.take N).all u5=false):x7 s N=none:=by
 unfold x7
 by_cases h1:(N:Int) < 1
 ·rw [if_pos h1]
 ·rw [if_neg h1];unfold rowAt;rw [if_pos (.inr (.inr (.inr (.inl (by rw [J83];exact h)))))]
theorem F81 {s:Str} {N:Nat} (h:G3 43 s N≠0∧G3 45 s N≠0):x7 s N=none:=by
 unfold x7
 by_cases h1:(N:Int) < 1
 ·rw [if_pos h1]
 ·rw [if_neg h1];unfold rowAt;rw [if_pos (.inr (.inr (.inr (.inr (by rw [J83];exact h)))))]
theorem H24 {s:Str} {N:Nat} (h1:1≤N∧N≤32) (h2:N≤s.length) (h3:(s.take N).all u5=true) (h4:¬(G3 43 s N≠0∧G3 45 s N≠0)) :
  x7 s N=some ⟨decide (G3 45 s N≠0),((G3 43 s N+G3 45 s N:Nat):Int),s.drop N⟩:=by
 unfold x7
 rw [if_neg (by omega)]
 unfold rowAt
 rw [J83,if_neg]
 simp only [not_or]
 exact ⟨by omega,by omega,by omega,by rw [h3];decide,h4⟩
theorem F82 (c:UInt8) (s:Str) {k:Nat} (h:k≤32):G3 c s k < 4294967296:=by
 have h1:=E01 c s k
 have h2:2 ^ k≤2 ^ 32:=Nat.pow_le_pow_right (by decide) h
 omega
theorem bits_or {s:Str} {N:Nat} (hN:N≤32) (h:¬(G3 43 s N≠0∧G3 45 s N≠0)):V0 (G3 43 s N:Nat) (G3 45 s N:Nat)=((G3 43 s N+G3 45 s N:Nat):Int):=by
 have h1:=F82 43 s hN
 have h2:=F82 45 s hN
 by_cases h3:G3 43 s N=0
 ·rw [h3]
  have:=zero_or h2
  rw [Nat.zero_add];exact this
 ·have h4:G3 45 s N=0:=by omega
  rw [h4]
  have:=or_zero h1
  rw [Nat.add_zero];exact this
theorem D48 {s:Str} {n:Int} {r:Row} (h:x7 s n=some r):(1≤n∧n≤32)∧r.Text=s.drop n.toNat∧(0≤r.Marks∧r.Marks < 4294967296)∧n.toNat≤s.length:=by
 unfold x7 at h
 split at h
 ·cases h
 ·rename_i h0
  unfold rowAt at h
  split at h
  ·cases h
  ·rename_i h1
   simp only [not_or,Nat.not_lt] at h1
   obtain ⟨a1,a2,a3,a4,a5⟩:=h1
   have hb:=E71 (c:=43) (d:=45) (by decide) s n.toNat
   have hp:2 ^ n.toNat≤2 ^ 32:=Nat.pow_le_pow_right (by decide) a2
   cases h
   refine ⟨by omega,rfl,?_,a3⟩
   dsimp only
   omega
theorem E85 {c:UInt8}:∀(s:Str) (v:Str),v∈N5 c s→v.length≤s.length
 | [],v,h=>by simp [N5] at h;simp [h]
 | x::r,v,h=>by
  have ih:=E85 (c:=c) r
  unfold N5 at h
  split at h
  ·rcases List.mem_cons.1 h with rfl | h
   ·simp
   ·have:=ih v h;simp;omega
  ·split at h
   ·simp at h;simp [h]
   ·rename_i a b e
    rw [e] at ih
    rcases List.mem_cons.1 h with rfl | h
    ·have:=ih a (by simp);simp;omega
    ·have:=ih v (by simp [h]);simp;omega
end Go.AL
namespace Go.AL
open Go
abbrev D87:Bool→Nat→Cell:=fun b _=>.v (.bool b)
abbrev pBools (l:List Bool):PV:=.one (.list Bool 1 D87 l)
def A01 (n:Nat) (rows:List Row):Int→List CHunk→List Span→Option (List CHunk)
 | _,hs,[]=>some hs
 | e,hs,s::r=>if s.From < e∨s.To≤s.From∨(rows.length:Int) < s.To then none else A01 n rows s.To (hs++[⟨K6 (rows.take s.From.toNat) n,(rows.drop s.From.toNat).take (s.To.toNat - s.From.toNat)⟩]) r
def A85 (path:Str) (t:Table) (sp:List Span) (d:Bool):Comb × Int :=
 if V9 path=false then (comb0,120) else if U5 t≠0 then (comb0,U5 t) else match A01 t.Parents.toNat t.Rows 0 [] sp with
  | none=>(comb0,3)
  | some hs=>if G8 ⟨path,d,t.Parents,hs⟩≠0 then (comb0,G8 ⟨path,d,t.Parents,hs⟩) else (⟨path,d,t.Parents,hs⟩,0)
theorem G35 (f:Row→Nat) (c n:Nat) (rows:List Row):∀(sp:List Span) (e:Int) (hs hs':List CHunk),0≤e→A01 n rows e hs sp=some hs'→(hs.map fun h=>c+(h.Rows.map f).sum).sum≤c*hs.length+((rows.take e.toNat).map f).sum→hs.length≤e.toNat →
  (hs'.map fun h=>c+(h.Rows.map f).sum).sum≤c*hs'.length+(rows.map f).sum∧hs'.length≤max rows.length hs.length
 | [],e,hs,hs',he,h,hw,hl=>by
  cases h
  refine ⟨?_,by omega⟩
  have:((rows.take e.toNat).map f).sum≤(rows.map f).sum:=by
   conv=>rhs;rw [←K18 e.toNat rows,J92,K15]
   omega
  omega
 | s :: r,e,hs,hs',he,h,hw,hl=>by
  rw [A01] at h
  split at h
  ·cases h
  ·rename_i hc
   simp only [not_or,Int.not_lt,Int.not_le] at hc
   obtain ⟨c1,c2,c3⟩:=hc
   have ih:=G35 f c n rows r s.To _ hs' (by omega) h
   have hsum:((rows.take e.toNat).map f).sum+(((rows.drop s.From.toNat).take (s.To.toNat - s.From.toNat)).map f).sum≤((rows.take s.To.toNat).map f).sum:=by
    have e1:rows.take s.To.toNat=rows.take s.From.toNat++(rows.drop s.From.toNat).take (s.To.toNat - s.From.toNat):=by
     have:=List.take_add (l:=rows) (i:=s.From.toNat) (j:=s.To.toNat - s.From.toNat)
     rw [show s.From.toNat+(s.To.toNat - s.From.toNat)=s.To.toNat by omega] at this
     exact this
    have e2:rows.take s.From.toNat=rows.take e.toNat++(rows.drop e.toNat).take (s.From.toNat - e.toNat):=by
     have:=List.take_add (l:=rows) (i:=e.toNat) (j:=s.From.toNat - e.toNat)
     rw [show e.toNat+(s.From.toNat - e.toNat)=s.From.toNat by omega] at this
     exact this
    rw [e1,J92,K15]
    conv=>rhs;rw [e2,J92,K15]
    omega
   have hih:=ih (by
    rw [J92,K15,J77]
    simp only [J85,K12,K03,K24,J78,J81,Nat.mul_add,Nat.mul_one,Nat.mul_zero]
    omega) (by rw [J77];simp;omega)
   refine ⟨hih.1,?_⟩
   have:=hih.2
   rw [J77] at this
   simp only [J78,J81] at this
   have h3:hs.length+1≤rows.length:=by omega
   omega
def CInvA (n:Nat) (hs:List CHunk):Prop:=∀h∈hs,h.At.length=n+1∧I9 h.Rows
theorem E86 {n:Nat} {rows:List Row} (hr:I9 rows):∀(sp:List Span) (e:Int) (hs hs':List CHunk),A01 n rows e hs sp=some hs'→CInvA n hs→CInvA n hs'
 | [],e,hs,hs',h,hi=>by cases h;exact hi
 | s::r,e,hs,hs',h,hi=>by
  rw [A01] at h
  split at h
  ·cases h
  ·refine E86 hr r _ _ hs' h ?_
   intro x hx
   rcases List.mem_append.1 hx with hx | hx
   ·exact hi x hx
   ·simp only [K06,K05,or_false] at hx
    rw [hx]
    exact ⟨H87 _ _,fun y hy=>hr y (List.mem_of_mem_drop (List.mem_of_mem_take hy))⟩
def F15 (n:Nat) (r:Row):Nat:=r.Text.length+n+29
theorem headC_w (n:Nat) (h:CHunk):(S0 n h).length≤28*(n+1)+1:=by
 have:=A36 n h (n+1)
 unfold S0
 simp only [J77,j9,J78,J81];omega
theorem J42 (n:Nat) (rs:List Row):((rs.map (S2 n)).flatten).flatten.length≤(rs.map (F15 n)).sum:=by
 have hm:markS.length=29:=rfl
 induction rs with
 | nil=>simp
 | cons x r ih =>
  have:(S2 n x).flatten.length≤F15 n x:=by
   unfold S2 F15
   split<;>simp only [J91,K19,J77,T8,J81]<;>omega
  simp only [J85,J91,K04,J77,K03];omega
theorem H94 (n:Nat) (hs:List CHunk):((hs.map (M2 n)).flatten).flatten.length≤(hs.map fun h=>(28*(n+1)+2)+(h.Rows.map (F15 n)).sum).sum:=by
 induction hs with
 | nil=>simp
 | cons x r ih =>
  have h1:=headC_w n x
  have h2:=J42 n x.Rows
  have h3:(M2 n x).flatten.length≤(28*(n+1)+2)+(x.Rows.map (F15 n)).sum:=by
   unfold M2
   simp only [J91,J77,J78,J81];omega
  rw [J85,J91,K04,J77,J85,K03]
  exact Nat.add_le_add h3 ih
theorem H25 (c:Comb):(O3 c).length≤4*c.Path.length+48+(c.Hunks.map fun h=>(28*(c.Parents.toNat+1)+2)+(h.Rows.map (F15 c.Parents.toNat)).sum).sum:=by
 have h1:=E83 c
 have h2:=H94 c.Parents.toNat c.Hunks
 rw [←D05]
 unfold cTo
 rw [J97,J77];omega
theorem B27:∀(s cur:Str),(G2 cur s).length≤s.count 10+1
 | [],cur=>by unfold G2;split<;>simp
 | c::r,cur=>by
  rw [R8]
  split
  ·rename_i h
   have:=B27 r []
   rw [J78,List.count_cons,h];simp;omega
  ·have:=B27 r (cur++[c])
   rw [List.count_cons];omega
theorem D88 (s:Str):(D2 s).length≤s.count 10+1:=B27 s []
theorem G36 (result:Str) (parents:List Str) (L B:Nat) (h0:(D2 result).length≤L∧result.length≤B) (h1:∀b∈parents,(D2 b).length≤L∧b.length≤B) :
  I9 (J9 result parents).1.Rows∧(J9 result parents).1.Rows.length≤(L+1)*(parents.length*L+1)∧∀r∈(J9 result parents).1.Rows,r.Text.length≤B:=by
 have hnil:I9 []∧([]:List Row).length≤(L+1)*(parents.length*L+1)∧∀r∈([]:List Row),r.Text.length≤B:=⟨fun r hr=>(by cases hr),(by simp),fun r hr=>(by cases hr)⟩
 by_cases hn:parents.length < 1∨32 < parents.length
 ·rw [J9,if_pos hn];exact hnil
 obtain ⟨fs,hfs⟩:∃fs,fs=D2 result::parents.map D2:=⟨_,rfl⟩
 obtain ⟨names,hnames⟩:∃names,names=H0 fs:=⟨_,rfl⟩
 obtain ⟨s,hs⟩:∃s,s=A62 (fs.map (V6 names)) (D2 result).length parents.length parents.length:=⟨_,rfl⟩
 have hm:J9 result parents=if ∃k,k < (D2 result).length+1∧(J3 (s.2 k)).2≠0 then (⟨0,[]⟩,1) else (⟨parents.length,A04 names (D2 result) s ((D2 result).length+1)⟩,0):=by
  rw [J9,if_neg hn,hs,hnames,hfs]
 rw [hm]
 split
 ·exact hnil
 have hfB:∀f∈fs,f.length≤L∧∀t∈f,t.length≤B:=by
  intro f hf
  rw [hfs] at hf
  rcases List.mem_cons.1 hf with rfl | hf
  ·exact ⟨h0.1,fun t ht=>by have:=H05 _ _ ht;omega⟩
  ·obtain ⟨b,hb,rfl⟩:=List.mem_map.1 hf
   have:=h1 b hb
   exact ⟨this.1,fun t ht=>by have:=H05 _ _ ht;omega⟩
 have hnB:∀t∈names,t.length≤B:=by
  intro t ht
  rw [hnames] at ht
  obtain ⟨f,hf,h2⟩:=List.mem_flatten.1 (G97 fs t ht)
  exact (hfB f hf).2 t h2
 have hid:∀x∈fs.map (V6 names),x.length≤L∧∀v∈x,(fun _:Int=>True) v:=by
  intro x hx
  obtain ⟨f,hf,rfl⟩:=List.mem_map.1 hx
  exact ⟨by rw [V6,K10];exact (hfB f hf).1,fun _ _=>trivial⟩
 have hok:LoomOk (fun _=>True) L (D2 result).length parents.length s:=by rw [hs];exact D37 hid _
 have hL:(D2 result).length≤L:=h0.1
 have hcs:∀k,(J3 (s.2 k)).1.length≤parents.length*L∧∀m∈(J3 (s.2 k)).1,0≤m.Parents∧m.Parents < 4294967296:=fun k=>by
  have h2:=hok.gaps k
  have h3:=C16 (fun _=>True) L (s.2 k) h2.2
  rw [h2.1] at h3
  exact ⟨h3.1,fun m hmem=>(h3.2 m hmem).1⟩
 have hgetD:∀(l:List Str) (k:Nat),(∀t∈l,t.length≤B)→(l.getD k []).length≤B:=by
  intro l k hl
  rw [J82]
  cases h:l[k]? with
  | none=>simp
  | some t=>exact hl t (J93 h)
 have key:∀k,k≤(D2 result).length+1→I9 (A04 names (D2 result) s k)∧(A04 names (D2 result) s k).length≤k*(parents.length*L+1)∧∀r∈A04 names (D2 result) s k,r.Text.length≤B:=by
  intro k
  induction k with
  | zero=>intro _;simp only [A04,List.range_zero,K12,K19];exact ⟨fun r hr=>(by cases hr),by simp,fun r hr=>(by cases hr)⟩
  | succ k ih =>
   intro hk
   obtain ⟨i1,i2,i3⟩:=ih (by omega)
   have hc:=hcs k
   have hgap:∀r∈x5 names (D2 result) s k,(0≤r.Marks∧r.Marks < 4294967296)∧r.Text.length≤B:=by
    intro r hr
    unfold x5 at hr
    rcases List.mem_append.1 hr with h | h
    ·obtain ⟨m,hmem,rfl⟩:=List.mem_map.1 h
     exact ⟨hc.2 m hmem,hgetD _ _ hnB⟩
    ·split at h
     ·rename_i hkl
      simp only [List.mem_singleton] at h
      subst h
      refine ⟨?_,hgetD _ _ (hfB _ (by rw [hfs];simp)).2⟩
      have:k < s.1.length:=by rw [hok.len];exact hkl
      show 0≤s.1.getD k 0∧s.1.getD k 0 < 4294967296
      rw [J82,J79 this]
      exact hok.marks _ (J96 this)
     ·cases h
   have hgl:(x5 names (D2 result) s k).length≤parents.length*L+1:=by
    unfold x5
    rw [J77,K10]
    have:=hc.1
    split<;>simp<;>omega
   rw [D70]
   refine ⟨fun r hr=>?_,by rw [J77,K09,Nat.one_mul];omega,fun r hr=>?_⟩
   ·rcases List.mem_append.1 hr with h | h
    ·exact i1 r h
    ·exact (hgap r h).1
   ·rcases List.mem_append.1 hr with h | h
    ·exact i3 r h
    ·exact (hgap r h).2
 obtain ⟨k1,k2,k3⟩:=key _ (Nat.le_refl _)
 have:((D2 result).length+1)*(parents.length*L+1)≤(L+1)*(parents.length*L+1):=K00 _ (by omega)
 exact ⟨k1,by simp only;omega,k3⟩
end Go.AL
namespace Go.AL
open Go
def blankB (r:Row):Bool:=!r.Lost&&decide (r.Marks=0)
def B33 (out:List Span) (v:Int):List Span:=match out.getLast? with
 | some s=>out.dropLast++[⟨s.From,v⟩]
 | none=>out
def spGo:List Bool→Nat→Bool→List Span→List Span
 | [],_,_,out=>out
 | b::r,i,p,out=>spGo r (i+1) b (if b=true then B33 (if p=true then out else out++[⟨i,i⟩]) ((i:Int)+1) else out)
def B97 (l:List Bool):List Span:=spGo l 0 false []
def C45 (n:Nat) (out:List Span):Prop:=out.length≤n∧∀s∈out,(0≤s.From∧s.From≤n)∧(0≤s.To∧s.To≤n)
theorem F83 {n:Nat} {out:List Span} (h:C45 n out):C45 (n+1) out:=⟨by have:=h.1;omega,fun s hs=>by have:=h.2 s hs;omega⟩
theorem J43 {n:Nat} {out:List Span} (h:C45 n out):C45 (n+1) (out++[⟨n,n⟩]):=by
 refine ⟨by rw [J77];have:=h.1;simp;omega,fun x hx=>?_⟩
 rcases List.mem_append.1 hx with hx | hx
 ·have:=h.2 x hx;omega
 ·simp only [K06,K05,or_false] at hx
  rw [hx];dsimp only;omega
theorem E87 {n:Nat} {out:List Span} {v:Int} (h:C45 n out) (hv:0≤v∧v≤(n:Int)):C45 n (B33 out v):=by
 unfold B33
 cases hl:out.getLast? with
 | none=>dsimp only;exact h
 | some s =>
  dsimp only
  have hm:=h.2 s (List.mem_of_getLast? hl)
  have hne:out≠[]:=fun e=>by rw [e] at hl;cases hl
  have hp:=List.length_pos_iff.2 hne
  refine ⟨by rw [J77,List.length_dropLast];have:=h.1;simp;omega,fun x hx=>?_⟩
  rcases List.mem_append.1 hx with hx | hx
  ·exact h.2 x ((List.dropLast_sublist _).subset hx)
  ·simp only [K06,K05,or_false] at hx
   rw [hx];dsimp only;omega
theorem I29 {i:Nat} {out:List Span} (b p:Bool) (h:C45 i out):C45 (i+1) (if b=true then B33 (if p=true then out else out++[⟨i,i⟩]) ((i:Int)+1) else out):=by
 split
 ·split
  ·exact E87 (F83 h) (by omega)
  ·exact E87 (J43 h) (by omega)
 ·exact F83 h
theorem I30:∀(l:List Bool) (i:Nat) (p:Bool) (out:List Span),C45 i out→C45 (i+l.length) (spGo l i p out)
 | [],i,p,out,h=>h
 | b::r,i,p,out,h=>by
  rw [spGo,J78,show i+(r.length+1)=(i+1)+r.length by omega]
  exact I30 r (i+1) b _ (I29 b p h)
theorem H26 (l:List Bool):C45 l.length (B97 l):=by
 have:=I30 l 0 false [] ⟨Nat.le_refl _,fun s hs=>by cases hs⟩
 rwa [Nat.zero_add] at this
def l8 (t:Table):List Span × Int:=if U5 t≠0 then ([],U5 t) else (B97 (t.Rows.map fun r=>!blankB r),0)
def D06 (rows:List Row):Int:=rows.foldl (fun a r=>V0 a r.Marks) 0
def A55 (t:Table) (s:Span):Bool:=(List.range t.Parents.toNat).all fun p=>!decide (D06 ((t.Rows.drop s.From.toNat).take (s.To.toNat - s.From.toNat)) / 2 ^ p % 2=0)
def K2 (t:Table) (d:Bool):List Span × Int:=if (l8 t).2≠0 then ([],(l8 t).2) else ((l8 t).1.filter fun s=>!d||A55 t s,0)
def l9 (l:List Span) (ctx:Int) (k:Nat):Bool:=l.any fun s=>decide (s.From - ctx≤k∧(k:Int) < s.To+ctx)
def V5 (t:Table) (ctx:Int) (d:Bool):List Span × Int :=
 if (K2 t d).2≠0 then ([],(K2 t d).2) else if ctx < 0∨1048576 < ctx then ([],3)
 else (B97 ((List.range t.Rows.length).map (l9 (K2 t d).1 ctx)),0)
theorem I31 (t:Table):C45 t.Rows.length (l8 t).1:=by
 unfold l8
 split
 ·exact ⟨Nat.zero_le _,fun s hs=>by cases hs⟩
 ·have:=H26 (t.Rows.map fun r=>!blankB r)
  rwa [K10] at this
theorem E88 (t:Table) (d:Bool):C45 t.Rows.length (K2 t d).1:=by
 have h:=I31 t
 unfold K2
 split
 ·exact ⟨Nat.zero_le _,fun s hs=>by cases hs⟩
 ·refine ⟨?_,fun s hs=>h.2 s (List.mem_filter.1 hs).1⟩
  have:=List.length_filter_le (fun s=>!d||A55 t s) (l8 t).1
  have:=h.1
  dsimp only;omega
theorem J44 (t:Table) (ctx:Int) (d:Bool):C45 t.Rows.length (V5 t ctx d).1:=by
 unfold V5
 split
 ·exact ⟨Nat.zero_le _,fun s hs=>by cases hs⟩
 ·split
  ·exact ⟨Nat.zero_le _,fun s hs=>by cases hs⟩
  ·have:=H26 ((List.range t.Rows.length).map (l9 (K2 t d).1 ctx))
   rwa [K10,List.length_range] at this
def D89 (l:List Bool) (i:Nat):Bool:=if i=0 then false else l.getD (i - 1) false
theorem I93 {l:List Bool} {i:Nat} {p:Bool} {out:List Span} (h:i < l.length):spGo (l.drop i) i p out=spGo (l.drop (i+1)) (i+1) (l.getD i false) (if l.getD i false=true then B33 (if p=true then out else out++[⟨i,i⟩]) ((i:Int)+1) else out):=by
 rw [J84 h,spGo,J82,J79 h];rfl
end Go.AL
