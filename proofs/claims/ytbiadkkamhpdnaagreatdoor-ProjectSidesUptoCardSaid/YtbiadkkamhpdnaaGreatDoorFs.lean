/- Plain facts about data; no project text. -/
import Derived.Test.YtbiadkkamhpdnaaGreatDoorD
import Derived.Lib.Strings
import Derived.Lib.Bytealg
import Derived.Lib.Join
import Derived.Lib.ItoaNum
import Derived.Test.YtbiadkkamhpdnaaGreatDoorAn
set_option linter.unusedSimpArgs false
namespace Go.AL
open Go
theorem u8_lf (c:UInt8):((c.toNat:Int)=10)↔c=10:=by
 constructor
 ·intro h
  have:c.toNat=10:=by omega
  exact UInt8.toNat_inj.1 (by simpa using this)
 ·rintro rfl;rfl
def F7 (cur:Str):Str→List Str
 | []=>if cur=[] then [] else [cur]
 | c::r=>if c=10 then (cur++[c])::F7 [] r else F7 (cur++[c]) r
def B8 (b:Str):List Str:=F7 [] b
theorem B43 (cur:Str) (s:Str):(F7 cur s).length≤s.length+1:=by
 induction s generalizing cur with
 | nil=>unfold F7;split<;>simp
 | cons c r ih=>unfold F7;split<;>simp<;>(have:=ih [];have:=ih (cur++[c]);omega)
theorem C15 (s:Str):(F7 [] s).length≤s.length:=by
 have key:∀(s cur:Str),cur≠[]→(F7 cur s).length≤s.length+1:=fun s cur _=>B43 cur s
 induction s with
 | nil=>simp [F7]
 | cons c r ih=>unfold F7;split<;>simp<;>(have:=B43 ([]++[c]) r;simp at this;omega)
theorem Y9 (b:Str):(B8 b).length≤b.length:=C15 b
theorem U3 (cur r:Str) (c:UInt8):F7 cur (c::r)=if c=10 then (cur++[c])::F7 [] r else F7 (cur++[c]) r:=rfl
theorem C80 (cur:Str) (h:cur≠[]):F7 cur []=[cur]:=by simp [F7,h]
theorem or_pick {p q:Prop} [Decidable p] [Decidable q]:(if decide p=true then true else decide q)=decide (p∨q):=by by_cases p<;>simp [*]
theorem L8 {p q:Prop} [Decidable p] [Decidable q]:(if decide p=true then decide q else false)=decide (p∧q):=by by_cases p<;>simp [*]
theorem u0 {α:Type} (l:List (List α)) (i:Nat) (h:i < l.length):(l.take (i+1)).flatten=(l.take i).flatten++l[i]:=by
 rw [List.take_add_one,K06 h,Option.toList_some,K21];simp
theorem l7 {α:Type} (l:List (List α)) (i:Nat):(l.take i).flatten.length≤l.flatten.length:=by
 conv=>rhs;rw [←K38 i l,K21,K05]
 omega
theorem H86 (i:Nat):((i:Int)+1).toNat=i+1:=by omega
theorem F70 {α:Type} (b:List α) (f i:Nat) (hf:f≤i) (hi:i < b.length):(b.drop f).take (i - f)++[b[i]]=(b.drop f).take (i+1 - f):=by
 rw [show i+1 - f=(i - f)+1 by omega,List.take_add_one,K42,show f+(i - f)=i by omega,K06 hi]
 rfl
def ended (s:Str):Bool:=s.getLast? == some 10
def H1:List Str→Str→Int→Int
 | [],_,_ => -1
 | x::r,s,i=>if x=s then i else H1 r s (i+1)
def H7 (s:Str):Bool:=s.dropLast.all (·≠10)&&s != []
def X2:List Str→Bool
 | []=>true
 | s::r=>H7 s&&(r.isEmpty||ended s)&&X2 r
def A64 (b:Str):Int:=if b.length > 1048576∨(B8 b).length > 4096 then 1 else 0
def K3 (l:List Str):Str × Int:=if X2 l=false then ([],2) else if l.flatten.length > 1048576∨l.length > 4096 then ([],1) else (l.flatten,0)
def K7 (out:List Str) (s:Str):List Str:=if s∈out then out else out++[s]
def E0 (files:List (List Str)):List Str:=files.flatten.foldl K7 []
def F5 (names:List Str) (file:List Str):List Int:=file.map (fun s=>H1 names s 0)
theorem D27 (out:List Str) (s:Str):(K7 out s).length≤out.length+1:=by unfold K7;split<;>simp
theorem C46 (l out:List Str):(l.foldl K7 out).length≤out.length+l.length:=by
 induction l generalizing out with
 | nil=>simp
 | cons s r ih=>have h1:=ih (K7 out s);have h2:=D27 out s;simp only [K35,K07];omega
theorem E57 (fs:List (List Str)):(E0 fs).length≤fs.flatten.length:=by have:=C46 fs.flatten [];simpa [E0] using this
end Go.AL
namespace Go.AL
open Go
def N3 (i j:Int):List Span→Int→Int→List Change
 | [],m,n=>if m > i∨n > j then [⟨i,m - i,j,n - j⟩] else []
 | x::r,m,n=>(if x.From > i∨x.To > j then [⟨i,x.From - i,j,x.To - j⟩] else [])++N3 (x.From+1) (x.To+1) r m n
def A23 (p:List Span) (m n:Int):List Change:=N3 0 0 p m n
theorem A82 (p:List Span) (i j m n:Int):(N3 i j p m n).length≤p.length+1:=by
 induction p generalizing i j with
 | nil=>unfold N3;split<;>simp
 | cons x r ih=>unfold N3;have:=ih (x.From+1) (x.To+1);split<;>simp<;>omega
def M3 (i j:Int) (n:Nat):List Span:=(List.range n).map fun (t:Nat)=>⟨i+(t:Int),j+(t:Int)⟩
theorem Z0 (i j:Int) (n:Nat):(M3 i j n).length=n:=by simp [M3]
theorem B20 (i j:Int) (n:Nat):M3 i j (n+1)=⟨i,j⟩::M3 (i+1) (j+1) n:=by
 unfold M3
 rw [List.range_succ_eq_map,K13,K41]
 congr 1
 ·simp
 ·refine List.map_congr_left fun t _=>?_
  simp only [Function.comp,Span.mk.injEq]
  omega
def I3 (i j:Int):List Change→Int→List Span
 | [],m=>M3 i j (m - i).toNat
 | c::r,m=>M3 i j (c.Old - i).toNat++I3 (max i c.Old+c.OldLen) (j+(c.Old - i).toNat+c.NewLen) r m
def N0 (l:List Change) (m:Int):List Span:=I3 0 0 l m
def dist:List Int→List Int→Nat
 | [],b=>b.length
 | x::a,[]=>(x::a).length
 | x::a,y::b=>if x=y then dist a b else 1+min (dist a (y::b)) (dist (x::a) b)
theorem C81 (a:List Int):dist a []=a.length:=by cases a<;>simp [dist]
theorem G19 (a b:List Int):dist a b≤a.length+b.length:=by
 induction a generalizing b with
 | nil=>simp [dist]
 | cons x a iha =>
  induction b with
  | nil=>simp [dist]
  | cons y b ihb =>
   unfold dist
   split
   ·have:=iha b;simp;omega
   ·have:=iha (y::b);have:=ihb;simp only [K07] at *;omega
def G9 (i j:Int):List Int→List Int→List Span
 | [],_=>[]
 | _::_,[]=>[]
 | x::a,y::b=>if x=y then ⟨i,j⟩::G9 (i+1) (j+1) a b else if dist a (y::b)+1=dist (x::a) (y::b) then G9 (i+1) j a (y::b) else G9 i (j+1) (x::a) b
def M5 (a b:List Int):List Change:=A23 (G9 0 0 a b) a.length b.length
theorem I89 (a b:List Int) (i j:Nat) (hi:i < a.length) (hj:j < b.length) :
  dist (a.drop i) (b.drop j)=if a[i]=b[j] then dist (a.drop (i+1)) (b.drop (j+1)) else 1+min (dist (a.drop (i+1)) (b.drop j)) (dist (a.drop i) (b.drop (j+1))):=by
 rw [K11 hi,K11 hj]
 conv=>lhs;rw [dist]
theorem D66 (a b:List Int) (i j:Nat) (hi:i < a.length) (hj:j < b.length) (p q:Int) :
  G9 p q (a.drop i) (b.drop j)=if a[i]=b[j] then ⟨p,q⟩::G9 (p+1) (q+1) (a.drop (i+1)) (b.drop (j+1)) else
   if dist (a.drop (i+1)) (b.drop j)+1=dist (a.drop i) (b.drop j) then G9 (p+1) q (a.drop (i+1)) (b.drop j) else G9 p (q+1) (a.drop i) (b.drop (j+1)):=by
 rw [K11 hi,K11 hj]
 conv=>lhs;rw [G9]
theorem l8 (p q:Int) (b:List Int):G9 p q [] b=[]:=by simp [G9]
theorem y2 (p q:Int) (a:List Int):G9 p q a []=[]:=by cases a<;>simp [G9]
theorem A04 (p q:Int) (a b:List Int):(G9 p q a b).length≤a.length:=by
 induction a generalizing p q b with
 | nil=>simp [G9]
 | cons x a iha =>
  induction b generalizing p q with
  | nil=>simp [G9]
  | cons y b ihb =>
   unfold G9
   split
   ·have:=iha (p+1) (q+1) b;simp;omega
   ·split
    ·have:=iha (p+1) q (y::b);simp;omega
    ·exact ihb p (q+1)
universe u
theorem D28 {α:Type u} (n k:Nat) (f g:Nat→α) (v:α) (hv:k < n→g k=v) (h:∀q,q < n→q≠k→g q=f q):((List.range n).map f).set k v=(List.range n).map g:=by
 refine List.ext_getElem (by simp) fun q h1 h2=>?_
 have hq:q < n:=by simpa using h2
 rw [List.getElem_set]
 by_cases he:k=q
 ·subst he;simp [hv hq]
 ·rw [if_neg he];simp [h q hq (Ne.symm he)]
theorem D29 {α:Type u} (n k:Nat) (f:Nat→α) (h:k < n):((List.range n).map f)[k]?=some (f k):=by simp [h]
def H8 (l:List Merged):List Int:=l.map (·.Line)
theorem D30 (l:List Change) (i j m:Int) (hi:0≤i) (B:Nat) (hm:m≤B) (hl:∀c∈l,c.Old≤B∧0≤c.OldLen):((I3 i j l m).length:Int)≤max 0 (B - i):=by
 induction l generalizing i j with
 | nil=>simp only [I3,Z0];omega
 | cons c r ih =>
  have hc:=hl c (List.mem_cons_self ..)
  have:=ih (max i c.Old+c.OldLen) (j+(c.Old - i).toNat+c.NewLen) (by omega) (fun d hd=>hl d (List.mem_cons_of_mem _ hd))
  simp only [I3,K05,Z0]
  omega
theorem A31 (i j:Int):M3 i j 0=[]:=rfl
theorem C82 (i j:Int) (n:Nat):M3 i j (n+1)=M3 i j n++[⟨i+n,j+n⟩]:=by simp [M3,K47]
def Asc (m n:Int):Int→Int→List Span→Prop
 | i,j,[]=>i≤m∧j≤n
 | i,j,x::r=>i≤x.From∧j≤x.To∧Asc m n (x.From+1) (x.To+1) r
theorem Asc.le {m n:Int}:∀{p:List Span} {i j:Int},Asc m n i j p→i≤m∧j≤n
 | [],i,j,h=>h
 | x::r,i,j,h=>by have:=Asc.le h.2.2;have:=h.1;have:=h.2.1;omega
theorem Asc.weaken {m n:Int} {p:List Span} {i j i' j':Int} (h:Asc m n i j p) (hi:i'≤i) (hj:j'≤j):Asc m n i' j' p:=by
 cases p with
 | nil=>exact ⟨by have:=h.1;omega,by have:=h.2;omega⟩
 | cons x r=>exact ⟨by have:=h.1;omega,by have:=h.2.1;omega,h.2.2⟩
theorem U4 (a b:List Int):∀(p q:Int),Asc (p+a.length) (q+b.length) p q (G9 p q a b):=by
 induction a generalizing b with
 | nil=>intro p q;rw [l8];simp only [Asc,K10];omega
 | cons x a iha =>
  induction b with
  | nil=>intro p q;rw [y2];simp only [Asc,K10];omega
  | cons y b ihb =>
   intro p q
   rw [G9]
   split
   ·have:=iha b (p+1) (q+1)
    refine ⟨Int.le_refl _,Int.le_refl _,?_⟩
    simp only [K07]
    rwa [show p+((a.length+1:Nat):Int)=p+1+a.length by omega,show q+((b.length+1:Nat):Int)=q+1+b.length by omega]
   ·split
    ·have:=(iha (y::b) (p+1) q).weaken (i':=p) (j':=q) (by omega) (Int.le_refl _)
     rwa [show p+((x::a).length:Int)=p+1+a.length by simp;omega]
    ·have:=(ihb p (q+1)).weaken (i':=p) (j':=q) (Int.le_refl _) (by omega)
     rwa [show q+((y::b).length:Int)=q+1+b.length by simp;omega]
theorem Asc.made {m n:Int}:∀{p:List Span} {i j:Int},Asc m n i j p→∀c∈N3 i j p m n,i≤c.Old∧j≤c.New∧0≤c.OldLen∧0≤c.NewLen∧c.Old+c.OldLen≤m∧c.New+c.NewLen≤n
 | [],i,j,h,c,hc=>by
  unfold N3 at hc
  split at hc
  ·simp only [List.mem_singleton] at hc;subst hc
   have:=h.1;have:=h.2
   simp only;omega
  ·cases hc
 | x::r,i,j,h,c,hc=>by
  unfold N3 at hc
  obtain ⟨h1,h2,h3⟩:=h
  have h4:=h3.le
  rcases List.mem_append.1 hc with hc | hc
  ·split at hc
   ·simp only [List.mem_singleton] at hc;subst hc
    simp only;omega
   ·cases hc
  ·have:=Asc.made h3 c hc;omega
theorem E58 (i j m:Int) (l:List Change) (h:∀c∈l,i+1≤c.Old) (hm:l=[]→i+1≤m):I3 i j l m=⟨i,j⟩::I3 (i+1) (j+1) l m:=by
 cases l with
 | nil =>
  have:=hm rfl
  rw [I3,I3,show (m - i).toNat=(m - (i+1)).toNat+1 by omega,B20]
 | cons c r =>
  have:=h c (List.mem_cons_self ..)
  rw [I3,I3,show (c.Old - i).toNat=(c.Old - (i+1)).toNat+1 by omega,B20]
  rw [show max (i+1) c.Old=max i c.Old by omega,show (j+1+((c.Old - (i+1)).toNat:Int))=j+(((c.Old - (i+1)).toNat+1:Nat):Int) by omega]
  rfl
theorem C83 {m n:Int}:∀{p:List Span} {i j:Int},Asc m n i j p→I3 i j (N3 i j p m n) m=p
 | [],i,j,h=>by
  have h1:=h.1;have h2:=h.2
  unfold N3
  split
  ·rw [I3,I3,show (i - i).toNat=0 by omega,show (m - (max i i+(m - i))).toNat=0 by omega];rfl
  ·rw [I3,show (m - i).toNat=0 by omega];rfl
 | x::r,i,j,h=>by
  obtain ⟨h1,h2,h3⟩:=h
  have ih:=C83 h3
  have hm:=h3.le
  have hd:=E58 x.From x.To m (N3 (x.From+1) (x.To+1) r m n) (fun c hc=>(h3.made c hc).1) (fun _=>hm.1)
  rw [ih] at hd
  unfold N3
  split
  ·rw [List.singleton_append,I3,show (i - i).toNat=0 by omega,show max i i+(x.From - i)=x.From by omega,show j+((0:Nat):Int)+(x.To - j)=x.To by omega,hd];rfl
  ·have e1:i=x.From:=by omega
   have e2:j=x.To:=by omega
   rw [K32,e1,e2,hd]
theorem G20 (a b:List Int):N0 (M5 a b) a.length=G9 0 0 a b:=by
 have:=U4 a b 0 0
 rw [Int.zero_add,Int.zero_add] at this
 exact C83 this
theorem G21 (a b:List Int):∀c∈M5 a b,0≤c.Old∧0≤c.New∧0≤c.OldLen∧0≤c.NewLen∧c.Old+c.OldLen≤a.length∧c.New+c.NewLen≤b.length:=by
 have:=U4 a b 0 0
 rw [Int.zero_add,Int.zero_add] at this
 exact this.made
def J3 (p:Int):Int:=IntKind.u32.wrap (1*2 ^ (min (IntKind.u64.wrap p).toNat IntKind.u32.bits))
def M6 (a b:Int):Int:=IntKind.u32.wrap ((BitVec.ofInt IntKind.u32.bits a ||| BitVec.ofInt IntKind.u32.bits b).toNat:Int)
def Z1 (l:List Merged) (list:List Int) (bit:Int) (i j:Nat):List Span→List Merged
 | []=>(l.drop i).take (l.length - i)++((list.drop j).take (list.length - j)).map fun v=>⟨v,bit⟩
 | x::r=>(l.drop i).take (x.From.toNat - i)++(((list.drop j).take (x.To.toNat - j)).map fun v=>⟨v,bit⟩)++((l[x.From.toNat]?.map fun y=>(⟨y.Line,M6 y.Parents bit⟩:Merged)).toList++Z1 l list bit (x.From.toNat+1) (x.To.toNat+1) r)
def Z2 (l:List Merged) (list:List Int) (p:Int):List Merged:=Z1 l list (J3 p) 0 0 (G9 0 0 (H8 l) list)
theorem E59 {α:Type} (l:List α) (i t:Nat) (h:i+t < l.length):(l.drop i).take (t+1)=(l.drop i).take t++[l[i+t]]:=by
 rw [List.take_add_one,K42,K06 h];rfl
end Go.AL
namespace Go.AL
open Go
def i8 (m:Int) (c:Nat):Bool:=m / 2 ^ c % 2 == 1
def j4 (r:Row) (c:Int):Bool:=if c = -1 then !r.Lost else if c < -1∨32≤c then false else i8 r.Marks c.toNat == r.Lost
def G8 (rows:List Row) (c:Int):List Str:=(rows.filter (j4 · c)).map (·.Text)
def V8 (n:Nat) (r:Row):Bool:=r.Marks / 2 ^ n == 0&&!(r.Lost&&r.Marks == 0)
def Q5 (rows:List Row) (n:Nat):Bool:=rows.all (V8 n)
def l9 (rows:List Row) (n:Nat):Bool:=rows.all (fun r=>H7 r.Text)&&(List.range (n+1)).all fun k=>X2 (G8 rows ((k:Int) - 1))
def L5 (t:Table):Int:=if t.Parents < 1∨32 < t.Parents then 2 else if Q5 t.Rows t.Parents.toNat=false then 180 else if l9 t.Rows t.Parents.toNat=false then 4 else 0
def R8 (t:Table) (c:Int):Str × Int:=if L5 t≠0 then ([],L5 t) else if c < -1∨t.Parents≤c then ([],3) else K3 (G8 t.Rows c)
theorem C84 (r:Row) (rs:List Row) (n:Nat):Q5 (r::rs) n=(V8 n r&&Q5 rs n):=rfl
def K1 (rows:List Row):Prop:=∀r∈rows,0≤r.Marks∧r.Marks < 4294967296
def P4 (rows:List Row):Nat:=(rows.map (·.Text)).flatten.length
theorem C05 (rows:List Row) (c:Int):(G8 rows c).length≤rows.length:=by unfold G8;rw [K29];exact List.length_filter_le _ _
theorem H87 (rows:List Row) (c:Int):(G8 rows c).flatten.length≤P4 rows:=by
 unfold G8 P4
 induction rows with
 | nil=>simp
 | cons r rs ih =>
  rw [K52]
  split
  ·simp only [K13,K18,K05];omega
  ·simp only [K13,K18,K05];omega
theorem G98 (rows:List Row):∀r∈rows,r.Text.length≤P4 rows:=by
 intro r hr
 unfold P4
 exact (List.sublist_flatten_of_mem (List.mem_map_of_mem hr)).length_le
theorem J48 (x:Int) (h:0≤x∧x < 4294967296):IntKind.u32.wrap ((BitVec.ofInt IntKind.u32.bits x &&& BitVec.ofInt IntKind.u32.bits 1).toNat:Int)=x % 2:=by
 have h1:(BitVec.ofInt IntKind.u32.bits x &&& BitVec.ofInt IntKind.u32.bits 1).toNat=x.toNat % 2:=by
  rw [BitVec.toNat_and,BitVec.toNat_ofInt,BitVec.toNat_ofInt]
  have e1:(x % ((2 ^ IntKind.u32.bits:Nat):Int)).toNat=x.toNat:=by
   rw [show ((2 ^ IntKind.u32.bits:Nat):Int)=4294967296 by rfl];omega
  have e2:((1:Int) % ((2 ^ IntKind.u32.bits:Nat):Int)).toNat=1:=by rfl
  rw [e1,e2,Nat.and_one_is_mod]
 rw [h1]
 have h2:IntKind.u32.wrap ((x.toNat % 2:Nat):Int)=((x.toNat % 2:Nat):Int):=by
  simp [IntKind.wrap,IntKind.signed,IntKind.bits];omega
 rw [h2];omega
theorem H88 {n:Int} (h:0≤n∧n < 18446744073709551616):IntKind.u64.wrap n=n:=by simp [IntKind.wrap,IntKind.signed,IntKind.bits];omega
theorem shr32 (m c:Int) (hc:0≤c∧c≤32):m.fdiv (2 ^ (min c.toNat IntKind.u32.bits))=m / 2 ^ c.toNat:=by
 rw [show min c.toNat IntKind.u32.bits=c.toNat from Nat.min_eq_left (by show c.toNat≤32;omega),Int.fdiv_eq_ediv_of_nonneg _ (Int.pow_nonneg (by decide))]
theorem shr_eq (m c:Int) (b:Nat) (hc:0≤c∧c≤b):m.fdiv (2 ^ (min c.toNat b))=m / 2 ^ c.toNat:=by
 rw [show min c.toNat b=c.toNat by omega,Int.fdiv_eq_ediv_of_nonneg _ (Int.pow_nonneg (by decide))]
end Go.AL
namespace Go.AL
open Go
theorem G22 (n:Int):0≤IntKind.u32.wrap n∧IntKind.u32.wrap n < 4294967296:=by simp [IntKind.wrap,IntKind.signed,IntKind.bits];omega
def u5 (a b:Int):Int:=IntKind.u32.wrap ((BitVec.ofInt IntKind.u32.bits a &&& ~~~BitVec.ofInt IntKind.u32.bits b).toNat:Int)
def I2 (acc:List Merged) (p:Nat):List (List Int)→List Merged × Int
 | []=>(acc,0)
 | x::r=>if 4096 < acc.length∨4096 < x.length then ([],1) else I2 (Z2 acc x p) (p+1) r
def H4 (lists:List (List Int)):List Merged × Int:=if 32 < lists.length then ([],1) else I2 [] 0 lists
theorem D67 (l:List Merged) (list:List Int) (bit:Int):∀(ps:List Span) (i j:Nat),i≤l.length→j≤list.length→Asc l.length list.length i j ps→(Z1 l list bit i j ps).length≤(l.length - i)+(list.length - j)
 | [],i,j,hi,hj,_=>by simp [Z1]
 | x::r,i,j,hi,hj,ha=>by
  obtain ⟨h1,h2,h3⟩:=ha
  have h4:=h3.le
  have e1:((x.From.toNat+1:Nat):Int)=x.From+1:=by omega
  have e2:((x.To.toNat+1:Nat):Int)=x.To+1:=by omega
  have ih:=D67 l list bit r (x.From.toNat+1) (x.To.toNat+1) (by omega) (by omega) (by rw [e1,e2];exact h3)
  have h5:((l[x.From.toNat]?.map fun y=>(⟨y.Line,M6 y.Parents bit⟩:Merged)).toList).length≤1:=by cases l[x.From.toNat]?<;>simp
  simp only [Z1,K05,K29,K22,K24]
  omega
theorem A65 (l:List Merged) (list:List Int) (p:Int):(Z2 l list p).length≤l.length+list.length:=by
 have hasc:=U4 (H8 l) list 0 0
 rw [Int.zero_add,Int.zero_add,show (H8 l).length=l.length by simp [H8]] at hasc
 have:=D67 l list (J3 p) (G9 0 0 (H8 l) list) 0 0 (Nat.zero_le _) (Nat.zero_le _) hasc
 simpa [Z2] using this
theorem W9 {α:Type} {l:List α} {i n:Nat} {x:α} (h:x∈(l.drop i).take n):x∈l:=List.mem_of_mem_drop (List.mem_of_mem_take h)
theorem E60 (l:List Merged) (list:List Int) (bit:Int) (hb:0≤bit∧bit < 4294967296) (hl:∀m∈l,0≤m.Parents∧m.Parents < 4294967296) (Q:Int→Prop) (hq1:∀m∈l,Q m.Line) (hq2:∀v∈list,Q v) :
  ∀(ps:List Span) (i j:Nat),∀m∈Z1 l list bit i j ps,(0≤m.Parents∧m.Parents < 4294967296)∧Q m.Line
 | [],i,j,m,hm=>by
  rcases List.mem_append.1 hm with h | h
  ·have:=W9 h;exact ⟨hl _ this,hq1 _ this⟩
  ·obtain ⟨v,hv,rfl⟩:=List.mem_map.1 h
   exact ⟨hb,hq2 _ (W9 hv)⟩
 | x :: r,i,j,m,hm=>by
  unfold Z1 at hm
  rcases List.mem_append.1 hm with h | h
  ·rcases List.mem_append.1 h with h | h
   ·have:=W9 h;exact ⟨hl _ this,hq1 _ this⟩
   ·obtain ⟨v,hv,rfl⟩:=List.mem_map.1 h
    exact ⟨hb,hq2 _ (W9 hv)⟩
  ·rcases List.mem_append.1 h with h | h
   ·cases hx:l[x.From.toNat]? with
    | none=>simp [hx] at h
    | some y =>
     simp [hx] at h
     subst h
     exact ⟨G22 _,hq1 y (K16 hx)⟩
   ·exact E60 l list bit hb hl Q hq1 hq2 r _ _ m h
theorem A66 (Q:Int→Prop) (B:Nat):∀(ls:List (List Int)) (acc:List Merged) (p:Nat),(∀x∈ls,x.length≤B∧∀v∈x,Q v)→(∀m∈acc,(0≤m.Parents∧m.Parents < 4294967296)∧Q m.Line) →
  (I2 acc p ls).1.length≤acc.length+ls.length*B∧∀m∈(I2 acc p ls).1,(0≤m.Parents∧m.Parents < 4294967296)∧Q m.Line
 | [],acc,p,_,ha=>by simp only [I2];exact ⟨by simp,ha⟩
 | x::r,acc,p,hl,ha=>by
  unfold I2
  split
  ·exact ⟨by simp,by simp⟩
  ·have hx:=hl x (List.mem_cons_self ..)
   have hj:=A65 acc x p
   have hm:=E60 acc x (J3 p) (G22 _) (fun m hm=>(ha m hm).1) Q (fun m hm=>(ha m hm).2) hx.2 (G9 0 0 (H8 acc) x) 0 0
   have ih:=A66 Q B r (Z2 acc x p) (p+1) (fun y hy=>hl y (List.mem_cons_of_mem _ hy)) hm
   refine ⟨?_,ih.2⟩
   have h1:=ih.1
   have h2:=hx.1
   simp only [K07,K26,Nat.one_mul]
   omega
theorem A83 (Q:Int→Prop) (B:Nat) (ls:List (List Int)) (h:∀x∈ls,x.length≤B∧∀v∈x,Q v):(H4 ls).1.length≤ls.length*B∧∀m∈(H4 ls).1,(0≤m.Parents∧m.Parents < 4294967296)∧Q m.Line:=by
 unfold H4
 split
 ·exact ⟨by simp,by simp⟩
 ·have:=A66 Q B ls [] 0 h (by simp)
  simpa using this
def W4 (p:Int) (ms:List Int) (x:Span):List Int:=ms.set x.To.toNat (u5 (ms.getD x.To.toNat 0) (J3 p))
def P5 (p:Nat) (file:List Int) (g:Nat→List (List Int)) (c:Change):Nat→List (List Int):=fun k =>
 if k=c.New.toNat then (g k).set p ((file.drop c.Old.toNat).take ((c.Old+c.OldLen).toNat - c.Old.toNat)) else g k
abbrev Loom:=List Int × (Nat→List (List Int))
def n5 (ids:List (List Int)) (s:Loom) (p:Nat):Loom :=
 let file:=ids.getD (p+1) []
 let sc:=M5 file (ids.getD 0 [])
 ((N0 sc file.length).foldl (W4 p) (s.1.map (M6 · (J3 p))),sc.foldl (P5 p file) s.2)
def E61 (lines n:Nat):Loom:=(List.replicate lines 0,fun _=>List.replicate n [])
def X3 (ids:List (List Int)) (lines n p:Nat):Loom:=(List.range p).foldl (n5 ids) (E61 lines n)
def S8 (names:List Str) (file:List Str) (s:Loom) (k:Nat):List Row :=
 (H4 (s.2 k)).1.map (fun m=>(⟨true,m.Parents,names.getD m.Line.toNat []⟩:Row))++(if k < file.length then [⟨false,s.1.getD k 0,file.getD k []⟩] else [])
def X4 (names:List Str) (file:List Str) (s:Loom) (k:Nat):List Row:=((List.range k).map (S8 names file s)).flatten
def G1 (result:Str) (parents:List Str):Table × Int :=
 if parents.length < 1∨32 < parents.length then (⟨0,[]⟩,2) else
 let fs:=B8 result::parents.map B8
 let names:=E0 fs
 let s:=X3 (fs.map (F5 names)) (B8 result).length parents.length parents.length
 if ∃k,k < (B8 result).length+1∧(H4 (s.2 k)).2≠0 then (⟨0,[]⟩,1) else (⟨parents.length,X4 names (B8 result) s ((B8 result).length+1)⟩,0)
theorem D68 (names file:List Str) (s:Loom) (k:Nat):X4 names file s (k+1)=X4 names file s k++S8 names file s k:=by
 unfold X4;rw [K47,K19,K21];simp
structure LoomOk (Q:Int→Prop) (B lines n:Nat) (s:Loom):Prop where
 len:s.1.length=lines
 marks:∀m∈s.1,0≤m∧m < 4294967296
 gaps:∀k,(s.2 k).length=n∧∀x∈s.2 k,x.length≤B∧∀v∈x,Q v
theorem J49 (Q:Int→Prop) (B lines n:Nat):LoomOk Q B lines n (E61 lines n) where
 len:=by simp [E61]
 marks:=fun m hm=>by have:=List.eq_of_mem_replicate hm;subst this;decide
 gaps:=fun k=>⟨by simp [E61],fun x hx=>by have:=List.eq_of_mem_replicate hx;subst this;simp⟩
theorem I90 {Q:Int→Prop} {B n p:Nat} {file:List Int} (hf:file.length≤B∧∀v∈file,Q v) {g:Nat→List (List Int)} (hg:∀k,(g k).length=n∧∀x∈g k,x.length≤B∧∀v∈x,Q v) (c:Change) :
  ∀k,(P5 p file g c k).length=n∧∀x∈P5 p file g c k,x.length≤B∧∀v∈x,Q v:=by
 intro k
 unfold P5
 split
 ·refine ⟨by rw [K54];exact (hg k).1,fun x hx=>?_⟩
  rcases List.mem_or_eq_of_mem_set hx with h | rfl
  ·exact (hg k).2 x h
  ·exact ⟨by simp;omega,fun v hv=>hf.2 v (W9 hv)⟩
 ·exact hg k
theorem C85 {Q:Int→Prop} {B n p:Nat} {file:List Int} (hf:file.length≤B∧∀v∈file,Q v):∀(sc:List Change) {g:Nat→List (List Int)},(∀k,(g k).length=n∧∀x∈g k,x.length≤B∧∀v∈x,Q v) →
  ∀k,(sc.foldl (P5 p file) g k).length=n∧∀x∈sc.foldl (P5 p file) g k,x.length≤B∧∀v∈x,Q v
 | [],_,hg=>hg
 | c::r,_,hg=>C85 hf r (I90 hf hg c)
theorem G99 {p:Int} {ms:List Int} {x:Span} (h:∀m∈ms,0≤m∧m < 4294967296):(W4 p ms x).length=ms.length∧∀m∈W4 p ms x,0≤m∧m < 4294967296:=by
 refine ⟨by simp [W4],fun m hm=>?_⟩
 rcases List.mem_or_eq_of_mem_set hm with h' | rfl
 ·exact h m h'
 ·exact G22 _
theorem B68 {p:Int}:∀(ps:List Span) {ms:List Int},(∀m∈ms,0≤m∧m < 4294967296)→(ps.foldl (W4 p) ms).length=ms.length∧∀m∈ps.foldl (W4 p) ms,0≤m∧m < 4294967296
 | [],ms,h=>⟨rfl,h⟩
 | x::r,ms,h=>by
  have h1:=G99 (p:=p) (x:=x) h
  have h2:=B68 (p:=p) r h1.2
  exact ⟨h2.1.trans h1.1,h2.2⟩
theorem F33 {Q:Int→Prop} {B lines n:Nat} {ids:List (List Int)} (hids:∀x∈ids,x.length≤B∧∀v∈x,Q v) {s:Loom} (h:LoomOk Q B lines n s) (p:Nat):LoomOk Q B lines n (n5 ids s p):=by
 have hf:(ids.getD (p+1) []).length≤B∧∀v∈ids.getD (p+1) [],Q v:=by
  rw [K09]
  cases hx:ids[p+1]? with
  | none=>simp
  | some x=>exact hids x (K16 hx)
 have hr:∀m∈s.1.map (M6 · (J3 p)),0≤m∧m < 4294967296:=fun m hm=>by
  obtain ⟨v,_,rfl⟩:=List.mem_map.1 hm;exact G22 _
 have hc:=B68 (p:=p) (N0 (M5 (ids.getD (p+1) []) (ids.getD 0 [])) (ids.getD (p+1) []).length) hr
 exact { len:=by rw [n5];simp only;rw [hc.1,K29];exact h.len,marks:=hc.2,gaps:=C85 hf _ h.gaps }
theorem B69 (ids:List (List Int)) (lines n p:Nat):X3 ids lines n (p+1)=n5 ids (X3 ids lines n p) p:=by
 unfold X3;rw [K47,K51];rfl
theorem A98 {Q:Int→Prop} {B lines n:Nat} {ids:List (List Int)} (hids:∀x∈ids,x.length≤B∧∀v∈x,Q v):∀p,LoomOk Q B lines n (X3 ids lines n p)
 | 0=>J49 Q B lines n
 | p+1=>by rw [B69];exact F33 hids (A98 hids p) p
theorem y3 (l:List Str) (s:Str):∀k:Int,0≤k→s∈l→k≤H1 l s k∧H1 l s k < k+l.length:=by
 induction l with
 | nil=>intro k _ h;cases h
 | cons x r ih =>
  intro k hk h
  unfold H1
  by_cases hx:x=s
  ·rw [if_pos hx];simp;omega
  ·rw [if_neg hx]
   have:=ih (k+1) (by omega) (by rcases List.mem_cons.1 h with rfl | h;exact absurd rfl hx;exact h)
   simp only [K07];omega
theorem D86 (l:List Str):∀(out:List Str) (s:Str),s∈out∨s∈l→s∈l.foldl K7 out:=by
 induction l with
 | nil=>intro out s h;rcases h with h | h;exact h;cases h
 | cons x r ih =>
  intro out s h
  apply ih
  rcases h with h | h
  ·left;unfold K7;split;exact h;exact List.mem_append_left _ h
  ·rcases List.mem_cons.1 h with rfl | h
   ·left;unfold K7;split;assumption;simp
   ·exact .inr h
theorem T5 (fs:List (List Str)) (s:Str) (f:List Str) (hf:f∈fs) (hs:s∈f):s∈E0 fs:=D86 _ _ _ (.inr (List.mem_flatten.2 ⟨f,hf,hs⟩))
theorem ids_in (fs:List (List Str)):∀x∈fs.map (F5 (E0 fs)),∀v∈x,0≤v∧v < (E0 fs).length:=by
 intro x hx v hv
 obtain ⟨f,hf,rfl⟩:=List.mem_map.1 hx
 obtain ⟨s,hs,rfl⟩:=List.mem_map.1 hv
 have:=y3 (E0 fs) s 0 (Int.le_refl _) (T5 fs s f hf hs)
 omega
theorem D87 (l:List Str):∀(out:List Str) (s:Str),s∈l.foldl K7 out→s∈out∨s∈l:=by
 induction l with
 | nil=>intro out s h;exact .inl h
 | cons x r ih =>
  intro out s h
  rcases ih _ _ h with h | h
  ·unfold K7 at h
   split at h
   ·exact .inl h
   ·rcases List.mem_append.1 h with h | h
    ·exact .inl h
    ·simp at h;subst h;exact .inr (by simp)
  ·exact .inr (List.mem_cons_of_mem _ h)
theorem D69 (fs:List (List Str)) (s:Str) (h:s∈E0 fs):s∈fs.flatten:=by
 rcases D87 _ _ _ h with h | h
 ·cases h
 ·exact h
end Go.AL
namespace Go.AL
open Go
theorem C86 (s:Str):Lib.hasSuffix s [10]=ended s:=by
 unfold Lib.hasSuffix ended
 rw [Bool.eq_iff_iff,List.isSuffixOf_iff_suffix,beq_iff_eq]
 constructor
 ·rintro ⟨t,rfl⟩;simp
 ·intro h
  obtain ⟨hne,h2⟩:=List.getLast?_eq_some_iff.1 h
  exact ⟨hne,h2.symm⟩
def B21 (s:Str):Str:=if ended s then s.dropLast else s
theorem F34 (s:Str):Lib.trimSuffix s [10]=B21 s:=by
 unfold Lib.trimSuffix B21
 rw [C86,List.dropLast_eq_take];rfl
theorem m6 (c:UInt8):∀l:Str,(c∉l∧Lib.indexByte l c = -1)∨∃a b,l=a++c::b∧c∉a∧Lib.indexByte l c=a.length
 | []=>.inl ⟨by simp,rfl⟩
 | x::l=>by
  unfold Lib.indexByte
  by_cases hx:x=c
  ·exact .inr ⟨[],l,by rw [hx];rfl,by simp,by simp [hx]⟩
  ·rcases m6 c l with ⟨h1,h2⟩ | ⟨a,b,h1,h2,h3⟩
   ·exact .inl ⟨by simp [h1,Ne.symm hx],by simp [hx,h2]⟩
   ·refine .inr ⟨x::a,b,by rw [h1];rfl,by simp [h2,Ne.symm hx],?_⟩
    have h4:¬((a.length:Int) = -1):=by omega
    simp [hx,h3,h4]
theorem C25 (c:UInt8) (l:Str):0≤Lib.indexByte l c↔c∈l:=by
 rcases m6 c l with ⟨h1,h2⟩ | ⟨a,b,h1,h2,h3⟩
 ·rw [h2];simp [h1]
 ·rw [h3,h1];simp
theorem G23 (a b:Str) (c:UInt8) (h:b≠[]):c∈(a++c::b).dropLast:=by
 rw [List.dropLast_append_of_ne_nil (by simp),List.dropLast_cons_of_ne_nil h];simp
theorem D88 (l:Str):(0≤Lib.indexByte l 10∧Lib.indexByte l 10 < (l.length:Int) - 1)↔10∈l.dropLast:=by
 rcases m6 10 l with ⟨h1,h2⟩ | ⟨a,b,h1,h2,h3⟩
 ·rw [h2]
  have:10∉l.dropLast:=fun h=>h1 (List.dropLast_subset l h)
  simp [this]
 ·rw [h3]
  by_cases hb:b=[]
  ·subst hb
   have e:l.dropLast=a:=by rw [h1];simp
   rw [e,h1];simp [h2]
  ·have h4:=G23 a b 10 hb
   rw [←h1] at h4
   have h5:0 < b.length:=List.length_pos_iff.2 hb
   simp only [h4,iff_true]
   rw [h1];simp only [K05,K07];omega
theorem B22 (s:Str):H7 s=true↔s≠[]∧10∉s.dropLast:=by
 unfold H7
 rw [K08,List.all_eq_true]
 constructor
 ·rintro ⟨h1,h2⟩
  exact ⟨by simpa using h2,fun h=>by have:=h1 10 h;simp at this⟩
 ·rintro ⟨h1,h2⟩
  exact ⟨fun x hx=>by simpa using fun e:x=10=>h2 (e ▸ hx),by simpa using h1⟩
theorem J50 (s:Str):10∈B21 s↔10∈s.dropLast:=by
 unfold B21
 split
 ·exact Iff.rfl
 ·rename_i h
  by_cases hs:s=[]
  ·subst hs;simp
  ·constructor
   ·intro h2
    have e:=(List.dropLast_concat_getLast hs).symm
    rw [e] at h2
    rcases List.mem_append.1 h2 with h3 | h3
    ·exact h3
    ·exfalso
     refine h ?_
     unfold ended
     rw [List.getLast?_eq_some_getLast hs]
     simp at h3;simp [←h3]
   ·exact fun h2=>List.dropLast_subset s h2
theorem F71 (s:Str):(if decide (s≠[])=true then !decide (0≤Lib.indexByte (B21 s) 10) else false)=H7 s:=by
 rw [Bool.eq_iff_iff,B22]
 have h:=J50 s
 have h2:=C25 10 (B21 s)
 by_cases hs:s=[]
 ·simp [hs]
 ·simp [hs,h2,h]
theorem I91 (s:Str) (h:H7 s=true):ended s=true↔0≤Lib.indexByte s 10:=by
 obtain ⟨h1,h2⟩:=(B22 s).1 h
 rw [C25]
 have e:=(List.dropLast_concat_getLast h1).symm
 unfold ended
 rw [List.getLast?_eq_some_getLast h1]
 constructor
 ·intro h3
  have:s.getLast h1=10:=by simpa using h3
  rw [←this];exact List.getLast_mem h1
 ·intro h3
  rw [e] at h3
  rcases List.mem_append.1 h3 with h3 | h3
  ·exact absurd h3 h2
  ·simp at h3;simp [←h3]
def G24 (l:Str) (last:Bool):Prop:=l=[]∨(0≤Lib.indexByte l 10∧Lib.indexByte l 10 < (l.length:Int) - 1)∨(Lib.indexByte l 10 < 0∧last=false)
theorem H00 (l:Str) (r:List Str):G24 l r.isEmpty↔(H7 l&&(r.isEmpty||ended l))=false:=by
 unfold G24
 rw [D88]
 by_cases hl:H7 l=true
 ·obtain ⟨h1,h2⟩:=(B22 l).1 hl
  have h3:=I91 l hl
  cases hr:r.isEmpty
  ·cases he:ended l
   ·have:¬0≤Lib.indexByte l 10:=fun h=>by rw [h3.2 h] at he;cases he
    simp [hl,h1,h2];omega
   ·have:=h3.1 he
    simp [hl,h1,h2];omega
  ·simp [hl,h1,h2]
 ·have:l=[]∨10∈l.dropLast:=by
   by_cases h1:l=[]
   ·exact .inl h1
   ·exact .inr (Classical.byContradiction fun h2=>hl ((B22 l).2 ⟨h1,h2⟩))
  have hf:H7 l=false:=by simpa using hl
  rw [hf]
  constructor
  ·intro _;rfl
  ·intro _;rcases this with h | h
   ·exact .inl h
   ·exact .inr (.inl h)
theorem A67 (s:Str) (r:List Str):X2 (s::r)=(H7 s&&(r.isEmpty||ended s)&&X2 r):=rfl
theorem H01 (l:List Str):Lib.join l []=l.flatten:=by
 induction l with
 | nil=>rfl
 | cons s r ih =>
  cases r with
  | nil=>simp [Lib.join]
  | cons t r =>
   have e:List.intersperse ([]:Str) (s::t::r)=s::[]::List.intersperse [] (t::r):=rfl
   simp only [Lib.join,List.intercalate,e,K18,K32] at ih ⊢
   rw [ih]
def H02 (a b:Int):Int:=IntKind.u32.wrap ((BitVec.ofInt IntKind.u32.bits a &&& BitVec.ofInt IntKind.u32.bits b).toNat:Int)
def not32 (a:Int):Int:=IntKind.u32.wrap ((BitVec.ofInt IntKind.u32.bits IntKind.u32.max ^^^ BitVec.ofInt IntKind.u32.bits a).toNat:Int)
theorem y4 (n c:Nat):i8 (n:Int) c=n.testBit c:=by
 unfold i8
 rw [Nat.testBit_eq_decide_div_mod_eq]
 have:((n:Int) / 2 ^ c % 2 == 1)=decide (n / 2 ^ c % 2=1):=by
  rw [Bool.eq_iff_iff,beq_iff_eq,decide_eq_true_iff]
  have e:(n:Int) / 2 ^ c % 2=((n / 2 ^ c % 2:Nat):Int):=by simp
  rw [e];omega
 exact this
theorem A68 (n:Nat) (h:n < 4294967296):IntKind.u32.wrap (n:Int)=n:=by simp [IntKind.wrap,IntKind.signed,IntKind.bits];omega
theorem D31 (n:Nat):BitVec.ofInt IntKind.u32.bits (n:Int)=BitVec.ofNat 32 n:=BitVec.ofInt_natCast 32 n
theorem I92 (n m:Nat) (hn:n < 4294967296) (hm:m < 4294967296):H02 n m=((n &&& m:Nat):Int):=by
 unfold H02
 rw [D31,D31]
 have e:(BitVec.ofNat 32 n &&& BitVec.ofNat 32 m).toNat=n &&& m:=by
  rw [BitVec.toNat_and,BitVec.toNat_ofNat,BitVec.toNat_ofNat,Nat.mod_eq_of_lt (by omega),Nat.mod_eq_of_lt (by omega)]
 have h2:n &&& m < 2 ^ 32:=Nat.and_lt_two_pow n (by omega)
 show IntKind.u32.wrap ((BitVec.ofNat 32 n &&& BitVec.ofNat 32 m).toNat:Int)=_
 rw [e,A68 _ (by omega)]
theorem C87 (n m:Nat) (hn:n < 4294967296) (hm:m < 4294967296):M6 n m=((n ||| m:Nat):Int)∧n ||| m < 4294967296:=by
 unfold M6
 rw [D31,D31]
 have e:(BitVec.ofNat 32 n ||| BitVec.ofNat 32 m).toNat=n ||| m:=by
  rw [BitVec.toNat_or,BitVec.toNat_ofNat,BitVec.toNat_ofNat,Nat.mod_eq_of_lt (by omega),Nat.mod_eq_of_lt (by omega)]
 have h2:n ||| m < 2 ^ 32:=Nat.or_lt_two_pow (by omega) (by omega)
 refine ⟨?_,by omega⟩
 show IntKind.u32.wrap ((BitVec.ofNat 32 n ||| BitVec.ofNat 32 m).toNat:Int)=_
 rw [e,A68 _ (by omega)]
theorem I93 (n:Nat) (hn:n < 4294967296):not32 n=((4294967295 ^^^ n:Nat):Int)∧4294967295 ^^^ n < 4294967296:=by
 unfold not32
 rw [D31,show IntKind.u32.max=((4294967295:Nat):Int) from rfl,D31]
 have e:(BitVec.ofNat 32 4294967295 ^^^ BitVec.ofNat 32 n).toNat=4294967295 ^^^ n:=by
  rw [BitVec.toNat_xor,BitVec.toNat_ofNat,BitVec.toNat_ofNat,Nat.mod_eq_of_lt (by omega),Nat.mod_eq_of_lt (by omega)]
 have h2:4294967295 ^^^ n < 2 ^ 32:=Nat.xor_lt_two_pow (by omega) (by omega)
 refine ⟨?_,by omega⟩
 show IntKind.u32.wrap ((BitVec.ofNat 32 4294967295 ^^^ BitVec.ofNat 32 n).toNat:Int)=_
 rw [e,A68 _ (by omega)]
theorem J51 (c:Nat) (h:c < 32):(4294967295:Nat).testBit c=true:=by
 have:(4294967295:Nat)=2 ^ 32 - 1:=rfl
 rw [this,Nat.testBit_two_pow_sub_one];simpa using h
def F35 (r:Row):Int:=if r.Lost then r.Marks else not32 r.Marks
def C26 (res:Bool) (par:Int) (r:Row):Bool:=decide (H02 par (F35 r)=0)&&(r.Lost||!res)
def B70 (res:Bool) (r:Row):Bool:=if ended r.Text then res else res||!r.Lost
def B71 (par:Int) (r:Row):Int:=if ended r.Text then par else M6 par (F35 r)
def Q6:Bool→Int→List Row→Bool
 | _,_,[]=>true
 | res,par,r::rs=>H7 r.Text&&C26 res par r&&Q6 (B70 res r) (B71 par r) rs
theorem H03 (r:Row) (hr:0≤r.Marks∧r.Marks < 4294967296):∃m:Nat,m < 4294967296∧F35 r=m∧∀c,c < 32→m.testBit c=j4 r c:=by
 obtain ⟨k,hk⟩:∃k:Nat,r.Marks=k:=⟨r.Marks.toNat,by omega⟩
 have hv:∀c:Nat,c < 32→j4 r c=(k.testBit c == r.Lost):=by
  intro c hc
  rw [j4,if_neg (by omega),if_neg (by omega),hk,K12,y4]
 unfold F35
 cases hl:r.Lost
 ·have:=I93 k (by omega)
  refine ⟨4294967295 ^^^ k,this.2,by rw [if_neg (by simp),hk];exact this.1,fun c hc=>?_⟩
  rw [hv c hc,hl,Nat.testBit_xor,J51 c hc]
  cases k.testBit c<;>rfl
 ·refine ⟨k,by omega,by rw [if_pos rfl];exact hk,fun c hc=>?_⟩
  rw [hv c hc,hl]
  cases k.testBit c<;>rfl
theorem B23 (r:Row):j4 r (-1)=!r.Lost:=by rw [j4,if_pos rfl]
def m7:Bool→List Str→Bool
 | _,[]=>true
 | b,s::r=>!b&&H7 s&&m7 (!ended s) r
theorem G25 (l:List Str):m7 true l=l.isEmpty:=by cases l<;>simp [m7]
theorem H04 (l:List Str):X2 l=m7 false l:=by
 induction l with
 | nil=>rfl
 | cons s r ih =>
  rw [A67,ih,m7]
  cases he:ended s
  ·rw [show (!false)=true from rfl,G25]
   cases r<;>simp [m7]
  ·simp
structure EndsAt (res:Bool) (par:Int) (bad:Int→Bool):Prop where
 res:res=bad (-1)
 par:∃p:Nat,p < 4294967296∧par=p∧∀c:Nat,c < 32→p.testBit c=bad c
theorem J52 (n m:Nat) (hm:m < 4294967296):n &&& m=0↔∀c,c < 32→m.testBit c=true→n.testBit c=false:=by
 constructor
 ·intro h c hc hm1
  have:(n &&& m).testBit c=false:=by rw [h];simp
  rw [Nat.testBit_and,hm1] at this
  simpa using this
 ·intro h
  refine Nat.eq_of_testBit_eq fun c=>?_
  rw [Nat.testBit_and,Nat.zero_testBit]
  by_cases hc:c < 32
  ·cases hm1:m.testBit c
   ·simp
   ·rw [h c hc hm1];rfl
  ·have:m.testBit c=false:=Nat.testBit_lt_two_pow (Nat.lt_of_lt_of_le (by omega:m < 2 ^ 32) (Nat.pow_le_pow_right (by omega) (by omega)))
   rw [this];simp
theorem I94 {res:Bool} {par:Int} {bad:Int→Bool} (h:EndsAt res par bad) (r:Row) (hr:0≤r.Marks∧r.Marks < 4294967296):C26 res par r=true↔∀c:Int,-1≤c→c < 32→j4 r c=true→bad c=false:=by
 obtain ⟨m,hm,he,hb⟩:=H03 r hr
 obtain ⟨p,hp,hpe,hpb⟩:=h.par
 unfold C26
 rw [he,hpe,I92 p m hp hm,K08,decide_eq_true_iff,show (((p &&& m:Nat):Int)=0)↔p &&& m=0 by omega,J52 p m hm]
 constructor
 ·rintro ⟨h1,h2⟩ c hc1 hc2 hv
  by_cases hc:c = -1
  ·subst hc
   rw [B23] at hv
   rw [←h.res]
   simpa [show r.Lost=false by simpa using hv] using h2
  ·obtain ⟨k,rfl⟩:∃k:Nat,c=k:=⟨c.toNat,by omega⟩
   rw [←hpb k (by omega)]
   exact h1 k (by omega) (by rw [hb k (by omega)];exact hv)
 ·intro h1
  refine ⟨fun c hc hm1=>?_,?_⟩
  ·rw [hpb c hc]
   exact h1 c (by omega) (by omega) (by rw [←hb c hc];exact hm1)
  ·cases hl:r.Lost
   ·have:=h1 (-1) (by omega) (by omega) (by rw [B23,hl];rfl)
    rw [h.res,this];rfl
   ·rfl
theorem I95 {res:Bool} {par:Int} {bad:Int→Bool} (h:EndsAt res par bad) (r:Row) (hr:0≤r.Marks∧r.Marks < 4294967296):EndsAt (B70 res r) (B71 par r) (fun c=>bad c||(j4 r c&&!ended r.Text)):=by
 obtain ⟨m,hm,he,hb⟩:=H03 r hr
 obtain ⟨p,hp,hpe,hpb⟩:=h.par
 unfold B70 B71
 cases hen:ended r.Text
 ·have ho:=C87 p m hp hm
  refine ⟨?_,p ||| m,ho.2,?_,fun c hc=>?_⟩
  ·rw [if_neg (by simp),h.res,B23];simp
  ·rw [if_neg (by simp),he,hpe];exact ho.1
  ·rw [Nat.testBit_or,hpb c hc,hb c hc];simp
 ·refine ⟨?_,p,hp,?_,fun c hc=>?_⟩
  ·rw [if_pos rfl,h.res];simp
  ·rw [if_pos rfl];exact hpe
  ·rw [hpb c hc];simp
theorem C47 (r:Row) (rs:List Row) (c:Int):G8 (r::rs) c=if j4 r c then r.Text::G8 rs c else G8 rs c:=by
 unfold G8
 cases hv:j4 r c<;>simp [hv]
theorem E62:∀(rows:List Row) (res:Bool) (par:Int) (bad:Int→Bool),EndsAt res par bad→K1 rows→(Q6 res par rows=true↔(∀r∈rows,H7 r.Text=true)∧∀c:Int,-1≤c→c < 32→m7 (bad c) (G8 rows c)=true)
 | [],res,par,bad,_,_=>by simp [Q6,G8,m7]
 | r :: rs,res,par,bad,h,hr=>by
  have hr1:=hr r (by simp)
  have ih:=E62 rs _ _ _ (I95 h r hr1) (fun x hx=>hr x (by simp [hx]))
  rw [Q6,K08,K08,I94 h r hr1,ih]
  constructor
  ·rintro ⟨⟨h1,h2⟩,h3,h4⟩
   refine ⟨fun x hx=>?_,fun c hc1 hc2=>?_⟩
   ·rcases List.mem_cons.1 hx with rfl | hx
    ·exact h1
    ·exact h3 x hx
   ·have h5:=h4 c hc1 hc2
    rw [C47]
    cases hv:j4 r c
    ·rw [if_neg (by simp)];simpa [hv] using h5
    ·rw [if_pos rfl,m7,h2 c hc1 hc2 hv,h1]
     rw [h2 c hc1 hc2 hv,hv] at h5
     simpa using h5
  ·rintro ⟨h1,h2⟩
   refine ⟨⟨h1 r (by simp),fun c hc1 hc2 hv=>?_⟩,fun x hx=>h1 x (by simp [hx]),fun c hc1 hc2=>?_⟩
   ·have h3:=h2 c hc1 hc2
    rw [C47,hv,if_pos rfl,m7] at h3
    simp only [K08,Bool.not_eq_true'] at h3
    exact h3.1.1
   ·have h3:=h2 c hc1 hc2
    rw [C47] at h3
    cases hv:j4 r c
    ·rw [hv,if_neg (by simp)] at h3;simpa using h3
    ·rw [hv,if_pos rfl,m7] at h3
     simp only [K08,Bool.not_eq_true'] at h3
     rw [h3.1.1];simpa using h3.2
theorem ends0:EndsAt false 0 (fun _=>false):=⟨rfl,0,by omega,rfl,fun c _=>by simp⟩
theorem G26 (m:Int) (n c:Nat) (h0:0≤m) (h:m / 2 ^ n=0) (hc:n≤c):i8 m c=false:=by
 obtain ⟨k,rfl⟩:∃k:Nat,m=k:=⟨m.toNat,by omega⟩
 rw [y4]
 have h1:(k:Int) / 2 ^ n=((k / 2 ^ n:Nat):Int):=by simp
 rw [h1] at h
 have h2:k / 2 ^ n=0:=by omega
 have h3:k < 2 ^ n:=by
  rcases Nat.div_eq_zero_iff.1 h2 with h3 | h3
  ·have:=Nat.two_pow_pos n;omega
  ·exact h3
 exact Nat.testBit_lt_two_pow (Nat.lt_of_lt_of_le h3 (Nat.pow_le_pow_right (by omega) hc))
theorem G27 (rows:List Row) (n:Nat) (hm:Q5 rows n=true) (hr:K1 rows) (c:Int) (h1:(n:Int)≤c) (h2:c < 32):G8 rows c=G8 rows (-1):=by
 unfold G8
 have:rows.filter (j4 · c)=rows.filter (j4 · (-1)):=by
  refine List.filter_congr fun r hmem=>?_
  have h3:V8 n r=true:=List.all_eq_true.1 hm r hmem
  unfold V8 at h3
  simp only [K08,beq_iff_eq] at h3
  have h4:=G26 r.Marks n c.toNat (hr r hmem).1 h3.1 (by omega)
  rw [B23,j4,if_neg (by omega),if_neg (by omega),h4]
  cases r.Lost<;>rfl
 rw [this]
theorem E63 (rows:List Row) (n:Nat) (hn:n≤32) (hm:Q5 rows n=true) (hr:K1 rows):Q6 false 0 rows=l9 rows n:=by
 rw [Bool.eq_iff_iff,E62 rows false 0 _ ends0 hr,l9,K08,List.all_eq_true,List.all_eq_true]
 refine and_congr Iff.rfl ?_
 constructor
 ·intro h k hk
  have hk:=List.mem_range.1 hk
  rw [H04]
  exact h _ (by omega) (by omega)
 ·intro h c hc1 hc2
  have key:∀c:Int,-1≤c→c < n→m7 false (G8 rows c)=true:=by
   intro c h1 h2
   have:=h (c+1).toNat (List.mem_range.2 (by omega))
   rw [show (((c+1).toNat:Nat):Int) - 1=c by omega,H04] at this
   exact this
  by_cases hcn:c < n
  ·exact key c hc1 hcn
  ·rw [G27 rows n hm hr c (by omega) hc2]
   exact key (-1) (by omega) (by omega)
end Go.AL
namespace Go.AL
open Go
def D32 (c:UInt8):Bool:=decide (33≤c.toNat∧c.toNat≤126∧c.toNat≠34∧c.toNat≠92)
def digs8:Str:=[48,49,50,51,52,53,54,55]
def H05 (c:UInt8):Str:=(digs8.drop (c.toNat / 64)).take 1++(digs8.drop (c.toNat / 8 % 8)).take 1++(digs8.drop (c.toNat % 8)).take 1
def A99 (c:UInt8):Str:=if c.toNat=34∨c.toNat=92 then [92,c] else if c.toNat=10 then [92,110] else if c.toNat=9 then [92,116] else if c.toNat < 32∨126 < c.toNat then 92::H05 c else [c]
def c8 (s:Str):Str:=if s≠[]∧s.all D32=true then s else 34::((s.map A99).flatten++[34])
theorem I96 (c:UInt8):(H05 c).length≤3:=by unfold H05;simp only [K05,K22];omega
theorem F72 (c:UInt8):(A99 c).length≤4:=by
 have:=I96 c
 unfold A99;split
 ·simp
 ·split
  ·simp
  ·split
   ·simp
   ·split
    ·simp only [K07];omega
    ·simp
theorem C88 (s:Str):((s.map A99).flatten).length≤4*s.length:=by
 induction s with
 | nil=>simp
 | cons c r ih=>have:=F72 c;simp only [K13,K18,K05,K07];omega
theorem A14 (s:Str):(c8 s).length≤4*s.length+2:=by
 unfold c8;have:=C88 s
 split
 ·omega
 ·simp only [K07,K05,K10];omega
def B44 (n:Int):Str:=if n < 0∨2147483647 < n then [] else Lib.itoa n
def V9 (a n:Int):Str:=if a < 0∨n < 0∨2147483647 < a∨2147483647 - a < n then [] else if n=0 then B44 a++[44,48] else if n=1 then B44 (a+1) else B44 (a+1)++[44]++B44 n
theorem C27:∀(k u:Nat),u < 10 ^ (k+1)→(Lib.decDigits u).length≤k+1
 | 0,u,h=>by rw [Lib.decDigits,dif_pos (by omega)];simp
 | k+1,u,h=>by
  rw [Lib.decDigits]
  split
  ·simp
  ·have:=C27 k (u / 10) (by rw [Nat.div_lt_iff_lt_mul (by omega)];rw [Nat.pow_succ] at h;omega)
   simp only [K05,K07,K10];omega
theorem y5 (n:Int):(B44 n).length≤10:=by
 unfold B44;split
 ·simp
 ·unfold Lib.itoa
  rw [if_neg (by omega)]
  exact C27 9 n.toNat (by omega)
theorem Z3 (a n:Int):(V9 a n).length≤21:=by
 have:=y5 a;have:=y5 (a+1);have:=y5 n
 unfold V9
 split
 ·simp
 ·split
  ·simp only [K05,K07,K10];omega
  ·split
   ·omega
   ·simp only [K05,K07,K10];omega
theorem dig8 (k:Nat) (h:k < 8):(digs8.drop k).take 1=[UInt8.ofNat (48+k)]:=by
 have:∀k:Fin 8,(digs8.drop k.1).take 1=[UInt8.ofNat (48+k.1)]:=by decide
 exact this ⟨k,h⟩
theorem H06 (c:UInt8):H05 c=[UInt8.ofNat (48+c.toNat / 64),UInt8.ofNat (48+c.toNat / 8 % 8),UInt8.ofNat (48+c.toNat % 8)]:=by
 have:=c.toNat_lt
 unfold H05
 rw [dig8 _ (by omega),dig8 _ (by omega),dig8 _ (by omega)];rfl
def escs (s:Str) (i:Nat):Str:=((s.take i).map A99).flatten
theorem I97 (s:Str) (i:Nat) (h:i < s.length):escs s (i+1)=escs s i++A99 s[i]:=by
 unfold escs;rw [K14 h,K19,K21];simp only [K13,K46,K18,K43,K27]
theorem J53 (s:Str) (i:Nat) (h:i≤s.length):(escs s i).length≤4*i:=by
 have:=C88 (s.take i);unfold escs;rw [K22] at this;omega
def plains (s:Str) (i:Nat):Bool:=decide (s≠[])&&(s.take i).all D32
theorem H07 (s:Str):plains s 0=decide (s≠[]):=by simp [plains]
theorem H08 (s:Str) (i:Nat) (h:i < s.length):plains s (i+1)=(plains s i&&D32 s[i]):=by
 unfold plains;rw [K14 h,K55];simp only [List.all_cons,List.all_nil,Bool.and_true,Bool.and_assoc]
theorem E64 (s:Str):c8 s=if plains s s.length=true then s else (34::escs s s.length)++[34]:=by
 unfold c8 plains escs
 rw [K28]
 simp only [K08,decide_eq_true_eq,K40]
end Go.AL
namespace Go.AL
open Go
def N8 (cur:Str):Str→List Str
 | []=>[cur]
 | c::r=>if c=10 then (cur++[c])::N8 [] r else N8 (cur++[c]) r
def Q7 (b:Str):List Str:=N8 [] b
theorem F36 (a cur:Str) (h:(10:UInt8)∉a):N8 cur a=[cur++a]:=by
 induction a generalizing cur with
 | nil=>simp [N8]
 | cons c r ih =>
  simp only [K53,not_or] at h
  rw [N8,if_neg (fun e=>h.1 e.symm),ih _ h.2];simp
theorem G28 (a b cur:Str) (h:(10:UInt8)∉a):N8 cur (a++10::b)=(cur++a++[10])::N8 [] b:=by
 induction a generalizing cur with
 | nil=>simp [N8]
 | cons c r ih =>
  simp only [K53,not_or] at h
  rw [K40,N8,if_neg (fun e=>h.1 e.symm),ih _ h.2];simp
theorem Z4 (s cur:Str):(N8 cur s).length=s.count 10+1:=by
 induction s generalizing cur with
 | nil=>rfl
 | cons c r ih =>
  by_cases hc:c=10
  ·subst hc;rw [N8,if_pos rfl,K07,ih,List.count_cons_self]
  ·rw [N8,if_neg hc,ih,List.count_cons_of_ne hc]
theorem H09 (s cur:Str):F7 cur s=if (N8 cur s).getLastD []=[] then (N8 cur s).dropLast else N8 cur s:=by
 induction s generalizing cur with
 | nil=>by_cases h:cur=[]<;>simp [F7,N8,h]
 | cons c r ih =>
  rw [F7,N8]
  by_cases hc:c=10
  ·rw [if_pos hc,if_pos hc,ih]
   have hn:N8 [] r≠[]:=fun e=>by have:=Z4 r [];rw [e] at this;simp at this
   obtain ⟨x,y,hxy⟩:=List.exists_cons_of_ne_nil hn
   rw [hxy]
   have e1:((cur++[c])::x::y).getLastD []=(x::y).getLastD []:=by cases y<;>simp [List.getLastD]
   rw [e1]
   split
   ·rfl
   ·rfl
  ·rw [if_neg hc,if_neg hc,ih]
theorem E65 (s cur:Str):(F7 cur s).length=s.count 10+if s=[] then (if cur=[] then 0 else 1) else if ended s=true then 0 else 1:=by
 induction s generalizing cur with
 | nil=>by_cases h:cur=[]<;>simp [F7,h]
 | cons c r ih =>
  have he:ended (c::r)=if r=[] then c == 10 else ended r:=by
   cases r with
   | nil=>simp [ended]
   | cons d t=>simp [ended,List.getLast?_cons_cons]
  rw [F7,if_neg (List.cons_ne_nil _ _),he]
  by_cases hc:c=10
  ·subst hc
   rw [if_pos rfl,K07,ih,List.count_cons_self]
   by_cases hr:r=[]<;>simp [hr]
   omega
  ·rw [if_neg hc,ih,List.count_cons_of_ne hc]
   by_cases hr:r=[]<;>simp [hr,hc]
theorem F37 (s:Str):(B8 s).length=s.count 10+if s≠[]∧ended s=false then 1 else 0:=by
 unfold B8
 rw [E65]
 by_cases hs:s=[]<;>simp [hs]
 cases ended s<;>simp
theorem H89 {P:List Str} {i:Nat} {r a b:Str} (h:P.drop i=Q7 r) (hr:r=a++10::b) (ha:(10:UInt8)∉a):P[i]?=some (a++[10])∧P.drop (i+1)=Q7 b:=by
 have e:Q7 r=(a++[10])::Q7 b:=by rw [hr];unfold Q7;rw [G28 _ _ _ ha];rfl
 rw [e] at h
 refine ⟨by rw [←List.head?_drop,h];rfl,?_⟩
 rw [←List.tail_drop,h];rfl
theorem F73 {α:Type} (P:List α) (z x:α) (i:Nat) (h:P[i]?=some x):(P.take i++List.replicate (P.length - i) z).set i x=P.take (i+1)++List.replicate (P.length - (i+1)) z:=by
 obtain ⟨hi,hx⟩:=List.getElem?_eq_some_iff.1 h
 have hl:(P.take i).length=i:=by rw [K22];omega
 rw [List.set_append_right _ _ (by omega),hl,Nat.sub_self,show P.length - i=(P.length - (i+1))+1 by omega,List.replicate_succ,List.set_cons_zero,K14 hi,hx,K23]
 rfl
def W0 (b:Str):List Str × Int:=if b.length > 1048576∨(B8 b).length > 4096 then ([],1) else (B8 b,0)
theorem H10 (b:Str):(W0 b).1.length≤4096:=by
 unfold W0;split
 ·simp
 ·dsimp only;omega
end Go.AL
namespace Go.AL
open Go
def H5 (n:Int):Prop:=0≤n∧n≤4096
instance (n:Int):Decidable (H5 n):=by unfold H5;exact inferInstance
def D89 (k:Nat) (i j:Int) (c:Change):Prop:=((((((¬H5 c.Old∨¬H5 c.OldLen)∨¬H5 c.New)∨¬H5 c.NewLen)∨c.OldLen+c.NewLen=0)∨c.Old - i≠c.New - j)∨c.Old < i)∨(0 < (k:Int)∧c.Old=i)
instance (k:Nat) (i j:Int) (c:Change):Decidable (D89 k i j c):=by unfold D89;exact inferInstance
def J1 (k:Nat) (i j:Int):List Change→Int→Int→Bool
 | [],m,n=>decide (¬(m - i≠n - j∨m < i))
 | c::r,m,n=>decide (¬D89 k i j c)&&J1 (k+1) (c.Old+c.OldLen) (c.New+c.NewLen) r m n
def d9 (l:List Change) (m n:Int):Int:=if ¬H5 m∨¬H5 n then 80 else if J1 0 0 0 l m n=true then 0 else 80
def ScOk (i j:Int):List Change→Int→Int→Prop
 | [],m,n=>i≤m∧j≤n
 | c::r,m,n=>H5 c.Old∧H5 c.OldLen∧H5 c.New∧H5 c.NewLen∧i≤c.Old∧j≤c.New∧ScOk (c.Old+c.OldLen) (c.New+c.NewLen) r m n
theorem Z5:∀(l:List Change) (k:Nat) (i j m n:Int),J1 k i j l m n=true→ScOk i j l m n
 | [],k,i,j,m,n,h=>by simp only [J1,decide_eq_true_eq] at h;simp only [ScOk];omega
 | c::r,k,i,j,m,n,h=>by
  simp only [J1,K08,decide_eq_true_eq] at h
  obtain ⟨h1,h2⟩:=h
  unfold D89 at h1
  refine ⟨?_,?_,?_,?_,?_,?_,Z5 r _ _ _ m n h2⟩
  all_goals (by_cases a1:H5 c.Old<;>by_cases a2:H5 c.OldLen<;>by_cases a3:H5 c.New<;>by_cases a4:H5 c.NewLen<;>simp [a1,a2,a3,a4] at h1 ⊢<;>omega)
theorem F74 {l:List Change} {m n:Int} (h:d9 l m n=0):H5 m∧H5 n∧ScOk 0 0 l m n:=by
 unfold d9 at h
 split at h
 ·omega
 ·rename_i h1
  split at h
  ·rename_i h2
   by_cases a1:H5 m<;>by_cases a2:H5 n<;>simp [a1,a2] at h1
   exact ⟨a1,a2,Z5 _ _ _ _ _ _ h2⟩
  ·omega
def cAt (l:List Change) (k:Nat):Change:=l.getD k ⟨0,0,0,0⟩
theorem A32 {l:List Change} {k:Nat} (h:k < l.length):l[k]?=some (cAt l k):=by
 unfold cAt;rw [K09,K06 h];rfl
theorem ScOk.end_le:∀{l:List Change} {i j m n:Int},ScOk i j l m n→i≤m∧j≤n
 | [],_,_,_,_,h=>h
 | c::r,i,j,m,n,⟨h1,h2,h3,h4,h5,h6,h7⟩=>by have:=h7.end_le;unfold H5 at *;omega
theorem ScOk.get:∀{l:List Change} {i j m n:Int} (k:Nat),ScOk i j l m n→k < l.length→H5 (cAt l k).Old∧H5 (cAt l k).OldLen∧H5 (cAt l k).New∧H5 (cAt l k).NewLen∧(cAt l k).Old+(cAt l k).OldLen≤m∧(cAt l k).New+(cAt l k).NewLen≤n
 | c::r,i,j,m,n,0,⟨h1,h2,h3,h4,h5,h6,h7⟩,_=>by have:=h7.end_le;exact ⟨h1,h2,h3,h4,this.1,this.2⟩
 | c::r,i,j,m,n,k+1,⟨h1,h2,h3,h4,h5,h6,h7⟩,hk=>by
  have:=h7.get k (by simpa using hk)
  simpa [cAt] using this
theorem ScOk.next:∀{l:List Change} {i j m n:Int} (k:Nat),ScOk i j l m n→k+1 < l.length→(cAt l k).Old+(cAt l k).OldLen≤(cAt l (k+1)).Old
 | [c],_,_,_,_,_,_,hk=>by simp at hk
 | c::c2::r,i,j,m,n,0,⟨_,_,_,_,_,_,h7⟩,_=>by simpa [cAt] using h7.2.2.2.2.1
 | c::c2::r,i,j,m,n,k+1,⟨_,_,_,_,_,_,h7⟩,hk=>by
  have:=h7.next k (by simpa using hk)
  simpa [cAt] using this
theorem ScOk.mono {l:List Change} {m n:Int} (h:ScOk 0 0 l m n):∀(a b:Nat),a≤b→b < l.length→(cAt l a).Old≤(cAt l b).Old∧(cAt l a).Old+(cAt l a).OldLen≤(cAt l b).Old+(cAt l b).OldLen
 | a,0,h1,h2=>by rw [show a=0 by omega];omega
 | a,b+1,h1,h2=>by
  by_cases hab:a=b+1
  ·subst hab;omega
  ·have h3:=h.mono a b (by omega) (by omega)
   have h4:=h.next b h2
   have h5:=h.get b (by omega)
   have h6:=h.get (b+1) h2
   unfold H5 at *;omega
def r5 (a b:Int):Int:=if b < a then b else a
def opens (l:List Change) (ctx:Int) (k:Nat):Prop:=k=0∨2*ctx < (cAt l k).Old - (cAt l (k - 1)).Old - (cAt l (k - 1)).OldLen
instance (l:List Change) (ctx:Int) (k:Nat):Decidable (opens l ctx k):=by unfold opens;exact inferInstance
def E66:Hunk:=⟨0,0,⟨0,0⟩,⟨0,0⟩⟩
def T6 (l:List Change) (ctx:Int) (k:Nat):Hunk:=⟨k,0,⟨(cAt l k).Old - r5 ctx (cAt l k).Old,0⟩,⟨(cAt l k).New - r5 ctx (cAt l k).Old,0⟩⟩
def A69 (l:List Change) (m ctx:Int) (k:Nat) (h:Hunk):Hunk :=
 let c:=cAt l k
 let a:=r5 ctx (m - (c.Old+c.OldLen))
 ⟨h.First,k+1,⟨h.Old.From,c.Old+c.OldLen+a⟩,⟨h.New.From,c.New+c.NewLen+a⟩⟩
def c9 (l:List Change) (ctx:Int) (k:Nat) (out:List Hunk):List Hunk:=if opens l ctx k then out++[T6 l ctx k] else out
def H2 (l:List Change) (m ctx:Int):Nat→List Hunk
 | 0=>[]
 | k+1=>let out:=c9 l ctx k (H2 l m ctx k);out.set (out.length - 1) (A69 l m ctx k (out.getD (out.length - 1) E66))
def B24 (l:List Change) (m n ctx:Int):List Hunk × Int:=if ctx < 0∨1048576 < ctx then ([],3) else if d9 l m n≠0 then ([],d9 l m n) else (H2 l m ctx l.length,0)
theorem A15 (l:List Change) (m ctx:Int):∀k,(H2 l m ctx k).length≤k∧(0 < k→0 < (H2 l m ctx k).length)
 | 0=>by simp [H2]
 | k+1=>by
  have h:=A15 l m ctx k
  simp only [H2,K54,c9]
  split
  ·simp only [K05,K07,K10];omega
  ·rename_i ho
   have:k≠0:=fun e=>ho (.inl e)
   omega
def H90 (l:List Change) (m:Int) (k:Nat) (h:Hunk):Prop :=
 ∃a b:Nat,h.First=a∧h.Last=(b:Int)+1∧a≤b∧b < k∧0≤h.Old.From∧h.Old.From≤(cAt l a).Old∧(cAt l b).Old+(cAt l b).OldLen≤h.Old.To∧h.Old.To≤m ∧ -4096≤h.New.From∧h.New.From≤4096
theorem E67 {l:List Change} {m n ctx:Int} (hs:ScOk 0 0 l m n) (hc:0≤ctx):∀k,k≤l.length→∀h∈H2 l m ctx k,H90 l m k h
 | 0,_,h,hm=>by simp [H2] at hm
 | k + 1,hk,h,hm=>by
  have ih:=E67 hs hc k (by omega)
  have hg:=hs.get k (by omega)
  have hlen:=A15 l m ctx k
  simp only [H2] at hm
  obtain ⟨out,hout⟩:∃out,out=c9 l ctx k (H2 l m ctx k):=⟨_,rfl⟩
  rw [←hout] at hm
  have hmin:∀x,0≤x→0≤r5 ctx x∧r5 ctx x≤x:=fun x hx=>by unfold r5;split<;>omega
  have h1:=hmin (cAt l k).Old hg.1.1
  have h2:=hmin (m - ((cAt l k).Old+(cAt l k).OldLen)) (by omega)
  obtain ⟨⟨g1,g2⟩,⟨g3,g4⟩,⟨g5,g6⟩,⟨g7,g8⟩,g9,g10⟩:=hg
  have hend:∀h0:Hunk,(∃a:Nat,h0.First=a∧a≤k∧0≤h0.Old.From∧h0.Old.From≤(cAt l a).Old ∧ -4096≤h0.New.From∧h0.New.From≤4096)→H90 l m (k+1) (A69 l m ctx k h0):=by
   rintro h0 ⟨a,e1,e2,e3,e4,e5,e6⟩
   refine ⟨a,k,e1,rfl,e2,by omega,e3,e4,?_,?_,e5,e6⟩
   ·show _≤(cAt l k).Old+(cAt l k).OldLen+r5 ctx (m - ((cAt l k).Old+(cAt l k).OldLen));omega
   ·show (cAt l k).Old+(cAt l k).OldLen+r5 ctx (m - ((cAt l k).Old+(cAt l k).OldLen))≤m;omega
  obtain ⟨p,hp,rfl⟩:=List.getElem_of_mem hm
  rw [K54] at hp
  rw [List.getElem_set]
  split
  ·rename_i hq
   refine hend _ ?_
   by_cases ho:opens l ctx k
   ·have e:out=H2 l m ctx k++[T6 l ctx k]:=by rw [hout,c9,if_pos ho]
    have e2:out.getD (out.length - 1) E66=T6 l ctx k:=by rw [e];simp
    rw [e2]
    refine ⟨k,rfl,Nat.le_refl _,?_,?_,?_,?_⟩
    ·show 0≤(cAt l k).Old - r5 ctx (cAt l k).Old;omega
    ·show (cAt l k).Old - r5 ctx (cAt l k).Old≤_;omega
    ·show -4096≤(cAt l k).New - r5 ctx (cAt l k).Old;omega
    ·show (cAt l k).New - r5 ctx (cAt l k).Old≤_;omega
   ·have e:out=H2 l m ctx k:=by rw [hout,c9,if_neg ho]
    have hlt:out.length - 1 < (H2 l m ctx k).length:=by rw [e] at hp ⊢;omega
    have e2:out.getD (out.length - 1) E66∈H2 l m ctx k:=by
     rw [e] at hlt ⊢
     rw [K09,K06 hlt]
     exact K17 hlt
    obtain ⟨a,b,e3,e4,e5,e6,e7,e8,e9,e10,e11,e12⟩:=ih _ e2
    exact ⟨a,e3,by omega,e7,e8,e11,e12⟩
  ·rename_i hq
   have hin:out[p]∈H2 l m ctx k:=by
    by_cases ho:opens l ctx k
    ·have e:out=H2 l m ctx k++[T6 l ctx k]:=by rw [hout,c9,if_pos ho]
     have hlt:p < (H2 l m ctx k).length:=by
      have:out.length=(H2 l m ctx k).length+1:=by rw [e];simp
      omega
     have:out[p]=(H2 l m ctx k)[p]:=by simp only [e];rw [K45 hlt]
     rw [this];exact K17 hlt
    ·have e:out=H2 l m ctx k:=by rw [hout,c9,if_neg ho]
     have:out[p]∈out:=K17 hp
     rw [←e];exact this
   obtain ⟨a,b,e3,e4,e5,e6,e7⟩:=ih _ hin
   exact ⟨a,b,e3,e4,e5,by omega,e7⟩
end Go.AL
namespace Go.AL
open Go
def K4 (s:Str):Bool:=decide (1≤s.length∧s.length≤200)
def C4 (ls:List PatchLine) (k:UInt8):List Str:=(ls.filter (fun x=>decide (x.Kind≠k))).map (·.Text)
def H11 (x:PatchLine):Prop:=((x.Kind≠32∧x.Kind≠45)∧x.Kind≠43)∨H7 x.Text=false
instance (x:PatchLine):Decidable (H11 x):=by unfold H11;exact inferInstance
def n6 (x:PatchLine):Bool:=decide (¬H11 x)
def X5 (ls:List PatchLine):Bool:=ls.any (fun x=>decide (x.Kind≠32))
def W5 (some:Bool) (i j:Int) (h:PatchHunk):Prop:=((((some=false∨h.Old < i)∨h.New < j)∨4096 < h.Old)∨4096 < h.New)∨h.Old - i≠h.New - j
instance (s:Bool) (i j:Int) (h:PatchHunk):Decidable (W5 s i j h):=by unfold W5;exact inferInstance
def M2 (h:PatchHunk):Int:=(C4 h.Lines 43).length
def O7 (h:PatchHunk):Int:=(C4 h.Lines 45).length
def y6 (i j:Int):List PatchHunk→Bool
 | []=>true
 | h::r=>h.Lines.all n6&&(decide (¬W5 (X5 h.Lines) i j h)&&(decide (¬(4096 < h.Old+M2 h∨4096 < h.New+O7 h))&&y6 (h.Old+M2 h) (h.New+O7 h) r))
def J8 (hs:List PatchHunk) (k:UInt8):List Str:=(hs.map (fun h=>C4 h.Lines k)).flatten
def P6:List Str→Bool
 | []=>true
 | x::r=>(r.isEmpty||ended x)&&P6 r
def H91 (hs:List PatchHunk) (k:UInt8):Bool:=P6 (J8 hs k)
def u6 (hs:List PatchHunk):Bool:=y6 0 0 hs&&(H91 hs 43&&H91 hs 45)
def markS:Str:=[10,92,32,78,111,32,110,101,119,108,105,110,101,32,97,116,32,101,110,100,32,111,102,32,102,105,108,101,10]
def y7 (x:PatchLine):List Str:=if ended x.Text then [[x.Kind]++x.Text] else [[x.Kind]++x.Text,markS]
def j5 (h:PatchHunk):Str:=[64,64,32,45]++V9 h.Old (M2 h)++[32,43]++V9 h.New (O7 h)++[32,64,64,10]
def A24 (h:PatchHunk):List Str:=j5 h::(h.Lines.map y7).flatten
def B72 (p:Patch):List Str:=[[45,45,45,32]++c8 p.OldName++[10],[43,43,43,32]++c8 p.NewName++[10]]
def C89 (p:Patch):List Str:=B72 p++(p.Hunks.map A24).flatten
def d5 (p:Patch):Str:=(C89 p).flatten
def O6 (p:Patch):Int:=if K4 p.OldName=false∨K4 p.NewName=false then 120 else if u6 p.Hunks=false then 121 else if 16777216 < (d5 p).length then 1 else 0
def szL (x:PatchLine):Nat:=x.Text.length+64
def szH (h:PatchHunk):Nat:=64+(h.Lines.map szL).sum
def szP (hs:List PatchHunk):Nat:=(hs.map szH).sum
structure PFit (p:Patch):Prop where
 old:p.OldName.length≤4194304
 new:p.NewName.length≤4194304
 hunks:szP p.Hunks≤268435456
theorem H12 (ls:List PatchLine) (i:Nat):((ls.take i).map szL).sum≤(ls.map szL).sum:=by
 conv=>rhs;rw [←K38 i ls,K19,K48]
 omega
theorem B25 (ls:List PatchLine):64*ls.length≤(ls.map szL).sum:=by
 induction ls with
 | nil=>simp
 | cons x r ih=>simp only [K13,K34,K07,szL];omega
theorem E01 {ls:List PatchLine} {x:PatchLine} (h:x∈ls):x.Text.length+64≤(ls.map szL).sum:=by
 induction ls with
 | nil=>simp at h
 | cons y r ih =>
  simp only [K13,K34]
  rcases List.mem_cons.1 h with rfl | h
  ·unfold szL;omega
  ·have:=ih h;omega
theorem E02 {hs:List PatchHunk} {h:PatchHunk} (hm:h∈hs):szH h≤szP hs:=by
 unfold szP
 induction hs with
 | nil=>simp at hm
 | cons y r ih =>
  simp only [K13,K34]
  rcases List.mem_cons.1 hm with rfl | hm
  ·omega
  ·have:=ih hm;omega
theorem E03 (hs:List PatchHunk):64*hs.length≤szP hs:=by
 unfold szP
 induction hs with
 | nil=>simp
 | cons x r ih=>simp only [K13,K34,K07,szH];omega
theorem E68 (hs:List PatchHunk) (i:Nat):szP (hs.take i)≤szP hs:=by
 unfold szP
 conv=>rhs;rw [←K38 i hs,K19,K48]
 omega
theorem N9 (ls:List PatchLine) (k:UInt8):(C4 ls k).length≤ls.length:=by unfold C4;rw [K29];exact List.length_filter_le _ _
theorem A05 (ls:List PatchLine) (k:UInt8) (i:Nat) (h:i < ls.length):C4 (ls.take (i+1)) k=if ls[i].Kind≠k then C4 (ls.take i) k++[ls[i].Text] else C4 (ls.take i) k:=by
 unfold C4
 rw [K14 h,K50,K19]
 by_cases hk:ls[i].Kind=k
 ·rw [if_neg (by simp [hk])];simp [hk]
 ·rw [if_pos hk];simp [hk]
theorem H13 (x:PatchLine):(y7 x).flatten.length≤szL x:=by
 unfold y7 szL markS;split<;>simp<;>omega
theorem B26 (ls:List PatchLine):(ls.map y7).flatten.flatten.length≤(ls.map szL).sum:=by
 induction ls with
 | nil=>simp
 | cons x r ih=>have:=H13 x;simp only [K13,K18,K21,K05,K34];omega
theorem D33 (h:PatchHunk):(j5 h).length≤52:=by
 have h1:=Z3 h.Old (M2 h)
 have h2:=Z3 h.New (O7 h)
 unfold j5
 simp only [K05,K07,K10];omega
theorem H14 (h:PatchHunk):(A24 h).flatten.length≤szH h:=by
 have h1:=D33 h
 have h2:=B26 h.Lines
 unfold A24 szH
 simp only [K18,K05];omega
theorem B27 (hs:List PatchHunk):(hs.map A24).flatten.flatten.length≤szP hs:=by
 unfold szP
 induction hs with
 | nil=>simp
 | cons x r ih=>have:=H14 x;simp only [K13,K18,K21,K05,K34];omega
theorem B73 (p:Patch):(B72 p).flatten.length≤4*p.OldName.length+4*p.NewName.length+14:=by
 have h1:=A14 p.OldName
 have h2:=A14 p.NewName
 unfold B72
 simp only [K18,K43,K05,K07,K10];omega
theorem H15 (hs:List PatchHunk) (k:Nat) (h:k < hs.length):((hs.take (k+1)).map A24).flatten=((hs.take k).map A24).flatten++A24 hs[k]:=by
 rw [K14 h,K19,K21];simp only [K13,K46,K18,K43,K27]
theorem H16 (ls:List PatchLine) (k:Nat) (h:k < ls.length):((ls.take (k+1)).map y7).flatten=((ls.take k).map y7).flatten++y7 ls[k]:=by
 rw [K14 h,K19,K21];simp only [K13,K46,K18,K43,K27]
theorem C90:∀(hs:List PatchHunk) (i j:Int),y6 i j hs=true→0≤i→0≤j→∀h∈hs,(0≤h.Old∧h.Old≤4096)∧(0≤h.New∧h.New≤4096)
 | [],_,_,_,_,_,h,hm=>by simp at hm
 | x::r,i,j,hg,hi,hj,h,hm=>by
  simp only [y6,K08,decide_eq_true_eq] at hg
  obtain ⟨_,h1,h2,h3⟩:=hg
  unfold W5 at h1
  have hx:(0≤x.Old∧x.Old≤4096)∧(0≤x.New∧x.New≤4096):=by omega
  rcases List.mem_cons.1 hm with rfl | hm
  ·exact hx
  ·exact C90 r _ _ h3 (by unfold M2;omega) (by unfold O7;omega) h hm
theorem C91 {hs:List PatchHunk} (h:u6 hs=true):∀x∈hs,(0≤x.Old∧x.Old≤4096)∧(0≤x.New∧x.New≤4096):=by
 unfold u6 at h
 rw [K08] at h
 exact C90 hs 0 0 h.1 (by omega) (by omega)
end Go.AL
namespace Go.AL
open Go
def T7 (k:UInt8) (ts:List Str):List PatchLine:=ts.map fun t=>⟨k,t⟩
theorem H92 (k:UInt8) (ts:List Str) (i:Nat) (h:i < ts.length):T7 k (ts.take (i+1))=T7 k (ts.take i)++[⟨k,ts[i]⟩]:=by
 unfold T7;rw [K14 h,K19];rfl
theorem C06 (k:UInt8) (ts:List Str):(T7 k ts).length=ts.length:=by simp [T7]
def sub (x:List Str) (a b:Int):List Str:=(x.drop a.toNat).take (b.toNat - a.toNat)
theorem A70 (x:List Str) (a b:Int):(sub x a b).length≤x.length:=by unfold sub;rw [K22,K24];omega
def r7 (c:Change):Int:=c.Old+c.OldLen
def d7 (l:List Change) (i0:Int) (a t:Nat):Int:=if t=0 then i0 else r7 (cAt l (a+t - 1))
theorem E69 (l:List Change) (i0:Int) (a t:Nat):d7 l i0 a (t+1)=r7 (cAt l (a+t)):=by
 unfold d7;rw [if_neg (by omega)];congr 2
def U5 (l:List Change) (x y:List Str) (i0:Int) (a:Nat):Nat→List PatchLine
 | 0=>[]
 | t+1=>U5 l x y i0 a t++T7 32 (sub x (d7 l i0 a t) (cAt l (a+t)).Old)++T7 45 (sub x (cAt l (a+t)).Old (r7 (cAt l (a+t))))++T7 43 (sub y (cAt l (a+t)).New ((cAt l (a+t)).New+(cAt l (a+t)).NewLen))
def L6 (l:List Change) (x y:List Str) (h:Hunk):PatchHunk :=
 ⟨h.Old.From,h.New.From,U5 l x y h.Old.From h.First.toNat (h.Last.toNat - h.First.toNat)++T7 32 (sub x (d7 l h.Old.From h.First.toNat (h.Last.toNat - h.First.toNat)) h.Old.To)⟩
theorem H93 (l:List Change) (x y:List Str) (i0:Int) (a t:Nat):(U5 l x y i0 a t).length≤t*(2*x.length+y.length):=by
 induction t with
 | zero=>simp [U5]
 | succ t ih =>
  have h1:=A70 x (d7 l i0 a t) (cAt l (a+t)).Old
  have h2:=A70 x (cAt l (a+t)).Old (r7 (cAt l (a+t)))
  have h3:=A70 y (cAt l (a+t)).New ((cAt l (a+t)).New+(cAt l (a+t)).NewLen)
  simp only [U5,K05,C06]
  rw [Nat.succ_mul];omega
def X6:Patch:=⟨[],[],[]⟩
def U8 (x y:List Str):List Change:=M5 (F5 (E0 [x,y]) x) (F5 (E0 [x,y]) y)
theorem C92 (x y:List Str):(U8 x y).length≤x.length+1:=by
 unfold U8 M5 A23
 have h1:=A82 (G9 0 0 (F5 (E0 [x,y]) x) (F5 (E0 [x,y]) y)) 0 0 ((F5 (E0 [x,y]) x).length) ((F5 (E0 [x,y]) y).length)
 have h2:=A04 0 0 (F5 (E0 [x,y]) x) (F5 (E0 [x,y]) y)
 have h3:(F5 (E0 [x,y]) x).length=x.length:=by simp [F5]
 omega
end Go.AL
namespace Go.AL
open Go
def A47 (h:PatchHunk) (lines:List Str):Bool:=if (lines.length:Int) < h.Old+M2 h then false else decide ((lines.drop h.Old.toNat).take (C4 h.Lines 43).length=C4 h.Lines 43)
def F38:List PatchHunk→List Str→Nat
 | [],_=>0
 | h::r,x=>if A47 h x=true then F38 r x+1 else 0
def C48 (p:Patch) (blob:Str):Int × Int:=if O6 p≠0 then (0,O6 p) else if (W0 blob).2≠0 then (0,(W0 blob).2) else (F38 p.Hunks (W0 blob).1,0)
def hAt (hs:List PatchHunk) (k:Nat):PatchHunk:=hs.getD k ⟨0,0,[]⟩
theorem G29 {hs:List PatchHunk} {k:Nat} (h:k < hs.length):hs[k]?=some (hAt hs k):=by
 unfold hAt;rw [K09,K06 h];rfl
theorem I37 {hs:List PatchHunk} {k:Nat} (h:k < hs.length):hAt hs k∈hs:=K16 (G29 h)
def j6 (hs:List PatchHunk) (k:Nat):Int:=if k=0 then 0 else (hAt hs (k - 1)).Old+M2 (hAt hs (k - 1))
def u7 (hs:List PatchHunk) (x:List Str):Nat→List Str
 | 0=>[]
 | k+1=>u7 hs x k++sub x (j6 hs k) (hAt hs k).Old++C4 (hAt hs k).Lines 45
def E04 (hs:List PatchHunk) (x:List Str):Str × Int :=
 let out:=u7 hs x hs.length++x.drop (j6 hs hs.length).toNat
 if X2 out=false then ([],140) else K3 out
def A71 (p:Patch) (blob:Str):Str × Int:=if (C48 p blob).2≠0 then ([],(C48 p blob).2) else if (C48 p blob).1 < p.Hunks.length then ([],140) else E04 p.Hunks (B8 blob)
theorem D34 {h:PatchHunk} {x:List Str} (hf:A47 h x=true):h.Old+M2 h≤x.length:=by
 unfold A47 at hf
 split at hf
 ·cases hf
 ·omega
theorem B28:∀(hs:List PatchHunk) (i j:Int),y6 i j hs=true→∀k,k < hs.length→(if k=0 then i else (hAt hs (k - 1)).Old+M2 (hAt hs (k - 1)))≤(hAt hs k).Old
 | [],_,_,_,k,hk=>by simp at hk
 | y::r,i,j,hg,k,hk=>by
  simp only [y6,K08,decide_eq_true_eq] at hg
  obtain ⟨_,h1,_,h3⟩:=hg
  unfold W5 at h1
  match k with
  | 0=>simp only [if_pos];show i≤y.Old;omega
  | 1 =>
   have:=B28 r _ _ h3 0 (by simpa using hk)
   simpa [hAt] using this
  | k+2 =>
   have:=B28 r _ _ h3 (k+1) (by simp only [K07] at hk;omega)
   simpa [hAt] using this
theorem C93 (h:PatchHunk):0≤M2 h:=by unfold M2;omega
theorem H17 (x:List Str) (a b:Int) (_h0:0≤a) (h1:a≤b):(x.take a.toNat).flatten.length+(sub x a b).flatten.length=(x.take b.toNat).flatten.length:=by
 have e:x.take b.toNat=x.take a.toNat++sub x a b:=by
  unfold sub
  rw [show b.toNat=a.toNat+(b.toNat - a.toNat) by omega,List.take_add];congr 2;omega
 rw [e,K21,K05]
theorem J54 (hs:List PatchHunk) (k:Nat) (h:k < hs.length):szP (hs.take (k+1))=szP (hs.take k)+szH (hAt hs k):=by
 have e:hs[k]=hAt hs k:=by have:=G29 h;rw [K06 h] at this;exact Option.some.inj this
 unfold szP
 rw [K14 h,K19,K48,e];simp
theorem F39 (ls:List PatchLine) (k:UInt8):(C4 ls k).flatten.length+(C4 ls k).length≤(ls.map szL).sum:=by
 unfold C4
 induction ls with
 | nil=>simp
 | cons x r ih =>
  by_cases hx:x.Kind=k
  ·simp [hx,szL] at ih ⊢;omega
  ·simp [hx,szL] at ih ⊢;omega
end Go.AL
namespace Go.AL
open Go
def u9 (o n:Bool):List PatchLine→Option (Bool × Bool)
 | []=>some (o,n)
 | x::r =>
  if x.Kind≠43∧o=true then none
  else if x.Kind≠45∧n=true then none
  else u9 (if x.Kind≠43 then !ended x.Text else o) (if x.Kind≠45 then !ended x.Text else n) r
def Q8:Bool→List Str→Bool
 | _,[]=>true
 | o,s::r=>!o&&Q8 (!ended s) r
def j7 (o:Bool):List Str→Bool
 | []=>o
 | s::r=>j7 (!ended s) r
theorem A48:∀(a b:List Str) (o:Bool),Q8 o (a++b)=(Q8 o a&&Q8 (j7 o a) b)
 | [],b,o=>by simp [Q8,j7]
 | s::r,b,o=>by simp only [K40,Q8,j7,A48 r b];cases o<;>simp
theorem A84:∀(l:List Str),Q8 false l=P6 l
 | []=>rfl
 | s::r=>by
  have ih:=A84 r
  simp only [Q8,P6]
  cases he:ended s
  ·cases r with
   | nil=>rfl
   | cons t u=>simp [Q8]
  ·rw [←ih];cases r<;>simp [Q8]
theorem C94:∀(ls:List PatchLine) (o n:Bool),u9 o n ls=if Q8 o (C4 ls 43)&&Q8 n (C4 ls 45) then some (j7 o (C4 ls 43),j7 n (C4 ls 45)) else none
 | [],o,n=>by simp [u9,C4,Q8,j7]
 | x::r,o,n=>by
  have c1:C4 (x::r) 43=if x.Kind≠43 then x.Text::C4 r 43 else C4 r 43:=by
   unfold C4;by_cases h:x.Kind=43<;>simp [h]
  have c2:C4 (x::r) 45=if x.Kind≠45 then x.Text::C4 r 45 else C4 r 45:=by
   unfold C4;by_cases h:x.Kind=45<;>simp [h]
  rw [u9,C94 r,c1,c2]
  by_cases h1:x.Kind=43<;>by_cases h2:x.Kind=45<;>cases o<;>cases n<;>simp [h1,h2,Q8,j7]
def U9 (i j:Int) (h:PatchHunk):Prop:=((((h.Old < 0∨h.New < 0)∨4096 < h.Old)∨4096 < h.New)∨h.Old < i)∨h.Old - i≠h.New - j
instance (i j:Int) (h:PatchHunk):Decidable (U9 i j h):=by unfold U9;exact inferInstance
def A85 (i j:Int) (o n:Bool):List PatchHunk→Bool
 | []=>true
 | h::r =>
  (h.Lines.all n6&&X5 h.Lines)&&(decide (¬U9 i j h) &&
   match u9 o n h.Lines with
   | none=>false
   | some (o',n')=>decide (h.Old+M2 h≤4096∧h.New+O7 h≤4096)&&A85 (h.Old+M2 h) (h.New+O7 h) o' n' r)
theorem B74 (h:PatchHunk) (r:List PatchHunk) (k:UInt8):J8 (h::r) k=C4 h.Lines k++J8 r k:=rfl
theorem I38:∀(hs:List PatchHunk) (i j:Int) (o n:Bool),0≤i→0≤j→A85 i j o n hs=(y6 i j hs&&(Q8 o (J8 hs 43)&&Q8 n (J8 hs 45)))
 | [],i,j,o,n,_,_=>by simp [A85,y6,J8,Q8]
 | h::r,i,j,o,n,hi,hj=>by
  rw [A85,y6,B74,B74,A48,A48,C94]
  have a1:=C93 h
  have a2:0≤O7 h:=by unfold O7;omega
  cases e1:h.Lines.all n6
  ·simp
  cases e2:X5 h.Lines
  ·have:decide (¬W5 false i j h)=false:=decide_eq_false (fun hh=>hh (by unfold W5;simp))
   rw [this];simp
  have e3:decide (¬U9 i j h)=decide (¬W5 true i j h):=by
   apply decide_eq_decide.2
   unfold U9 W5
   constructor<;>intro hh<;>simp only [not_or,Bool.true_eq_false,not_false_eq_true,true_and] at hh ⊢<;>omega
  rw [e3]
  by_cases hp:W5 true i j h
  ·rw [decide_eq_false (fun hh=>hh hp)];simp
  rw [decide_eq_true hp]
  have hb:0≤h.Old∧0≤h.New:=by unfold W5 at hp;simp only [not_or] at hp;omega
  have e4:decide (h.Old+M2 h≤4096∧h.New+O7 h≤4096)=decide (¬(4096 < h.Old+M2 h∨4096 < h.New+O7 h)):=decide_eq_decide.2 (by omega)
  have ih:=I38 r (h.Old+M2 h) (h.New+O7 h) (j7 o (C4 h.Lines 43)) (j7 n (C4 h.Lines 45)) (by omega) (by omega)
  cases e5:Q8 o (C4 h.Lines 43)<;>cases e6:Q8 n (C4 h.Lines 45)<;>simp [e4,ih,Bool.and_assoc]
theorem I98 (hs:List PatchHunk):A85 0 0 false false hs=u6 hs:=by
 rw [I38 hs 0 0 false false (by omega) (by omega),A84,A84];rfl
end Go.AL
namespace Go.AL
open Go
theorem textsLen_le (rows:List Row) (B:Nat) (h:∀r∈rows,r.Text.length≤B):P4 rows≤rows.length*B:=by
 unfold P4
 induction rows with
 | nil=>simp
 | cons r rs ih =>
  have h1:=ih fun x hx=>h x (by simp [hx])
  have h2:=h r (by simp)
  simp only [K13,K18,K05,K07,K26,Nat.one_mul]
  omega
theorem H18 (b s:Str) (h:s∈B8 b):s.length≤b.length:=by
 have h1:(B8 b).flatten=b:=by
  have key:∀(s cur:Str),(F7 cur s).flatten=cur++s:=by
   intro s
   induction s with
   | nil=>intro cur;unfold F7;split<;>simp [*]
   | cons c r ih=>intro cur;unfold F7;split<;>simp [ih]
  exact key b []
 have h2:∀(l:List Str),s∈l→s.length≤l.flatten.length:=by
  intro l
  induction l with
  | nil=>intro h;cases h
  | cons x r ih =>
   intro h
   rcases List.mem_cons.1 h with rfl | h
   ·simp
   ·have:=ih h;simp only [K18,K05];omega
 have:=h2 _ h;rw [h1] at this;exact this
end Go.AL
namespace Go.AL
open Go
theorem E70 {hs:List PatchHunk} {x:List Str} :
  ∀k,k≤hs.length→(∀j,j < k→0≤j6 hs j∧j6 hs j≤(hAt hs j).Old∧(hAt hs j).Old+M2 (hAt hs j)≤x.length)→(u7 hs x k).length≤(j6 hs k).toNat+szP (hs.take k)∧(u7 hs x k).flatten.length≤(x.take (j6 hs k).toNat).flatten.length+szP (hs.take k)
 | 0,_,_=>by simp [u7]
 | k+1,hk,ho=>by
  obtain ⟨h1,h2⟩:=E70 k (by omega) (fun j hj=>ho j (by omega))
  obtain ⟨h3,h4,h5⟩:=ho k (by omega)
  have h6:=C93 (hAt hs k)
  have e:j6 hs (k+1)=(hAt hs k).Old+M2 (hAt hs k):=by unfold j6;rw [if_neg (by omega)];rfl
  have h7:=H17 x (j6 hs k) (hAt hs k).Old h3 h4
  have h8:=J54 hs k (by omega)
  have h9:=F39 (hAt hs k).Lines 45
  have h10:=H17 x (hAt hs k).Old ((hAt hs k).Old+M2 (hAt hs k)) (by omega) (by omega)
  have h11:(sub x (j6 hs k) (hAt hs k).Old).length≤(hAt hs k).Old.toNat - (j6 hs k).toNat:=by unfold sub;rw [K22];omega
  unfold szH at h8
  simp only [u7,K05,K21,e]
  constructor<;>omega
theorem E05 {x:List Str} {a b:Int} {s:Str} (h:s∈sub x a b):s∈x:=by
 unfold sub at h
 exact List.mem_of_mem_drop (List.mem_of_mem_take h)
end Go.AL
namespace Go.AL
open Go
end Go.AL
namespace Go.AL
open Go
def E71 (c:Change):Int:=c.New+c.NewLen
def eoI (i:Int) (l:List Change) (k:Nat):Int:=if k=0 then i else r7 (cAt l (k - 1))
def enI (j:Int) (l:List Change) (k:Nat):Int:=if k=0 then j else E71 (cAt l (k - 1))
theorem A16 (i:Int) (c:Change) (r:List Change) (k:Nat):eoI i (c::r) (k+1)=eoI (r7 c) r k:=by
 cases k<;>rfl
theorem A17 (j:Int) (c:Change) (r:List Change) (k:Nat):enI j (c::r) (k+1)=enI (E71 c) r k:=by
 cases k<;>rfl
theorem A49 (i:Int) (l:List Change) (k:Nat):eoI i l (k+1)=r7 (cAt l k):=rfl
theorem A50 (j:Int) (l:List Change) (k:Nat):enI j l (k+1)=E71 (cAt l k):=rfl
theorem C95 (c:Change) (r:List Change) (k:Nat):cAt (c::r) (k+1)=cAt r k:=rfl
def B75 (x y:List Str) (i j:Int):List Change→Prop
 | []=>sub x i x.length=sub y j y.length
 | c::r=>sub x i c.Old=sub y j c.New∧B75 x y (r7 c) (E71 c) r
theorem y8 (m n:Int):∀(l:List Change) (k0:Nat) (i j:Int),J1 k0 i j l m n=true→∀k,k < l.length →
  H5 (cAt l k).Old∧H5 (cAt l k).OldLen∧H5 (cAt l k).New∧H5 (cAt l k).NewLen∧(cAt l k).OldLen+(cAt l k).NewLen≠0∧(cAt l k).Old - eoI i l k=(cAt l k).New - enI j l k∧eoI i l k≤(cAt l k).Old∧(0 < k0+k→eoI i l k < (cAt l k).Old)
 | [],_,_,_,_,k,hk=>by simp at hk
 | c :: r,k0,i,j,h,k,hk=>by
  simp only [J1,K08,decide_eq_true_eq] at h
  obtain ⟨h1,h2⟩:=h
  cases k with
  | zero =>
   unfold D89 at h1
   show H5 c.Old∧H5 c.OldLen∧H5 c.New∧H5 c.NewLen∧c.OldLen+c.NewLen≠0∧c.Old - i=c.New - j∧i≤c.Old∧(0 < k0+0→i < c.Old)
   have d1:H5 c.Old:=by by_cases q:H5 c.Old;exact q;exact absurd (.inl (.inl (.inl (.inl (.inl (.inl (.inl q))))))) h1
   have d2:H5 c.OldLen:=by by_cases q:H5 c.OldLen;exact q;exact absurd (.inl (.inl (.inl (.inl (.inl (.inl (.inr q))))))) h1
   have d3:H5 c.New:=by by_cases q:H5 c.New;exact q;exact absurd (.inl (.inl (.inl (.inl (.inl (.inr q)))))) h1
   have d4:H5 c.NewLen:=by by_cases q:H5 c.NewLen;exact q;exact absurd (.inl (.inl (.inl (.inl (.inr q))))) h1
   refine ⟨d1,d2,d3,d4,fun q=>h1 (.inl (.inl (.inl (.inr q)))),?_,?_,fun h0=>?_⟩
   ·by_cases q:c.Old - i=c.New - j
    ·exact q
    ·exact absurd (.inl (.inl (.inr q))) h1
   ·by_cases q:c.Old < i
    ·exact absurd (.inl (.inr q)) h1
    ·omega
   ·by_cases q:c.Old < i
    ·exact absurd (.inl (.inr q)) h1
    ·by_cases q2:c.Old=i
     ·exact absurd (.inr ⟨by omega,q2⟩) h1
     ·omega
  | succ k =>
   have:=y8 m n r (k0+1) _ _ h2 k (by simpa using hk)
   rw [C95,A16,A17]
   obtain ⟨e1,e2,e3,e4,e5,e6,e7,e8⟩:=this
   exact ⟨e1,e2,e3,e4,e5,e6,e7,fun h0=>e8 (by omega)⟩
theorem E72 (m n:Int):∀(l:List Change) (k0:Nat) (i j:Int),J1 k0 i j l m n=true→m - eoI i l l.length=n - enI j l l.length∧eoI i l l.length≤m
 | [],_,i,j,h=>by
  simp only [J1,decide_eq_true_eq] at h
  show m - i=n - j∧i≤m
  omega
 | c::r,k0,i,j,h=>by
  simp only [J1,K08,decide_eq_true_eq] at h
  rw [K07,A16,A17]
  exact E72 m n r _ _ _ h.2
theorem E73 (x y:List Str):∀(l:List Change) (i j:Int),B75 x y i j l→∀k,k < l.length→sub x (eoI i l k) (cAt l k).Old=sub y (enI j l k) (cAt l k).New
 | [],_,_,_,k,hk=>by simp at hk
 | c::r,i,j,h,k,hk=>by
  cases k with
  | zero=>exact h.1
  | succ k=>rw [A16,A17,C95];exact E73 x y r _ _ h.2 k (by simpa using hk)
theorem G30 (x y:List Str):∀(l:List Change) (i j:Int),B75 x y i j l→sub x (eoI i l l.length) x.length=sub y (enI j l l.length) y.length
 | [],_,_,h=>h
 | c::r,i,j,h=>by rw [K07,A16,A17];exact G30 x y r _ _ h.2
def mkH (l:List Change) (m ctx:Int) (a b:Nat):Hunk:=A69 l m ctx (b - 1) (T6 l ctx a)
def GrOk (l:List Change) (m ctx:Int):Nat→List Hunk→Nat→Prop
 | a,[],k=>a=k
 | a,h::r,k=>∃b,a < b∧opens l ctx a∧h=mkH l m ctx a b∧GrOk l m ctx b r k
theorem GrOk.le {l:List Change} {m ctx:Int}:∀{hs:List Hunk} {a k:Nat},GrOk l m ctx a hs k→a≤k
 | [],a,k,h=>Nat.le_of_eq h
 | _::_,a,k,⟨b,h1,_,_,h2⟩=>by have:=GrOk.le h2;omega
theorem GrOk.snoc {l:List Change} {m ctx:Int} {k:Nat} (ho:opens l ctx k):∀{hs:List Hunk} {a:Nat},GrOk l m ctx a hs k→GrOk l m ctx a (hs++[mkH l m ctx k (k+1)]) (k+1)
 | [],a,h=>by
  obtain rfl:a=k:=h
  exact ⟨a+1,by omega,ho,rfl,rfl⟩
 | _::_,a,⟨b,h1,h2,h3,h4⟩=>⟨b,h1,h2,h3,GrOk.snoc ho h4⟩
theorem GrOk.last {l:List Change} {m ctx:Int} {k:Nat}:∀{hs:List Hunk} {a:Nat},GrOk l m ctx a hs k→hs≠[]→GrOk l m ctx a (hs.set (hs.length - 1) (A69 l m ctx k (hs.getD (hs.length - 1) E66))) (k+1)
 | [],_,_,h0=>absurd rfl h0
 | [h],a,⟨b,h1,h2,h3,h4⟩,_=>by
  obtain rfl:b=k:=h4
  subst h3
  exact ⟨b+1,by omega,h2,rfl,rfl⟩
 | h::h'::r,a,⟨b,h1,h2,h3,h4⟩,_=>by
  have ih:=GrOk.last h4 (by simp)
  refine ⟨b,h1,h2,h3,?_⟩
  simpa using ih
theorem A51 (l:List Change) (m ctx:Int):∀k,GrOk l m ctx 0 (H2 l m ctx k) k
 | 0=>rfl
 | k+1=>by
  have ih:=A51 l m ctx k
  have hne:=(A15 l m ctx k).2
  simp only [H2,c9]
  by_cases ho:opens l ctx k
  ·rw [if_pos ho]
   have e:(H2 l m ctx k++[T6 l ctx k]).set ((H2 l m ctx k++[T6 l ctx k]).length - 1) (A69 l m ctx k ((H2 l m ctx k++[T6 l ctx k]).getD ((H2 l m ctx k++[T6 l ctx k]).length - 1) E66))=H2 l m ctx k++[mkH l m ctx k (k+1)]:=by
    simp [mkH]
   rw [e]
   exact ih.snoc ho
  ·rw [if_neg ho]
   refine ih.last ?_
   have:k≠0:=fun e=>ho (.inl e)
   have:=hne (by omega)
   intro e;rw [e] at this;simp at this
theorem A06 (x:List Str) {a b c:Int} (h0:0≤a) (h1:a≤b) (h2:b≤c):sub x a b++sub x b c=sub x a c:=by
 unfold sub
 obtain ⟨u,rfl⟩:∃u:Nat,(u:Int)=a:=⟨a.toNat,by omega⟩
 obtain ⟨v,rfl⟩:∃v:Nat,(v:Int)=b:=⟨b.toNat,by omega⟩
 obtain ⟨w,rfl⟩:∃w:Nat,(w:Int)=c:=⟨c.toNat,by omega⟩
 simp only [K12]
 have h3:x.drop v=(x.drop u).drop (v - u):=by rw [List.drop_drop];congr 1;omega
 rw [h3,show w - u=(v - u)+(w - v) by omega,List.take_add]
theorem A72 (x:List Str) (a:Int):sub x a a=[]:=by simp [sub]
theorem B29 (x:List Str) {a b:Int} (h0:0≤a) (h1:a≤b) (h2:b≤x.length):((sub x a b).length:Int)=b - a:=by
 unfold sub;rw [K22,K24];omega
theorem B76 {x y:List Str} {p q p' q' e:Int} (h:sub x p q=sub y p' q') (h0:0≤p) (h0':0≤p') (he:0≤e) (h1:e≤q - p) (h2:q - p=q' - p'):sub x (q - e) q=sub y (q' - e) q':=by
 have key:∀(z:List Str) (a b:Int),0≤a→e≤b - a→sub z (b - e) b=(sub z a b).drop (b - a - e).toNat:=by
  intro z a b ha hb
  unfold sub
  rw [List.drop_take,List.drop_drop]
  congr 1
  ·omega
  ·congr 1;omega
 rw [key x p q h0 h1,key y p' q' h0' (by omega),h,h2]
theorem E74 {x y:List Str} {p q p' q' e:Int} (h:sub x p q=sub y p' q') (h0:0≤p) (h0':0≤p') (he:0≤e) (h1:e≤q - p) (h2:q - p=q' - p'):sub x p (p+e)=sub y p' (p'+e):=by
 have key:∀(z:List Str) (a b:Int),0≤a→e≤b - a→sub z a (a+e)=(sub z a b).take e.toNat:=by
  intro z a b ha hb
  unfold sub
  rw [List.take_take]
  congr 1
  omega
 rw [key x p q h0 h1,key y p' q' h0' (by omega),h]
theorem B30 (p q:List PatchLine) (k:UInt8):C4 (p++q) k=C4 p k++C4 q k:=by simp [C4]
theorem B31 (k k':UInt8) (ts:List Str):C4 (T7 k ts) k'=if k=k' then [] else ts:=by
 unfold C4 T7
 by_cases h:k=k'
 ·rw [if_pos h];subst h
  simp [List.filter_eq_nil_iff]
 ·rw [if_neg h]
  rw [List.filter_eq_self.2 (by simp [h])]
  simp [Function.comp_def]
structure ScFit (x y:List Str) (l:List Change):Prop where
 lx:(x.length:Int)≤4096
 ly:(y.length:Int)≤4096
 sc:J1 0 0 0 l x.length y.length=true
 eq:B75 x y 0 0 l
section
variable {x y:List Str} {l:List Change}
theorem ScFit.ok (h:ScFit x y l):ScOk 0 0 l x.length y.length:=Z5 _ _ _ _ _ _ h.sc
theorem ScFit.check (h:ScFit x y l):d9 l x.length y.length=0:=by
 have h1:=h.lx
 have h2:=h.ly
 unfold d9
 rw [if_neg (by unfold H5;omega),if_pos h.sc]
theorem ScFit.nn (h:ScFit x y l) (k:Nat) (hk:k≤l.length):0≤eoI 0 l k∧0≤enI 0 l k∧eoI 0 l k≤x.length∧enI 0 l k≤y.length:=by
 cases k with
 | zero=>exact ⟨Int.le_refl _,Int.le_refl _,Int.natCast_nonneg _,Int.natCast_nonneg _⟩
 | succ k =>
  obtain ⟨⟨a1,a2⟩,⟨b1,b2⟩,⟨c1,c2⟩,⟨d1,d2⟩,h5,h6⟩:=h.ok.get k (by omega)
  rw [A49,A50];unfold r7 E71
  omega
def eA (l:List Change) (ctx:Int) (a:Nat):Int:=r5 ctx (cAt l a).Old
def eB (l:List Change) (m ctx:Int) (b:Nat):Int:=r5 ctx (m - eoI 0 l b)
theorem I39 {a b:Int} (h:0≤a) (h':0≤b):0≤r5 a b∧r5 a b≤a∧r5 a b≤b:=by unfold r5;split<;>omega
theorem C07 {ctx:Int} {a:Nat} (ho:opens l ctx a) (ha:a≠0):2*ctx < (cAt l a).Old - eoI 0 l a:=by
 rcases ho with h | h
 ·exact absurd h ha
 ·unfold eoI;rw [if_neg ha];unfold r7;omega
theorem ScFit.before (h:ScFit x y l) {ctx:Int} (hc:0≤ctx) {a:Nat} (ha:a < l.length) (ho:opens l ctx a) :
  0≤eA l ctx a∧eA l ctx a≤ctx∧eA l ctx a≤(cAt l a).Old - eoI 0 l a:=by
 obtain ⟨⟨a1,a2⟩,_⟩:=h.ok.get a ha
 have h3:=I39 hc a1
 unfold eA
 by_cases h0:a=0
 ·subst h0
  show _∧_∧_≤(cAt l 0).Old - 0
  omega
 ·have:=C07 ho h0;omega
theorem ScFit.after (h:ScFit x y l) {ctx:Int} (hc:0≤ctx) {b:Nat} (hb:b≤l.length) (ho:b < l.length→opens l ctx b) (hb0:b≠0) :
  0≤eB l x.length ctx b∧eB l x.length ctx b≤ctx∧eoI 0 l b+eB l x.length ctx b≤x.length∧enI 0 l b+eB l x.length ctx b≤y.length ∧
   sub x (eoI 0 l b) (eoI 0 l b+eB l x.length ctx b)=sub y (enI 0 l b) (enI 0 l b+eB l x.length ctx b):=by
 obtain ⟨h1,h2,h3,h4⟩:=h.nn b hb
 have h5:=I39 hc (show 0≤(x.length:Int) - eoI 0 l b by omega)
 unfold eB
 rcases Nat.lt_or_ge b l.length with hlt | hge
 ·obtain ⟨g1,g2,g3,g4,g5,g6,g7,g8⟩:=y8 _ _ _ _ _ _ h.sc b hlt
  obtain ⟨⟨a1,a2⟩,⟨b1,b2⟩,⟨c1,c2⟩,⟨d1,d2⟩,k5,k6⟩:=h.ok.get b hlt
  have hg:=C07 (ho hlt) hb0
  refine ⟨h5.1,h5.2.1,by omega,by omega,E74 (E73 x y l 0 0 h.eq b hlt) h1 h2 h5.1 (by omega) (by omega)⟩
 ·have e:b=l.length:=by omega
  subst e
  obtain ⟨g1,g2⟩:=E72 _ _ _ _ _ _ h.sc
  refine ⟨h5.1,h5.2.1,by omega,by omega,E74 (G30 x y l 0 0 h.eq) h1 h2 h5.1 (by omega) (by omega)⟩
def G31 (l:List Change) (j0:Int) (a t:Nat):Int:=if t=0 then j0 else E71 (cAt l (a+t - 1))
theorem E75 (i0:Int) (a t:Nat) (ht:t≠0):d7 l i0 a t=eoI 0 l (a+t):=by
 unfold d7 eoI;rw [if_neg ht,if_neg (by omega)]
theorem I40 (j0:Int) (a t:Nat) (ht:t≠0):G31 l j0 a t=enI 0 l (a+t):=by
 unfold G31 enI;rw [if_neg ht,if_neg (by omega)]
theorem ScFit.made (h:ScFit x y l) {ctx:Int} (hc:0≤ctx) {a:Nat} (ho:opens l ctx a):∀t,a+t≤l.length→(t=0→a < l.length) →
  C4 (U5 l x y ((cAt l a).Old - eA l ctx a) a t) 43=sub x ((cAt l a).Old - eA l ctx a) (d7 l ((cAt l a).Old - eA l ctx a) a t) ∧
  C4 (U5 l x y ((cAt l a).Old - eA l ctx a) a t) 45=sub y ((cAt l a).New - eA l ctx a) (G31 l ((cAt l a).New - eA l ctx a) a t)
 | 0,_,_=>by
  unfold d7 G31
  rw [if_pos rfl,if_pos rfl,A72,A72]
  exact ⟨rfl,rfl⟩
 | t + 1,hl,_=>by
  have hlt:a+t < l.length:=by omega
  have hla:a < l.length:=by omega
  obtain ⟨ih1,ih2⟩:=ScFit.made h hc ho t (by omega) (fun _=>hla)
  obtain ⟨q1,q2,q3⟩:=h.before hc hla ho
  obtain ⟨p1,p2,p3,p4⟩:=h.nn (a+t) (by omega)
  obtain ⟨r1,r2,r3,r4⟩:=h.nn a (by omega)
  obtain ⟨g1,g2,g3,g4,g5,g6,g7,g8⟩:=y8 _ _ _ _ _ _ h.sc (a+t) hlt
  obtain ⟨k1,⟨k2,k2'⟩,k3,⟨k4,k4'⟩,k5,k6,k7,k8⟩:=y8 _ _ _ _ _ _ h.sc a hla
  obtain ⟨⟨a1,a2⟩,⟨b1,b2⟩,⟨c1,c2⟩,⟨d1,d2⟩,w5,w6⟩:=h.ok.get (a+t) hlt
  have hrun:sub x (d7 l ((cAt l a).Old - eA l ctx a) a t) (cAt l (a+t)).Old=sub y (G31 l ((cAt l a).New - eA l ctx a) a t) (cAt l (a+t)).New ∧
    (cAt l a).Old - eA l ctx a≤d7 l ((cAt l a).Old - eA l ctx a) a t∧d7 l ((cAt l a).Old - eA l ctx a) a t≤(cAt l (a+t)).Old ∧
    (cAt l a).New - eA l ctx a≤G31 l ((cAt l a).New - eA l ctx a) a t∧G31 l ((cAt l a).New - eA l ctx a) a t≤(cAt l (a+t)).New:=by
   have hrun:=E73 x y l 0 0 h.eq (a+t) hlt
   by_cases ht:t=0
   ·subst ht
    unfold d7 G31
    rw [if_pos rfl,if_pos rfl]
    rw [show a+0=a from rfl] at *
    exact ⟨B76 hrun r1 r2 q1 (by omega) (by omega),by omega,by omega,by omega,by omega⟩
   ·rw [E75 _ _ _ ht,I40 _ _ _ ht]
    have m1:=h.ok.mono a (a+t - 1) (by omega) (by omega)
    have m2:eoI 0 l (a+t)=(cAt l (a+t - 1)).Old+(cAt l (a+t - 1)).OldLen:=by unfold eoI;rw [if_neg (by omega)];rfl
    have m4:∀u,u≤t→(cAt l a).New≤enI 0 l (a+u)∨u=0:=by
     intro u
     induction u with
     | zero=>exact fun _=>.inr rfl
     | succ u ihu =>
      intro hu
      obtain ⟨e1,e2,⟨e3,e3'⟩,⟨e4,e4'⟩,e5,e6,e7,e8⟩:=y8 _ _ _ _ _ _ h.sc (a+u) (by omega)
      have e9:enI 0 l (a+(u+1))=(cAt l (a+u)).New+(cAt l (a+u)).NewLen:=rfl
      rcases ihu (by omega) with h' | h'
      ·left;omega
      ·left;subst h';rw [e9];show (cAt l a).New≤(cAt l a).New+(cAt l a).NewLen;exact Int.le_add_of_nonneg_right e4
    have m5:=(m4 t (Nat.le_refl _)).resolve_right ht
    refine ⟨hrun,by omega,by omega,by omega,by omega⟩
  obtain ⟨hr1,hr2,hr3,hr4,hr5⟩:=hrun
  simp (decide:=true) only [U5,B30,B31,ih1,ih2,if_true,if_false,K27]
  have e1:d7 l ((cAt l a).Old - eA l ctx a) a (t+1)=r7 (cAt l (a+t)):=E69 _ _ _ _
  have e2:G31 l ((cAt l a).New - eA l ctx a) a (t+1)=E71 (cAt l (a+t)):=rfl
  rw [e1,e2]
  have s0:0≤(cAt l a).Old - eA l ctx a:=by omega
  have s1:0≤(cAt l a).New - eA l ctx a:=by omega
  refine ⟨?_,?_⟩
  ·rw [A06 x s0 hr2 hr3,A06 x s0 (by omega) (by unfold r7;omega)]
  ·rw [hr1,A06 y s1 hr4 hr5]
   exact A06 y s1 (by omega) (by omega)
end
end Go.AL
namespace Go.AL
open Go
section
variable {x y:List Str} {l:List Change}
structure HunkIs (x y:List Str) (l:List Change) (ctx:Int) (a b:Nat) (h:PatchHunk):Prop where
 old:h.Old=(cAt l a).Old - eA l ctx a
 new:h.New=(cAt l a).New - eA l ctx a
 o0:0≤h.Old
 n0:0≤h.New
 oe:h.Old+M2 h=eoI 0 l b+eB l x.length ctx b
 ne:h.New+O7 h=enI 0 l b+eB l x.length ctx b
 ox:h.Old+M2 h≤x.length
 ny:h.New+O7 h≤y.length
 ol:C4 h.Lines 43=sub x h.Old (h.Old+M2 h)
 nl:C4 h.Lines 45=sub y h.New (h.New+O7 h)
 ch:X5 h.Lines=true
 gl:(∀s∈x,H7 s=true)→(∀s∈y,H7 s=true)→h.Lines.all n6=true
theorem E76 (p q:List PatchLine):X5 (p++q)=(X5 p||X5 q):=by simp [X5]
theorem E77 {k:UInt8} {ts:List Str} (hk:k≠32) (h:ts≠[]):X5 (T7 k ts)=true:=by
 cases ts with
 | nil=>exact absurd rfl h
 | cons t ts=>simp [X5,T7,hk]
theorem B32 {k:UInt8} {ts:List Str} (hk:k=32∨k=45∨k=43) (h:∀t∈ts,H7 t=true):(T7 k ts).all n6=true:=by
 rw [List.all_eq_true]
 intro q hq
 unfold T7 at hq
 obtain ⟨t,ht,rfl⟩:=List.mem_map.1 hq
 unfold n6
 refine decide_eq_true ?_
 rintro (⟨⟨h1,h2⟩,h3⟩ | h1)
 ·rcases hk with e | e | e
  ·exact h1 e
  ·exact h2 e
  ·exact h3 e
 ·rw [show (PatchLine.mk k t).Text=t from rfl,h t ht] at h1;cases h1
theorem D70 (hx:∀s∈x,H7 s=true) (hy:∀s∈y,H7 s=true) (i0:Int) (a:Nat):∀t,(U5 l x y i0 a t).all n6=true
 | 0=>rfl
 | t+1=>by
  simp only [U5,K55,D70 hx hy i0 a t,Bool.true_and,K08]
  exact ⟨⟨B32 (.inl rfl) (fun s hs=>hx s (E05 hs)),B32 (.inr (.inl rfl)) (fun s hs=>hx s (E05 hs))⟩,B32 (.inr (.inr rfl)) (fun s hs=>hy s (E05 hs))⟩
theorem ScFit.hunk (h:ScFit x y l) {ctx:Int} (hc:0≤ctx) {a b:Nat} (hab:a < b) (hb:b≤l.length) (ho:opens l ctx a) (hob:b < l.length→opens l ctx b) :
  HunkIs x y l ctx a b (L6 l x y (mkH l x.length ctx a b)):=by
 have hla:a < l.length:=by omega
 obtain ⟨q1,q2,q3⟩:=h.before hc hla ho
 obtain ⟨w1,w2,w3,w4,w5⟩:=h.after hc hb hob (by omega)
 obtain ⟨m1,m2⟩:=h.made hc ho (b - a) (by omega) (fun e=>by omega)
 rw [E75 _ _ _ (by omega)] at m1
 rw [I40 _ _ _ (by omega)] at m2
 rw [show a+(b - a)=b by omega] at m1 m2
 obtain ⟨r1,r2,r3,r4⟩:=h.nn a (by omega)
 obtain ⟨s1,s2,s3,s4⟩:=h.nn b hb
 obtain ⟨k1,⟨k2,k2'⟩,k3,⟨k4,k4'⟩,k5,k6,k7,k8⟩:=y8 _ _ _ _ _ _ h.sc a hla
 have hlb:b - 1 < l.length:=by omega
 obtain ⟨g1,⟨g2,g2'⟩,g3,⟨g4,g4'⟩,g5,g6,g7,g8⟩:=y8 _ _ _ _ _ _ h.sc (b - 1) hlb
 have eo:eoI 0 l b=(cAt l (b - 1)).Old+(cAt l (b - 1)).OldLen:=by unfold eoI;rw [if_neg (by omega)];rfl
 have en:enI 0 l b=(cAt l (b - 1)).New+(cAt l (b - 1)).NewLen:=by unfold enI;rw [if_neg (by omega)];rfl
 have mo:=h.ok.mono a (b - 1) (by omega) (by omega)
 have mn:(cAt l a).New≤enI 0 l b:=by
  have m4:∀u,a+u≤l.length→(cAt l a).New≤enI 0 l (a+u)∨u=0:=by
   intro u
   induction u with
   | zero=>exact fun _=>.inr rfl
   | succ u ihu =>
    intro hu
    obtain ⟨e1,e2,⟨e3,e3'⟩,⟨e4,e4'⟩,e5,e6,e7,e8⟩:=y8 _ _ _ _ _ _ h.sc (a+u) (by omega)
    have e9:enI 0 l (a+(u+1))=(cAt l (a+u)).New+(cAt l (a+u)).NewLen:=rfl
    rcases ihu (by omega) with h' | h'
    ·left;omega
    ·left;subst h';rw [e9];show (cAt l a).New≤(cAt l a).New+(cAt l a).NewLen;exact Int.le_add_of_nonneg_right e4
  have:=(m4 (b - a) (by omega)).resolve_right (by omega)
  rwa [show a+(b - a)=b by omega] at this
 have hF:(mkH l x.length ctx a b).First.toNat=a:=by show ((a:Int)).toNat=a;omega
 have hL:(mkH l x.length ctx a b).Last.toNat - (mkH l x.length ctx a b).First.toNat=b - a:=by
  show (((b - 1:Nat):Int)+1).toNat - ((a:Int)).toNat=b - a;omega
 have hOF:(mkH l x.length ctx a b).Old.From=(cAt l a).Old - eA l ctx a:=rfl
 have hNF:(mkH l x.length ctx a b).New.From=(cAt l a).New - eA l ctx a:=rfl
 have hOT:(mkH l x.length ctx a b).Old.To=eoI 0 l b+eB l x.length ctx b:=by
  unfold eB;rw [eo];rfl
 obtain ⟨P,hP⟩:∃P,P=L6 l x y (mkH l x.length ctx a b):=⟨_,rfl⟩
 have hPl:P.Lines=U5 l x y ((cAt l a).Old - eA l ctx a) a (b - a)++T7 32 (sub x (eoI 0 l b) (eoI 0 l b+eB l x.length ctx b)):=by
  rw [hP];unfold L6
  show U5 l x y _ (mkH l x.length ctx a b).First.toNat ((mkH l x.length ctx a b).Last.toNat - (mkH l x.length ctx a b).First.toNat)++T7 32 (sub x (d7 l _ (mkH l x.length ctx a b).First.toNat ((mkH l x.length ctx a b).Last.toNat - (mkH l x.length ctx a b).First.toNat)) _)=_
  rw [hL,hF,hOF,hOT,E75 _ _ _ (by omega),show a+(b - a)=b by omega]
 have hPO:P.Old=(cAt l a).Old - eA l ctx a:=by rw [hP];rfl
 have hPN:P.New=(cAt l a).New - eA l ctx a:=by rw [hP];rfl
 have h43:C4 P.Lines 43=sub x ((cAt l a).Old - eA l ctx a) (eoI 0 l b+eB l x.length ctx b):=by
  rw [hPl,B30,B31,if_neg (by decide),m1]
  exact A06 x (by omega) (by omega) (by omega)
 have h45:C4 P.Lines 45=sub y ((cAt l a).New - eA l ctx a) (enI 0 l b+eB l x.length ctx b):=by
  rw [hPl,B30,B31,if_neg (by decide),m2,w5]
  exact A06 y (by omega) (by omega) (by omega)
 have hon:M2 P=eoI 0 l b+eB l x.length ctx b - ((cAt l a).Old - eA l ctx a):=by
  unfold M2;rw [h43];exact B29 x (by omega) (by omega) (by omega)
 have hnn:O7 P=enI 0 l b+eB l x.length ctx b - ((cAt l a).New - eA l ctx a):=by
  unfold O7;rw [h45];exact B29 y (by omega) (by omega) (by omega)
 rw [←hP]
 refine ⟨hPO,hPN,by omega,by omega,by omega,by omega,by omega,by omega,?_,?_,?_,?_⟩
 ·rw [h43];congr 1
  ·exact hPO.symm
  ·omega
 ·rw [h45];congr 1
  ·exact hPN.symm
  ·omega
 ·rw [hPl,E76]
  have e:U5 l x y ((cAt l a).Old - eA l ctx a) a (b - a)=U5 l x y ((cAt l a).Old - eA l ctx a) a (b - 1 - a+1):=by congr 1;omega
  rw [e]
  simp only [U5,E76]
  rw [show a+(b - 1 - a)=b - 1 by omega]
  have key:X5 (T7 45 (sub x (cAt l (b - 1)).Old (r7 (cAt l (b - 1)))))=true∨X5 (T7 43 (sub y (cAt l (b - 1)).New ((cAt l (b - 1)).New+(cAt l (b - 1)).NewLen)))=true:=by
   obtain ⟨g3a,g3b⟩:=g3
   obtain ⟨g1a,g1b⟩:=g1
   by_cases h0:(cAt l (b - 1)).OldLen=0
   ·right
    refine E77 (by decide) fun e0=>?_
    have:=B29 y (a:=(cAt l (b - 1)).New) (b:=(cAt l (b - 1)).New+(cAt l (b - 1)).NewLen) g3a (by omega) (by omega)
    rw [e0] at this;simp at this;omega
   ·left
    refine E77 (by decide) fun e0=>?_
    have:=B29 x (a:=(cAt l (b - 1)).Old) (b:=r7 (cAt l (b - 1))) g1a (by unfold r7;omega) (by unfold r7;omega)
    rw [e0] at this;unfold r7 at this;simp at this;omega
  rcases key with e1 | e1<;>rw [e1]<;>simp
 ·intro hx hy
  rw [hPl,K55,D70 hx hy,Bool.true_and]
  exact B32 (.inl rfl) (fun s hs=>hx s (E05 hs))
theorem ScFit.hunks (h:ScFit x y l) {ctx:Int} (hc:0≤ctx) (hx:∀s∈x,H7 s=true) (hy:∀s∈y,H7 s=true):∀(hs:List Hunk) (a:Nat),GrOk l x.length ctx a hs l.length →
  ∀(i j e:Int),i=eoI 0 l a+e→j=enI 0 l a+e→0≤e→e≤ctx→(a=0→e=0) →
  y6 i j (hs.map (L6 l x y))=true∧(J8 (hs.map (L6 l x y)) 43).Sublist (x.drop i.toNat)∧(J8 (hs.map (L6 l x y)) 45).Sublist (y.drop j.toNat) ∧
   ∀p∈hs.map (L6 l x y),(p.Old+M2 p≤x.length∧p.New+O7 p≤y.length∧0≤p.Old∧0≤p.New)∧C4 p.Lines 43=sub x p.Old (p.Old+M2 p)∧C4 p.Lines 45=sub y p.New (p.New+O7 p)
 | [],a,_,i,j,e,_,_,_,_,_=>⟨rfl,by simp [J8],by simp [J8],by simp⟩
 | hk::hs,a,⟨b,hab,ho,hE,hr⟩,i,j,e,hi,hj,he,hec,he0=>by
  have hb:=hr.le
  have hob:b < l.length→opens l ctx b:=by
   intro hlt
   cases hs with
   | nil=>exact absurd hr (by show ¬b=l.length;omega)
   | cons h2 hs2=>obtain ⟨_,_,ho2,_⟩:=hr;exact ho2
  obtain ⟨w1,w2,w3,w4,w5⟩:=h.after hc hb hob (by omega)
  obtain ⟨q1,q2,q3⟩:=h.before hc (show a < l.length by omega) ho
  have H:=h.hunk hc hab hb ho hob
  rw [←hE] at H
  obtain ⟨P,hP⟩:∃P,P=L6 l x y hk:=⟨_,rfl⟩
  rw [←hP] at H
  obtain ⟨i1,i2,i3,i4⟩:=ScFit.hunks h hc hx hy hs b hr (P.Old+M2 P) (P.New+O7 P) (eB l x.length ctx b) H.oe H.ne w1 w2 (by omega)
  obtain ⟨k1,⟨k2,k2'⟩,k3,⟨k4,k4'⟩,k5,k6,k7,k8⟩:=y8 _ _ _ _ _ _ h.sc a (show a < l.length by omega)
  have h1:=H.old
  have h2:=H.new
  have h3:=H.o0
  have h4:=H.n0
  have h5:=H.ox
  have h6:=H.ny
  have h7:=h.lx
  have h8:=h.ly
  have n1:0≤M2 P:=by unfold M2;omega
  have n2:0≤O7 P:=by unfold O7;omega
  have hgap:e+eA l ctx a≤(cAt l a).Old - eoI 0 l a:=by
   by_cases h0:a=0
   ·have:=he0 h0;omega
   ·have:=C07 ho h0;omega
  obtain ⟨r1,r2,r3,r4⟩:=h.nn a (by omega)
  have hij:i≤P.Old∧j≤P.New∧P.Old - i=P.New - j∧0≤i∧0≤j:=by omega
  have hsub:∀(z:List Str) (i f t:Int),0≤i→i≤f→f≤t→∀r:List Str,r.Sublist (z.drop t.toNat)→(sub z f t++r).Sublist (z.drop i.toNat):=by
   intro z i f t h0 h1 h2 r hr
   have e1:z.drop f.toNat=sub z f t++z.drop t.toNat:=by
    unfold sub
    rw [show t.toNat=f.toNat+(t.toNat - f.toNat) by omega,←List.drop_drop,show f.toNat+(t.toNat - f.toNat) - f.toNat=t.toNat - f.toNat by omega,K38]
   have e2:z.drop f.toNat=(z.drop i.toNat).drop (f.toNat - i.toNat):=by rw [List.drop_drop];congr 1;omega
   refine List.Sublist.trans ?_ (List.drop_sublist (f.toNat - i.toNat) (z.drop i.toNat))
   rw [←e2,e1]
   exact List.Sublist.append_left hr _
  have key:∀(k:UInt8),J8 ((hk::hs).map (L6 l x y)) k=C4 P.Lines k++J8 (hs.map (L6 l x y)) k:=by
   intro k;rw [hP];simp [J8]
  refine ⟨?_,?_,?_,?_⟩
  ·rw [K13,←hP]
   simp only [y6,H.gl hx hy,i1,Bool.and_true,Bool.true_and,K08,decide_eq_true_eq]
   refine ⟨?_,by omega⟩
   unfold W5
   rw [H.ch]
   rintro (((((e0 | e0) | e0) | e0) | e0) | e0)
   ·cases e0
   all_goals omega
  ·rw [key,H.ol]
   exact hsub x i P.Old (P.Old+M2 P) hij.2.2.2.1 hij.1 (by omega) _ i2
  ·rw [key,H.nl]
   exact hsub y j P.New (P.New+O7 P) hij.2.2.2.2 hij.2.1 (by omega) _ i3
  ·rw [K13,←hP]
   intro p hp
   rcases List.mem_cons.1 hp with rfl | hp
   ·exact ⟨⟨h5,h6,h3,h4⟩,H.ol,H.nl⟩
   ·exact i4 p hp
theorem B33:∀{s z:List Str},s.Sublist z→P6 z=true→P6 s=true:=by
 intro s z hs
 induction hs with
 | slnil=>exact fun h=>h
 | cons a _ ih =>
  intro h
  simp only [P6,K08] at h
  exact ih h.2
 | cons_cons a hs2 ih =>
  intro h
  simp only [P6,K08,K36] at h ⊢
  refine ⟨?_,ih h.2⟩
  rcases h.1 with h1 | h1
  ·left
   rw [List.isEmpty_iff] at h1 ⊢
   rw [h1] at hs2
   exact List.sublist_nil.1 hs2
  ·exact .inr h1
def P8 (l:List Change) (x y:List Str) (ctx:Int):List PatchHunk:=(H2 l x.length ctx l.length).map (L6 l x y)
theorem ScFit.good (h:ScFit x y l) {ctx:Int} (hc:0≤ctx) (hx:∀s∈x,H7 s=true) (hy:∀s∈y,H7 s=true) (ex:P6 x=true) (ey:P6 y=true):u6 (P8 l x y ctx)=true:=by
 obtain ⟨h1,h2,h3,_⟩:=h.hunks hc hx hy _ 0 (A51 l x.length ctx l.length) 0 0 0 rfl rfl (Int.le_refl _) hc (fun _=>rfl)
 unfold u6 H91 P8
 rw [h1,B33 h2 (by simpa using ex),B33 h3 (by simpa using ey)]
 rfl
theorem ScFit.texts (h:ScFit x y l) {ctx:Int} (hc:0≤ctx) (hx:∀s∈x,H7 s=true) (hy:∀s∈y,H7 s=true):∀p∈P8 l x y ctx,(p.Old+M2 p≤x.length∧p.New+O7 p≤y.length∧0≤p.Old∧0≤p.New)∧C4 p.Lines 43=sub x p.Old (p.Old+M2 p)∧C4 p.Lines 45=sub y p.New (p.New+O7 p) :=
 (h.hunks hc hx hy _ 0 (A51 l x.length ctx l.length) 0 0 0 rfl rfl (Int.le_refl _) hc (fun _=>rfl)).2.2.2
end
theorem D71 (cur:Str) (c:UInt8) (h:∀z∈cur,z≠10):H7 (cur++[c])=true:=by
 unfold H7
 simp only [List.dropLast_concat,K08]
 refine ⟨List.all_eq_true.2 fun z hz=>by simpa using h z hz,by simp⟩
theorem B77:∀(s cur:Str),(∀z∈cur,z≠10)→(∀t∈F7 cur s,H7 t=true)∧P6 (F7 cur s)=true
 | [],cur,hc=>by
  unfold F7
  split
  ·exact ⟨by simp,rfl⟩
  ·rename_i h
   refine ⟨fun t ht=>?_,rfl⟩
   obtain rfl:t=cur:=by simpa using ht
   obtain ⟨d,r,e⟩:∃d r,t=r++[d]:=⟨t.getLast h,t.dropLast,(List.dropLast_concat_getLast h).symm⟩
   rw [e]
   exact D71 r d fun z hz=>hc z (by rw [e];simp [hz])
 | c::r,cur,hc=>by
  rw [U3]
  by_cases h:c=10
  ·rw [if_pos h]
   obtain ⟨h1,h2⟩:=B77 r [] (by simp)
   refine ⟨fun t ht=>?_,?_⟩
   ·rcases List.mem_cons.1 ht with rfl | ht
    ·exact D71 cur c hc
    ·exact h1 t ht
   ·simp only [P6,h2,Bool.and_true,K36]
    right;unfold ended;subst h;simp
  ·rw [if_neg h]
   refine B77 r (cur++[c]) fun z hz=>?_
   rcases List.mem_append.1 hz with hz | hz
   ·exact hc z hz
   ·simp at hz;subst hz;exact h
theorem R9 (b:Str):(∀t∈B8 b,H7 t=true)∧P6 (B8 b)=true:=B77 b [] (by simp)
end Go.AL
namespace Go.AL
open Go
theorem B00 {m n:Int} (hm:H5 m) (hn:H5 n):∀(p:List Span) (i j i0 j0:Int) (k0:Nat),Asc m n i j p→0≤i0→0≤j0→i0≤i→i - i0=j - j0→(0 < k0→i0 < i)→J1 k0 i0 j0 (N3 i j p m n) m n=true
 | [],i,j,i0,j0,k0,ha,h1,h2,h3,h4,h5=>by
  obtain ⟨a1,a2⟩:i≤m∧j≤n:=ha
  obtain ⟨m1,m2⟩:=hm
  obtain ⟨n1,n2⟩:=hn
  unfold N3
  split
  ·rename_i hc
   simp only [J1,K08,decide_eq_true_eq]
   refine ⟨?_,by omega⟩
   unfold D89 H5
   show ¬(((((((¬(0≤i∧i≤4096)∨¬(0≤m - i∧m - i≤4096))∨¬(0≤j∧j≤4096))∨¬(0≤n - j∧n - j≤4096))∨m - i+(n - j)=0)∨i - i0≠j - j0)∨i < i0)∨(0 < (k0:Int)∧i=i0))
   omega
  ·simp only [J1,decide_eq_true_eq];omega
 | x::r,i,j,i0,j0,k0,ha,h1,h2,h3,h4,h5=>by
  obtain ⟨a1,a2,a3⟩:=ha
  have hle:=a3.le
  unfold N3
  split
  ·rename_i hc
   simp only [K40,K32,J1,K08,decide_eq_true_eq]
   refine ⟨?_,?_⟩
   ·obtain ⟨m1,m2⟩:=hm
    obtain ⟨n1,n2⟩:=hn
    unfold D89 H5
    show ¬(((((((¬(0≤i∧i≤4096)∨¬(0≤x.From - i∧x.From - i≤4096))∨¬(0≤j∧j≤4096))∨¬(0≤x.To - j∧x.To - j≤4096))∨x.From - i+(x.To - j)=0)∨i - i0≠j - j0)∨i < i0)∨(0 < (k0:Int)∧i=i0))
    omega
   ·exact B00 hm hn r _ _ _ _ _ a3 (by omega) (by omega) (by omega) (by omega) (fun _=>by omega)
  ·rw [K32]
   exact B00 hm hn r _ _ _ _ _ a3 h1 h2 (by omega) (by omega) (fun h=>by omega)
def EqAt (X Y:List Str) (s:Span):Prop:=0≤s.From∧0≤s.To∧∃v,X[s.From.toNat]?=some v∧Y[s.To.toNat]?=some v
theorem B01 {X:List Str} {a b:Int} {v:Str} (h0:0≤a) (h1:a≤b) (hv:X[b.toNat]?=some v):sub X a (b+1)=sub X a b++[v]:=by
 rw [←A06 X h0 h1 (by omega:b≤b+1)]
 congr 1
 unfold sub
 obtain ⟨hl,e⟩:=List.getElem?_eq_some_iff.1 hv
 rw [K11 hl,e,show (b+1).toNat - b.toNat=1 by omega]
 rfl
theorem D35 {X Y:List Str}:∀(p:List Span) (i j i0 j0:Int),Asc X.length Y.length i j p→0≤i0→0≤j0→i0≤i→j0≤j→(∀s∈p,EqAt X Y s)→sub X i0 i=sub Y j0 j→B75 X Y i0 j0 (N3 i j p X.length Y.length)
 | [],i,j,i0,j0,ha,h1,h2,h3,h4,he,hs=>by
  obtain ⟨a1,a2⟩:i≤(X.length:Int)∧j≤(Y.length:Int):=ha
  unfold N3
  split
  ·refine ⟨hs,?_⟩
   show sub X (i+(X.length - i)) X.length=sub Y (j+(Y.length - j)) Y.length
   rw [show i+((X.length:Int) - i)=X.length by omega,show j+((Y.length:Int) - j)=Y.length by omega,A72,A72]
  ·have e1:(X.length:Int)=i:=by omega
   have e2:(Y.length:Int)=j:=by omega
   show sub X i0 X.length=sub Y j0 Y.length
   rw [e1,e2];exact hs
 | x::r,i,j,i0,j0,ha,h1,h2,h3,h4,he,hs=>by
  obtain ⟨a1,a2,a3⟩:=ha
  obtain ⟨_,_,v,v1,v2⟩:=he x (by simp)
  have hr:∀s∈r,EqAt X Y s:=fun s hs=>he s (by simp [hs])
  unfold N3
  split
  ·refine ⟨hs,?_⟩
   show B75 X Y (i+(x.From - i)) (j+(x.To - j)) (N3 (x.From+1) (x.To+1) r X.length Y.length)
   rw [show i+(x.From - i)=x.From by omega,show j+(x.To - j)=x.To by omega]
   refine D35 r _ _ _ _ a3 (by omega) (by omega) (by omega) (by omega) hr ?_
   rw [B01 (by omega) (Int.le_refl _) v1,B01 (by omega) (Int.le_refl _) v2,A72,A72]
  ·have e1:x.From=i:=by omega
   have e2:x.To=j:=by omega
   rw [K32]
   refine D35 r _ _ _ _ a3 h1 h2 (by omega) (by omega) hr ?_
   rw [B01 h1 (by omega) v1,B01 h2 (by omega) v2,e1,e2,hs]
theorem D36:∀(a b:List Int) (p q:Int),∀s∈G9 p q a b,p≤s.From∧q≤s.To∧∃v,a[(s.From - p).toNat]?=some v∧b[(s.To - q).toNat]?=some v:=by
 intro a
 induction a with
 | nil=>intro b p q s hs;simp [G9] at hs
 | cons x a iha =>
  intro b
  induction b with
  | nil=>intro p q s hs;simp [G9] at hs
  | cons y b ihb =>
   intro p q s hs
   unfold G9 at hs
   split at hs
   ·rename_i e
    rcases List.mem_cons.1 hs with rfl | hs
    ·exact ⟨Int.le_refl _,Int.le_refl _,x,by simp,by simp [e]⟩
    ·obtain ⟨h1,h2,v,h3,h4⟩:=iha b (p+1) (q+1) s hs
     refine ⟨by omega,by omega,v,?_,?_⟩
     ·rw [show (s.From - p).toNat=(s.From - (p+1)).toNat+1 by omega];simpa using h3
     ·rw [show (s.To - q).toNat=(s.To - (q+1)).toNat+1 by omega];simpa using h4
   ·split at hs
    ·obtain ⟨h1,h2,v,h3,h4⟩:=iha (y::b) (p+1) q s hs
     refine ⟨by omega,by omega,v,?_,h4⟩
     rw [show (s.From - p).toNat=(s.From - (p+1)).toNat+1 by omega];simpa using h3
    ·obtain ⟨h1,h2,v,h3,h4⟩:=ihb p (q+1) s hs
     refine ⟨by omega,by omega,v,h3,?_⟩
     rw [show (s.To - q).toNat=(s.To - (q+1)).toNat+1 by omega];simpa using h4
theorem B78:∀(l:List Str) (s t:Str) (k:Int),0≤k→s∈l→t∈l→H1 l s k=H1 l t k→s=t
 | [],_,_,_,_,h,_,_=>by simp at h
 | x::r,s,t,k,hk,hs,ht,e=>by
  unfold H1 at e
  by_cases h1:x=s
  ·by_cases h2:x=t
   ·exact h1.symm.trans h2
   ·rw [if_pos h1,if_neg h2] at e
    have ht':t∈r:=(List.mem_cons.1 ht).resolve_left (fun q=>h2 q.symm)
    have:=y3 r t (k+1) (by omega) ht'
    omega
  ·have hs':s∈r:=(List.mem_cons.1 hs).resolve_left (fun q=>h1 q.symm)
   by_cases h2:x=t
   ·rw [if_neg h1,if_pos h2] at e
    have:=y3 r s (k+1) (by omega) hs'
    omega
   ·rw [if_neg h1,if_neg h2] at e
    exact B78 r s t (k+1) (by omega) hs' ((List.mem_cons.1 ht).resolve_left (fun q=>h2 q.symm)) e
theorem C08 {names f:List Str} {i:Nat} {v:Int} (h:(F5 names f)[i]?=some v):∃s,f[i]?=some s∧H1 names s 0=v:=by
 unfold F5 at h
 rw [K31] at h
 cases hf:f[i]? with
 | none=>rw [hf] at h;cases h
 | some s=>rw [hf] at h;exact ⟨s,rfl,Option.some.inj h⟩
theorem E78 (x y:List Str) (hx:x.length≤4096) (hy:y.length≤4096):ScFit x y (U8 x y):=by
 have l1:(F5 (E0 [x,y]) x).length=x.length:=by simp [F5]
 have l2:(F5 (E0 [x,y]) y).length=y.length:=by simp [F5]
 have hA:=U4 (F5 (E0 [x,y]) x) (F5 (E0 [x,y]) y) 0 0
 rw [l1,l2,Int.zero_add,Int.zero_add] at hA
 refine ⟨by omega,by omega,?_,?_⟩
 ·unfold U8 M5 A23
  rw [l1,l2]
  exact B00 ⟨by omega,by omega⟩ ⟨by omega,by omega⟩ _ _ _ _ _ _ hA (Int.le_refl _) (Int.le_refl _) (Int.le_refl _) rfl (fun h=>absurd h (by omega))
 ·unfold U8 M5 A23
  rw [l1,l2]
  refine D35 _ _ _ _ _ hA (Int.le_refl _) (Int.le_refl _) (Int.le_refl _) (Int.le_refl _) ?_ (by rw [A72,A72])
  intro s hs
  obtain ⟨h1,h2,v,h3,h4⟩:=D36 _ _ _ _ s hs
  rw [Int.sub_zero] at h3 h4
  obtain ⟨u,u1,u2⟩:=C08 h3
  obtain ⟨w,w1,w2⟩:=C08 h4
  have e:u=w:=B78 (E0 [x,y]) u w 0 (Int.le_refl _) (T5 _ _ x (by simp) (K16 u1)) (T5 _ _ y (by simp) (K16 w1)) (u2.trans w2.symm)
  subst e
  exact ⟨h1,h2,u,u1,w1⟩
theorem F75:∀(ls:List PatchLine),ls.all n6=true→(ls.map szL).sum≤64*((C4 ls 43).length+(C4 ls 45).length)+((C4 ls 43).flatten.length+(C4 ls 45).flatten.length)
 | [],_=>by simp
 | q::ls,h=>by
  rw [List.all_cons,K08] at h
  have ih:=F75 ls h.2
  have hk:q.Kind=32∨q.Kind=45∨q.Kind=43:=by
   have hg:=h.1
   unfold n6 at hg
   have hg:=A0 hg
   by_cases h1:q.Kind=32
   ·exact .inl h1
   by_cases h2:q.Kind=45
   ·exact .inr (.inl h2)
   by_cases h3:q.Kind=43
   ·exact .inr (.inr h3)
   exact absurd (.inl ⟨⟨h1,h2⟩,h3⟩) hg
  have hd:∀k:UInt8,C4 (q::ls) k=if q.Kind≠k then q.Text::C4 ls k else C4 ls k:=by
   intro k
   unfold C4
   by_cases e:q.Kind=k
   ·rw [if_neg (by simpa using e),List.filter_cons_of_neg (by simpa using e)]
   ·rw [if_pos e,List.filter_cons_of_pos (by simpa using e)];rfl
  rw [hd 43,hd 45,K13,K34]
  have hz:szL q=q.Text.length+64:=rfl
  rcases hk with e | e | e<;>rw [e]<;>simp (decide:=true) only [if_true,if_false,ne_eq,not_true_eq_false,not_false_eq_true,K07,K18,K05]<;>omega
theorem C96:∀(hs:List PatchHunk) (i j:Int),y6 i j hs=true→szP hs≤128*((J8 hs 43).length+(J8 hs 45).length)+((J8 hs 43).flatten.length+(J8 hs 45).flatten.length)
 | [],_,_,_=>by simp [szP]
 | h :: hs,i,j,hg=>by
  simp only [y6,K08,decide_eq_true_eq] at hg
  obtain ⟨h1,h2,h3,h4⟩:=hg
  have ih:=C96 hs _ _ h4
  have hl:=F75 h.Lines h1
  have hne:1≤h.Lines.length:=by
   cases hq:h.Lines with
   | nil=>exact absurd (.inl (.inl (.inl (.inl (.inl (by rw [hq];rfl)))))) h2
   | cons a b=>simp
  have hcnt:h.Lines.length≤(C4 h.Lines 43).length+(C4 h.Lines 45).length:=by
   have:64*h.Lines.length≤(h.Lines.map szL).sum:=B25 h.Lines
   have key:∀ls:List PatchLine,ls.length≤(C4 ls 43).length+(C4 ls 45).length:=by
    intro ls
    induction ls with
    | nil=>simp
    | cons q ls ih =>
     have hd:∀k:UInt8,(C4 (q::ls) k).length=if q.Kind≠k then (C4 ls k).length+1 else (C4 ls k).length:=by
      intro k
      unfold C4
      by_cases e:q.Kind=k
      ·rw [if_neg (by simpa using e),List.filter_cons_of_neg (by simpa using e)]
      ·rw [if_pos e,List.filter_cons_of_pos (by simpa using e)];simp
     rw [hd 43,hd 45,K07]
     by_cases e:q.Kind=43
     ·have e2:q.Kind≠45:=by rw [e];decide
      rw [if_pos e2];split<;>omega
     ·rw [if_pos e];split<;>omega
   exact key h.Lines
  have hsz:szP (h::hs)=szH h+szP hs:=by simp [szP]
  have hszh:szH h=64+(h.Lines.map szL).sum:=rfl
  have hs1:∀k,J8 (h::hs) k=C4 h.Lines k++J8 hs k:=by intro k;simp [J8]
  rw [hsz,hszh,hs1 43,hs1 45]
  simp only [K05,K21]
  omega
theorem D72:∀{s z:List Str},s.Sublist z→s.flatten.length≤z.flatten.length:=by
 intro s z hs
 induction hs with
 | slnil=>exact Nat.le_refl _
 | cons a _ ih=>simp only [K18,K05];omega
 | cons_cons a _ ih=>simp only [K18,K05];omega
theorem ScFit.size {x y:List Str} {l:List Change} (h:ScFit x y l) {ctx:Int} (hc:0≤ctx) (hx:∀s∈x,H7 s=true) (hy:∀s∈y,H7 s=true):szP (P8 l x y ctx)≤128*(x.length+y.length)+(x.flatten.length+y.flatten.length):=by
 obtain ⟨h1,h2,h3,_⟩:=h.hunks hc hx hy _ 0 (A51 l x.length ctx l.length) 0 0 0 rfl rfl (Int.le_refl _) hc (fun _=>rfl)
 have h4:=C96 _ _ _ h1
 have e:P8 l x y ctx=(H2 l x.length ctx l.length).map (L6 l x y):=rfl
 rw [←e] at h2 h3 h4
 have h2':(J8 (P8 l x y ctx) 43).Sublist x:=by simpa using h2
 have h3':(J8 (P8 l x y ctx) 45).Sublist y:=by simpa using h3
 have:=h2'.length_le
 have:=h3'.length_le
 have:=D72 h2'
 have:=D72 h3'
 omega
theorem A52 (s:Str):∀cur:Str,(F7 cur s).flatten=cur++s:=by
 induction s with
 | nil=>intro cur;unfold F7;split<;>simp [*]
 | cons c r ih=>intro cur;rw [U3];split<;>simp [ih]
theorem Z6 (a:Str):(B8 a).flatten.length=a.length∧(B8 a).length≤a.length:=⟨by unfold B8;rw [A52];rfl,Y9 a⟩
theorem F40 {a:Str} (h:a.length≤4096):W0 a=(B8 a,0):=by
 have:=Y9 a
 unfold W0;rw [if_neg (by omega)]
end Go.AL
namespace Go.AL
open Go
end Go.AL
namespace Go.AL
open Go
abbrev C49:Int→Nat→Cell:=fun x _=>.v (.int .u16 x)
abbrev pU16s (l:List Int):PV:=.one (.list Int 1 C49 l)
theorem H94 (n:Int) (h:0≤n∧n < 65536):IntKind.u16.wrap n=n:=by
 simp [IntKind.wrap,IntKind.signed,IntKind.bits];omega
def flat (a b:List Int) (done:Nat→Nat→Bool):List Int :=
 (List.range ((a.length+1)*(b.length+1))).map fun p=>if done (p / (b.length+1)) (p % (b.length+1))=true then (dist (a.drop (p / (b.length+1))) (b.drop (p % (b.length+1))):Int) else 0
theorem D73 (a b:List Int) (done:Nat→Nat→Bool):(flat a b done).length=(a.length+1)*(b.length+1):=by simp [flat]
theorem E06 {a b:List Int} {i j:Nat} (hi:i≤a.length) (hj:j≤b.length):i*(b.length+1)+j < (a.length+1)*(b.length+1)∧(i*(b.length+1)+j) / (b.length+1)=i∧(i*(b.length+1)+j) % (b.length+1)=j:=by
 refine ⟨?_,?_,?_⟩
 ·have:(i+1)*(b.length+1)≤(a.length+1)*(b.length+1):=K20 _ (by omega)
  rw [K26,Nat.one_mul] at this;omega
 ·rw [Nat.mul_comm,Nat.mul_add_div (by omega),Nat.div_eq_of_lt (by omega),Nat.add_zero]
 ·rw [Nat.mul_comm,Nat.mul_add_mod,Nat.mod_eq_of_lt (by omega)]
theorem E79 {a b:List Int} {done:Nat→Nat→Bool} {i j:Nat} (hi:i≤a.length) (hj:j≤b.length):(flat a b done)[i*(b.length+1)+j]?=some (if done i j=true then (dist (a.drop i) (b.drop j):Int) else 0):=by
 obtain ⟨h1,h2,h3⟩:=E06 hi hj
 unfold flat
 rw [D29 _ _ _ h1,h2,h3]
theorem H19 {a b:List Int} {done done':Nat→Nat→Bool} {i j:Nat} {v:Int} (hi:i≤a.length) (hj:j≤b.length) (hv:v=(dist (a.drop i) (b.drop j):Int)) (hd:done' i j=true)
  (ho:∀r q,r≤a.length→q≤b.length→¬(r=i∧q=j)→done' r q=done r q):(flat a b done).set (i*(b.length+1)+j) v=flat a b done':=by
 obtain ⟨h1,h2,h3⟩:=E06 hi hj
 unfold flat
 refine D28 _ _ _ _ _ (fun _=>?_) (fun q hq hne=>?_)
 ·rw [h2,h3,if_pos hd,hv]
 ·have hW:0 < b.length+1:=by omega
  have e:=Nat.div_add_mod q (b.length+1)
  have hr:q / (b.length+1)≤a.length:=by
   have:=(Nat.div_lt_iff_lt_mul hW).2 hq
   omega
  have hm:=Nat.mod_lt q hW
  rw [ho _ _ hr (by omega) (fun ⟨e1,e2⟩=>hne (by rw [e1,e2,Nat.mul_comm] at e;exact e.symm))]
theorem I99 (a b:List Int):List.replicate ((a.length+1)*(b.length+1)) 0=flat a b (fun _ _=>false):=by
 unfold flat
 simp only [Bool.false_eq_true,if_false]
 rw [List.map_const',K56]
theorem B34 {a b:List Int} {done done':Nat→Nat→Bool} (h:∀r q,r≤a.length→q≤b.length→(done r q=done' r q∨dist (a.drop r) (b.drop q)=0)):flat a b done=flat a b done':=by
 unfold flat
 apply List.map_congr_left
 intro p hp
 have hp:=List.mem_range.1 hp
 have hW:0 < b.length+1:=by omega
 have hr:p / (b.length+1)≤a.length:=by have:=(Nat.div_lt_iff_lt_mul hW).2 hp;omega
 have hm:=Nat.mod_lt p hW
 rcases h (p / (b.length+1)) (p % (b.length+1)) hr (by omega) with e | e
 ·rw [e]
 ·rw [e];simp
def V6:List Int→List Int→Nat
 | x::a,y::b=>if x=y then V6 a b+1 else 0
 | _,_=>0
theorem H20:∀(a b:List Int),V6 a b≤a.length∧V6 a b≤b.length
 | [],_=>by simp [V6]
 | _::_,[]=>by simp [V6]
 | x::a,y::b=>by
  have:=H20 a b
  unfold V6
  simp only [K07]
  split<;>omega
theorem E80 (a b:List Int) (k:Nat) (hk:k < a.length) (hk':k < b.length):V6 (a.drop k) (b.drop k)=if a[k]=b[k] then V6 (a.drop (k+1)) (b.drop (k+1))+1 else 0:=by
 rw [K11 hk,K11 hk'];rfl
theorem J00 (a b:List Int) (k:Nat) (h:¬(k < a.length∧k < b.length)):V6 (a.drop k) (b.drop k)=0:=by
 by_cases h1:k < a.length
 ·rw [K15 (as:=b) (by omega)]
  cases a.drop k<;>rfl
 ·rw [K15 (as:=a) (by omega)];rfl
theorem E81:∀(a b:List Int) (p q:Int),G9 p q a b=M3 p q (V6 a b)++G9 (p+V6 a b) (q+V6 a b) (a.drop (V6 a b)) (b.drop (V6 a b))
 | [],b,p,q=>by simp [V6,A31]
 | x::a,[],p,q=>by simp [V6,A31]
 | x::a,y::b,p,q=>by
  unfold V6
  by_cases h:x=y
  ·rw [if_pos h]
   conv=>lhs;unfold G9
   rw [if_pos h,E81 a b (p+1) (q+1),B20]
   simp only [List.drop_succ_cons,K40]
   rw [show p+1+(V6 a b:Int)=p+((V6 a b+1:Nat):Int) by omega,show q+1+(V6 a b:Int)=q+((V6 a b+1:Nat):Int) by omega]
  ·rw [if_neg h]
   simp [A31]
end Go.AL
namespace Go.AL
open Go
def j8 (l:List Merged) (bit:Int) (a b:Nat):List Merged:=((l.drop a).take (b - a)).map fun y=>⟨y.Line,M6 y.Parents bit⟩
def C97 (list:List Int) (bit:Int) (a n:Nat):List Merged:=((list.drop a).take n).map fun v=>⟨v,bit⟩
def v6 (l:List Merged) (list:List Int) (bit:Int) (k:Nat):List Change→List Merged
 | []=>j8 l bit k l.length
 | c::r=>j8 l bit k c.Old.toNat++(l.drop c.Old.toNat).take c.OldLen.toNat++C97 list bit c.New.toNat c.NewLen.toNat++v6 l list bit (c.Old.toNat+c.OldLen.toNat) r
theorem H95 {α:Type} (l:List α) {a b c:Nat} (h1:a≤b) (h2:b≤c):(l.drop a).take (c - a)=(l.drop a).take (b - a)++(l.drop b).take (c - b):=by
 have h:=List.take_add (l:=l.drop a) (i:=b - a) (j:=c - b)
 rw [List.drop_drop,show b - a+(c - b)=c - a by omega,show a+(b - a)=b by omega] at h
 exact h
theorem D74 (l:List Merged) (bit:Int) {a b c:Nat} (h1:a≤b) (h2:b≤c):j8 l bit a c=j8 l bit a b++j8 l bit b c:=by
 unfold j8;rw [H95 l h1 h2,K19]
theorem D37 (l:List Merged) (bit:Int) (a:Nat):j8 l bit a a=[]:=by unfold j8;simp
theorem D38 (l:List Merged) (bit:Int) {a:Nat} (h:a < l.length):j8 l bit a (a+1)=(l[a]?.map fun y=>(⟨y.Line,M6 y.Parents bit⟩:Merged)).toList:=by
 unfold j8
 rw [show a+1 - a=1 by omega,K06 h,K11 h]
 rfl
theorem E82 (l:List Merged) (list:List Int) (bit:Int):∀(ps:List Span) (k i j:Nat),k≤i→Asc l.length list.length i j ps →
  v6 l list bit k (N3 i j ps l.length list.length)=j8 l bit k i++Z1 l list bit i j ps
 | [],k,i,j,hk,ha=>by
  have h1:(i:Int)≤l.length∧(j:Int)≤list.length:=ha
  unfold N3 Z1
  by_cases h:(l.length:Int) > i∨(list.length:Int) > j
  ·rw [if_pos h]
   simp only [v6]
   rw [show (i:Int).toNat+((l.length:Int) - i).toNat=l.length by omega,D37,K27,K12,K12,show ((l.length:Int) - i).toNat=l.length - i by omega,show ((list.length:Int) - j).toNat=list.length - j by omega,K23]
   rfl
  ·rw [if_neg h]
   have e1:i=l.length:=by omega
   have e2:j=list.length:=by omega
   rw [e1,e2]
   simp [v6]
 | x::r,k,i,j,hk,ha=>by
  obtain ⟨h1,h2,h3⟩:=ha
  have h4:=h3.le
  have e1:((x.From.toNat+1:Nat):Int)=x.From+1:=by omega
  have e2:((x.To.toNat+1:Nat):Int)=x.To+1:=by omega
  have ih:=fun k (hk:k≤x.From.toNat+1)=>E82 l list bit r k (x.From.toNat+1) (x.To.toNat+1) hk (by rw [e1,e2];exact h3)
  rw [e1,e2] at ih
  have hlt:x.From.toNat < l.length:=by omega
  unfold N3 Z1
  by_cases h:x.From > i∨x.To > j
  ·rw [if_pos h,List.singleton_append,v6]
   dsimp only
   rw [show (i:Int).toNat+(x.From - i).toNat=x.From.toNat by omega,ih _ (by omega),D38 l bit hlt,K12,K12,show (x.From - (i:Int)).toNat=x.From.toNat - i by omega,show (x.To - (j:Int)).toNat=x.To.toNat - j by omega]
   unfold C97
   simp only [K23]
  ·rw [if_neg h,K32]
   have e3:x.From.toNat=i:=by omega
   have e4:x.To.toNat=j:=by omega
   rw [ih k (by omega),D74 l bit hk (show i≤x.From.toNat+1 by omega),e3,e4,D38 l bit (by omega)]
   simp
theorem J55 (l:List Merged) (list:List Int) (bit:Int):v6 l list bit 0 (M5 (H8 l) list)=Z1 l list bit 0 0 (G9 0 0 (H8 l) list):=by
 have hasc:=U4 (H8 l) list 0 0
 rw [Int.zero_add,Int.zero_add,show (H8 l).length=l.length by simp [H8]] at hasc
 have:=E82 l list bit (G9 0 0 (H8 l) list) 0 0 0 (Nat.le_refl _) hasc
 rw [D37,K32] at this
 unfold M5 A23
 rw [show (H8 l).length=l.length by simp [H8]]
 exact this
def O0 (p:Int) (ms:List Int) (c:Change):List Int:=ms.mapIdx fun k m=>if c.New.toNat≤k∧k < c.New.toNat+c.NewLen.toNat then M6 m (J3 p) else m
theorem A07 (p:Int) (ms:List Int) (c:Change):(O0 p ms c).length=ms.length:=by simp [O0]
theorem A53 (p:Int) (ms:List Int) (c:Change) (k:Nat):(O0 p ms c)[k]?=ms[k]?.map fun m=>if c.New.toNat≤k∧k < c.New.toNat+c.NewLen.toNat then M6 m (J3 p) else m:=by
 unfold O0;rw [List.getElem?_mapIdx]
def S0 (cs:List Change) (k:Nat):Bool:=cs.any fun c=>decide (c.New.toNat≤k∧k < c.New.toNat+c.NewLen.toNat)
def B79 (ps:List Span) (k:Nat):Bool:=ps.any fun x=>decide (x.To.toNat=k)
theorem or_or (m b:Int):M6 (M6 m b) b=M6 m b:=by
 unfold M6
 have h:BitVec.ofInt IntKind.u32.bits (IntKind.u32.wrap ((BitVec.ofInt IntKind.u32.bits m ||| BitVec.ofInt IntKind.u32.bits b).toNat:Int))=BitVec.ofInt IntKind.u32.bits m ||| BitVec.ofInt IntKind.u32.bits b:=by
  rw [show IntKind.u32.wrap ((BitVec.ofInt IntKind.u32.bits m ||| BitVec.ofInt IntKind.u32.bits b).toNat:Int)=((BitVec.ofInt IntKind.u32.bits m ||| BitVec.ofInt IntKind.u32.bits b).toNat:Int) from A68 _ (by
   have:=(BitVec.ofInt IntKind.u32.bits m ||| BitVec.ofInt IntKind.u32.bits b).isLt
   exact this)]
  rw [BitVec.ofInt_natCast,BitVec.ofNat_toNat,BitVec.setWidth_eq]
 rw [h,BitVec.or_assoc,BitVec.or_self]
theorem E83 (p:Int):∀(cs:List Change) (ms:List Int) (k:Nat),(cs.foldl (O0 p) ms)[k]?=ms[k]?.map fun m=>if S0 cs k=true then M6 m (J3 p) else m
 | [],ms,k=>by simp [S0]
 | c::r,ms,k=>by
  rw [K35,E83 p r,A53,Option.map_map]
  congr 1
  funext m
  show (if S0 r k=true then M6 (if c.New.toNat≤k∧k < c.New.toNat+c.NewLen.toNat then M6 m (J3 p) else m) (J3 p) else if c.New.toNat≤k∧k < c.New.toNat+c.NewLen.toNat then M6 m (J3 p) else m)=if S0 (c::r) k=true then M6 m (J3 p) else m
  have e:S0 (c::r) k=(decide (c.New.toNat≤k∧k < c.New.toNat+c.NewLen.toNat)||S0 r k):=rfl
  rw [e]
  by_cases h1:c.New.toNat≤k∧k < c.New.toNat+c.NewLen.toNat
  ·rw [if_pos h1,decide_eq_true h1,Bool.true_or,if_pos rfl]
   cases S0 r k
   ·rw [if_neg (by decide)]
   ·rw [if_pos rfl,or_or]
  ·rw [if_neg h1,decide_eq_false h1,Bool.false_or]
theorem clr_clr (m b:Int):u5 (u5 m b) b=u5 m b:=by
 unfold u5
 have h:BitVec.ofInt IntKind.u32.bits (IntKind.u32.wrap ((BitVec.ofInt IntKind.u32.bits m &&& ~~~BitVec.ofInt IntKind.u32.bits b).toNat:Int))=BitVec.ofInt IntKind.u32.bits m &&& ~~~BitVec.ofInt IntKind.u32.bits b:=by
  rw [show IntKind.u32.wrap ((BitVec.ofInt IntKind.u32.bits m &&& ~~~BitVec.ofInt IntKind.u32.bits b).toNat:Int)=((BitVec.ofInt IntKind.u32.bits m &&& ~~~BitVec.ofInt IntKind.u32.bits b).toNat:Int) from A68 _ (by
   have:=(BitVec.ofInt IntKind.u32.bits m &&& ~~~BitVec.ofInt IntKind.u32.bits b).isLt
   exact this)]
  rw [BitVec.ofInt_natCast,BitVec.ofNat_toNat,BitVec.setWidth_eq]
 rw [h,BitVec.and_assoc,BitVec.and_self]
theorem F76 (p:Int):∀(ps:List Span) (ms:List Int) (k:Nat),(∀x∈ps,x.To.toNat < ms.length)→(ps.foldl (W4 p) ms)[k]?=ms[k]?.map fun m=>if B79 ps k=true then u5 m (J3 p) else m
 | [],ms,k,_=>by simp [B79]
 | x::r,ms,k,hp=>by
  have hx:=hp x (by simp)
  have hlen:(W4 p ms x).length=ms.length:=by simp [W4]
  rw [K35,F76 p r _ k (fun y hy=>by rw [hlen];exact hp y (by simp [hy]))]
  have hget:(W4 p ms x)[k]?=ms[k]?.map fun m=>if x.To.toNat=k then u5 m (J3 p) else m:=by
   unfold W4
   rw [List.getElem?_set]
   by_cases h:x.To.toNat=k
   ·subst h
    rw [if_pos rfl,if_pos hx,K06 hx,K09,K06 hx]
    simp
   ·rw [if_neg h];simp [h]
  rw [hget,Option.map_map]
  congr 1
  funext m
  show (if B79 r k=true then u5 (if x.To.toNat=k then u5 m (J3 p) else m) (J3 p) else if x.To.toNat=k then u5 m (J3 p) else m)=if B79 (x::r) k=true then u5 m (J3 p) else m
  have e:B79 (x::r) k=(decide (x.To.toNat=k)||B79 r k):=rfl
  rw [e]
  by_cases h1:x.To.toNat=k
  ·rw [if_pos h1,decide_eq_true h1,Bool.true_or,if_pos rfl]
   cases B79 r k
   ·rw [if_neg (by decide)]
   ·rw [if_pos rfl,clr_clr]
  ·rw [if_neg h1,decide_eq_false h1,Bool.false_or]
theorem clr_or (m:Nat) (p:Nat) (hp:p < 32) (hm:m < 2 ^ p):u5 (M6 m (J3 p)) (J3 p)=m:=by
 have h2:2 ^ p < 2 ^ 32:=Nat.pow_lt_pow_right (by decide) hp
 have hb:J3 (p:Int)=((2 ^ p:Nat):Int):=by
  unfold J3
  rw [H88 (n:=(p:Int)) (by omega),show min ((p:Int)).toNat IntKind.u32.bits=p by rw [K12];exact Nat.min_eq_left (by show p≤32;omega),Int.one_mul]
  rw [show (2:Int) ^ p=((2 ^ p:Nat):Int) by simp]
  exact A68 _ (by omega)
 rw [hb]
 obtain ⟨h3,h4⟩:=C87 m (2 ^ p) (by omega) (by omega)
 rw [h3]
 unfold u5
 have e1:BitVec.ofInt IntKind.u32.bits (((m ||| 2 ^ p:Nat)):Int)=BitVec.ofNat 32 (m ||| 2 ^ p):=by simp [BitVec.ofInt_natCast];rfl
 have e2:BitVec.ofInt IntKind.u32.bits ((2 ^ p:Nat):Int)=BitVec.ofNat 32 (2 ^ p):=by rw [BitVec.ofInt_natCast];rfl
 rw [e1,e2]
 have h5:(BitVec.ofNat 32 (m ||| 2 ^ p) &&& ~~~BitVec.ofNat 32 (2 ^ p))=BitVec.ofNat 32 m:=by
  apply BitVec.eq_of_getLsbD_eq
  intro i hi
  simp only [BitVec.getLsbD_and,BitVec.getLsbD_not,BitVec.getLsbD_ofNat,hi,decide_true,Bool.true_and,Nat.testBit_or,Nat.testBit_two_pow]
  by_cases hip:p=i
  ·subst hip
   simp [Nat.testBit_lt_two_pow hm]
  ·simp [hip]
 have h6:(BitVec.ofNat 32 m).toNat=m:=by rw [BitVec.toNat_ofNat];exact Nat.mod_eq_of_lt (by omega)
 have h7:((BitVec.ofNat 32 (m ||| 2 ^ p) &&& ~~~BitVec.ofNat 32 (2 ^ p)).toNat:Int)=m:=by rw [h5,h6]
 exact (congrArg IntKind.u32.wrap h7).trans (A68 _ (by omega))
end Go.AL
namespace Go.AL
open Go
theorem H21 (a b:List Span) (k:Nat):B79 (a++b) k=(B79 a k||B79 b k):=by unfold B79;rw [List.any_append]
theorem C98 (i j:Int) (t:Nat) (k:Nat) (hj:0≤j):B79 (M3 i j t) k=decide (j≤k∧(k:Int) < j+t):=by
 unfold B79 M3
 rw [List.any_map,Bool.eq_iff_iff,List.any_eq_true,decide_eq_true_eq]
 constructor
 ·rintro ⟨s,hs,h⟩
  have h1:=List.mem_range.1 hs
  have h2:(j+(s:Int)).toNat=k:=A0 h
  omega
 ·rintro ⟨h1,h2⟩
  refine ⟨((k:Int) - j).toNat,List.mem_range.2 (by omega),?_⟩
  show decide ((j+((((k:Int) - j).toNat:Nat):Int)).toNat=k)=true
  exact decide_eq_true (by omega)
theorem E84 (c:Change) (r:List Change) (k:Nat):S0 (c::r) k=(decide (c.New.toNat≤k∧k < c.New.toNat+c.NewLen.toNat)||S0 r k):=rfl
theorem F77:∀(cs:List Change) (k0:Nat) (i j m n:Int),J1 k0 i j cs m n=true→0≤i→0≤j →
  (∀k:Nat,(k:Int) < j→B79 (I3 i j cs m) k=false∧S0 cs k=false)∧∀k:Nat,j≤k→(k:Int) < n→B79 (I3 i j cs m) k=!S0 cs k
 | [],k0,i,j,m,n,h,h1,h2=>by
  simp only [J1,decide_eq_true_eq] at h
  unfold I3
  refine ⟨fun k hk=>⟨?_,rfl⟩,fun k hk hk2=>?_⟩
  ·rw [C98 _ _ _ _ h2];exact decide_eq_false (by omega)
  ·rw [C98 _ _ _ _ h2]
   show _=true
   exact decide_eq_true (by omega)
 | c :: r,k0,i,j,m,n,h,h1,h2=>by
  simp only [J1,K08,decide_eq_true_eq] at h
  obtain ⟨hb,hr⟩:=h
  have hc:(0≤c.OldLen∧0≤c.NewLen∧i≤c.Old∧c.Old - i=c.New - j):=by
   unfold D89 H5 at hb
   by_cases a2:(0≤c.OldLen∧c.OldLen≤4096)<;>by_cases a4:(0≤c.NewLen∧c.NewLen≤4096)<;>simp [a2,a4] at hb ⊢<;>omega
  obtain ⟨c1,c2,c3,c4⟩:=hc
  obtain ⟨i1,i2⟩:=F77 r (k0+1) (c.Old+c.OldLen) (c.New+c.NewLen) m n hr (by omega) (by omega)
  unfold I3
  rw [show max i c.Old=c.Old by omega,show j+((c.Old - i).toNat:Int)+c.NewLen=c.New+c.NewLen by omega]
  refine ⟨fun k hk=>?_,fun k hk hk2=>?_⟩
  ·obtain ⟨q1,q2⟩:=i1 k (by omega)
   rw [H21,C98 _ _ _ _ h2,E84,q1,q2,decide_eq_false (by omega),decide_eq_false (by omega)]
   exact ⟨rfl,rfl⟩
  ·rw [H21,C98 _ _ _ _ h2,E84]
   by_cases g1:(k:Int) < c.New
   ·obtain ⟨q1,q2⟩:=i1 k (by omega)
    rw [q1,q2,decide_eq_true (by omega),decide_eq_false (by omega)];rfl
   ·rw [decide_eq_false (by omega),Bool.false_or]
    by_cases g2:(k:Int) < c.New+c.NewLen
    ·obtain ⟨q1,q2⟩:=i1 k g2
     rw [q1,decide_eq_true (by omega)];rfl
    ·rw [i2 k (by omega) hk2,decide_eq_false (by omega),Bool.false_or]
theorem I41 {m n:Int}:∀{p:List Span} {i j:Int},Asc m n i j p→∀x∈p,i≤x.From∧x.From < m∧j≤x.To∧x.To < n
 | x::r,i,j,h,y,hy=>by
  obtain ⟨h1,h2,h3⟩:=h
  have h4:=h3.le
  rcases List.mem_cons.1 hy with rfl | hy
  ·omega
  ·have:=I41 h3 y hy;omega
def A18 (ids:List (List Int)) (s:Loom) (p:Nat):Loom :=
 let file:=ids.getD (p+1) []
 let sc:=M5 file (ids.getD 0 [])
 (sc.foldl (O0 p) s.1,sc.foldl (P5 p file) s.2)
def y9 (ids:List (List Int)) (lines n p:Nat):Loom:=(List.range p).foldl (A18 ids) (E61 lines n)
theorem B80 (ids:List (List Int)) (lines n p:Nat):y9 ids lines n (p+1)=A18 ids (y9 ids lines n p) p:=by
 unfold y9;rw [K47,K51];rfl
def LowM (p:Nat) (ms:List Int):Prop:=∀v∈ms,0≤v∧v < ((2 ^ p:Nat):Int)
theorem C09 {p:Nat} (hp:p < 32):J3 (p:Int)=((2 ^ p:Nat):Int):=by
 have h2:2 ^ p < 2 ^ 32:=Nat.pow_lt_pow_right (by decide) hp
 unfold J3
 rw [H88 (n:=(p:Int)) (by omega),show min ((p:Int)).toNat IntKind.u32.bits=p by rw [K12];exact Nat.min_eq_left (by show p≤32;omega),Int.one_mul]
 rw [show (2:Int) ^ p=((2 ^ p:Nat):Int) by simp]
 exact A68 _ (by omega)
theorem or_low {m:Int} {p:Nat} (hp:p < 32) (h:0≤m∧m < ((2 ^ p:Nat):Int)):0≤M6 m (J3 p)∧M6 m (J3 p) < ((2 ^ (p+1):Nat):Int):=by
 have h2:2 ^ p < 2 ^ 32:=Nat.pow_lt_pow_right (by decide) hp
 obtain ⟨q,rfl⟩:∃q:Nat,m=q:=⟨m.toNat,by omega⟩
 have hq:q < 2 ^ p:=by omega
 rw [C09 hp]
 obtain ⟨h3,_⟩:=C87 q (2 ^ p) (by omega) (by omega)
 rw [h3]
 have h4:q ||| 2 ^ p < 2 ^ (p+1):=Nat.or_lt_two_pow (by rw [Nat.pow_succ];omega) (by rw [Nat.pow_succ];omega)
 omega
theorem J01 {ids:List (List Int)} {s:Loom} {p:Nat} {file base:List Int} (hf:file=ids.getD (p+1) []) (hb:base=ids.getD 0 []) (hp:p < 32) (hlow:LowM p s.1) (hlen:s.1.length=base.length) (hfl:file.length≤4096) (hbl:base.length≤4096) :
  A18 ids s p=n5 ids s p∧LowM (p+1) (A18 ids s p).1∧(A18 ids s p).1.length=base.length:=by
 have hasc:=U4 file base 0 0
 rw [Int.zero_add,Int.zero_add] at hasc
 have hsc:=B00 (m:=file.length) (n:=base.length) ⟨by omega,by omega⟩ ⟨by omega,by omega⟩ (G9 0 0 file base) 0 0 0 0 0 hasc (by omega) (by omega) (by omega) (by omega) (by omega)
 obtain ⟨_,hm⟩:=F77 _ 0 0 0 file.length base.length hsc (by omega) (by omega)
 have hmade:=G20 file base
 obtain ⟨sc,hscd⟩:∃sc,sc=M5 file base:=⟨_,rfl⟩
 have hsc2:N3 0 0 (G9 0 0 file base) file.length base.length=sc:=by rw [hscd];rfl
 rw [hsc2] at hm
 have e1:A18 ids s p=(sc.foldl (O0 p) s.1,sc.foldl (P5 p file) s.2):=by rw [hscd,hf,hb];rfl
 have e2:n5 ids s p=((N0 sc file.length).foldl (W4 p) (s.1.map (M6 · (J3 p))),sc.foldl (P5 p file) s.2):=by rw [hscd,hf,hb];rfl
 have hget:=E83 p sc s.1
 have hlen1:(sc.foldl (O0 p) s.1).length=s.1.length:=by
  have key:∀(cs:List Change) (ms:List Int),(cs.foldl (O0 p) ms).length=ms.length:=by
   intro cs
   induction cs with
   | nil=>intro ms;rfl
   | cons c r ih=>intro ms;rw [K35,ih,A07]
  exact key sc s.1
 refine ⟨?_,?_,by rw [e1];dsimp only;rw [hlen1,hlen]⟩
 ·rw [e1,e2,Prod.mk.injEq]
  refine ⟨?_,rfl⟩
  refine List.ext_getElem? fun k=>?_
  have hto:∀x∈N0 sc file.length,x.To.toNat < (s.1.map (M6 · (J3 p))).length:=by
   intro x hx
   rw [K29,hlen]
   rw [hscd,hmade] at hx
   have:=I41 hasc x hx
   omega
  rw [hget,F76 p _ _ k hto,K31,Option.map_map]
  cases hk:s.1[k]? with
  | none=>rfl
  | some v =>
   have hkl:k < base.length:=by have:=(List.getElem?_eq_some_iff.1 hk).1;omega
   have h3:=hm k (by omega) (by omega)
   have hv:=hlow v (K16 hk)
   show some (if S0 sc k=true then M6 v (J3 p) else v)=some (if B79 (N0 sc file.length) k=true then u5 (M6 v (J3 p)) (J3 p) else M6 v (J3 p))
   have h3:B79 (N0 sc file.length) k=!S0 sc k:=h3
   rw [h3]
   cases S0 sc k
   ·obtain ⟨q,rfl⟩:∃q:Nat,v=q:=⟨v.toNat,by omega⟩
    rw [if_neg (by decide),if_pos (show (!false)=true from rfl),clr_or q p hp (by omega)]
   ·rw [if_pos rfl,if_neg (by decide)]
 ·rw [e1]
  intro v hv
  obtain ⟨k,hk,rfl⟩:=List.mem_iff_getElem.1 hv
  have hkl:k < s.1.length:=by rw [←hlen1];exact hk
  have h4:=hget k
  rw [K06 hk,K06 hkl] at h4
  have h4:(sc.foldl (O0 p) s.1)[k]=if S0 sc k=true then M6 s.1[k] (J3 p) else s.1[k]:=Option.some.inj h4
  show 0≤(sc.foldl (O0 p) s.1)[k]∧(sc.foldl (O0 p) s.1)[k] < _
  rw [h4]
  have hv:=hlow s.1[k] (K17 hkl)
  split
  ·exact or_low hp hv
  ·have:2 ^ p≤2 ^ (p+1):=Nat.pow_le_pow_right (by decide) (by omega)
   omega
theorem C10 {ids:List (List Int)} {base:List Int} {n:Nat} (hb:base=ids.getD 0 []) (hl:∀x∈ids,x.length≤4096) (hbl:base.length≤4096):∀p,p≤32→y9 ids base.length n p=X3 ids base.length n p∧LowM p (y9 ids base.length n p).1∧(y9 ids base.length n p).1.length=base.length
 | 0,_=>by
  refine ⟨rfl,fun v hv=>?_,by simp [y9,E61]⟩
  have:=List.eq_of_mem_replicate (show v∈List.replicate base.length 0 from hv)
  subst this;decide
 | p+1,hp=>by
  obtain ⟨h1,h2,h3⟩:=C10 (n:=n) hb hl hbl p (by omega)
  have hfl:(ids.getD (p+1) []).length≤4096:=by
   rw [K09]
   cases hx:ids[p+1]? with
   | none=>simp
   | some x=>exact hl x (K16 hx)
  obtain ⟨s1,s2,s3⟩:=J01 (ids:=ids) (s:=y9 ids base.length n p) (p:=p) rfl hb (by omega) h2 h3 hfl hbl
  rw [B80,B69,s1,h1]
  rw [s1,h1] at s2 s3
  exact ⟨rfl,s2,s3⟩
theorem H22 (p:Int) (ms:List Int) (a b d:Int):O0 p ms ⟨a,b,d,0⟩=ms:=by
 refine List.ext_getElem? fun k=>?_
 rw [A53]
 cases h:ms[k]? with
 | none=>rfl
 | some v=>simp only [Option.map_some];rw [if_neg (by omega)]
theorem H23 (p:Int) (ms:List Int) (a b:Int) (d t:Nat) (h:d+t < ms.length):(O0 p ms ⟨a,b,d,t⟩)[d+t]?=some (ms.getD (d+t) 0)∧(O0 p ms ⟨a,b,d,t⟩).set (d+t) (M6 (ms.getD (d+t) 0) (J3 p))=O0 p ms ⟨a,b,d,((t+1:Nat):Int)⟩:=by
 have hg:ms[d+t]?=some (ms.getD (d+t) 0):=by rw [K09,K06 h];rfl
 refine ⟨?_,?_⟩
 ·rw [A53,hg]
  simp only [Option.map_some,K12]
  rw [if_neg (by omega)]
 ·refine List.ext_getElem? fun k=>?_
  rw [List.getElem?_set,A53,A53,A07]
  simp only [K12]
  by_cases hk:d+t=k
  ·subst hk
   rw [if_pos rfl,if_pos h,hg]
   simp only [Option.map_some]
   rw [if_pos (by omega)]
  ·rw [if_neg hk]
   cases ms[k]? with
   | none=>rfl
   | some v =>
    simp only [Option.map_some]
    by_cases g:d≤k∧k < d+t
    ·rw [if_pos g,if_pos (by omega)]
    ·rw [if_neg g,if_neg (by omega)]
end Go.AL
namespace Go.AL
open Go
def GrX (l:List Change) (m ctx:Int):Nat→List Hunk→Nat→Prop
 | a,[],k=>a=k
 | a,h::r,k=>∃b,a < b∧opens l ctx a∧(∀c,a < c→c < b→¬opens l ctx c)∧h=mkH l m ctx a b∧GrX l m ctx b r k
theorem GrX.le {l:List Change} {m ctx:Int}:∀{hs:List Hunk} {a k:Nat},GrX l m ctx a hs k→a≤k
 | [],a,k,h=>Nat.le_of_eq h
 | _::_,a,k,⟨b,h1,_,_,_,h2⟩=>by have:=GrX.le h2;omega
theorem GrX.unique {l:List Change} {m ctx:Int}:∀{hs hs':List Hunk} {a k:Nat},GrX l m ctx a hs k→GrX l m ctx a hs' k→hs=hs'
 | [],[],_,_,_,_=>rfl
 | [],_::_,a,k,h,⟨b,h1,_,_,_,h2⟩=>by have:=h2.le;have:a=k:=h;omega
 | _::_,[],a,k,⟨b,h1,_,_,_,h2⟩,h=>by have:=h2.le;have:a=k:=h;omega
 | x::r,x'::r',a,k,⟨b,h1,h2,h3,h4,h5⟩,⟨b',h1',h2',h3',h4',h5'⟩=>by
  have hopen:∀{r:List Hunk} {b:Nat},GrX l m ctx b r k→b < k→opens l ctx b:=by
   intro r b h hlt
   cases r with
   | nil=>have:b=k:=h;omega
   | cons y r=>obtain ⟨_,_,ho,_⟩:=h;exact ho
  have hb:b=b':=by
   have l1:=h5.le
   have l2:=h5'.le
   rcases Nat.lt_trichotomy b b' with hlt | rfl | hlt
   ·exact absurd (hopen h5 (by omega)) (h3' b h1 hlt)
   ·rfl
   ·exact absurd (hopen h5' (by omega)) (h3 b' h1' hlt)
  subst hb
  rw [h4,h4',GrX.unique h5 h5']
theorem GrX.snoc {l:List Change} {m ctx:Int} {k n:Nat} (ho:opens l ctx k) (hk:k < n) (hno:∀c,k < c→c < n→¬opens l ctx c):∀{hs:List Hunk} {a:Nat},GrX l m ctx a hs k→GrX l m ctx a (hs++[mkH l m ctx k n]) n
 | [],a,h=>by
  obtain rfl:a=k:=h
  exact ⟨n,hk,ho,hno,rfl,rfl⟩
 | _::_,a,⟨b,h1,h2,h3,h4,h5⟩=>⟨b,h1,h2,h3,h4,GrX.snoc ho hk hno h5⟩
theorem GrX.last {l:List Change} {m ctx:Int} {k:Nat} (hno:¬opens l ctx k):∀{hs:List Hunk} {a:Nat},GrX l m ctx a hs k→hs≠[]→GrX l m ctx a (hs.set (hs.length - 1) (A69 l m ctx k (hs.getD (hs.length - 1) E66))) (k+1)
 | [],_,_,h0=>absurd rfl h0
 | [h],a,⟨b,h1,h2,h3,h4,h5⟩,_=>by
  obtain rfl:b=k:=h5
  subst h4
  refine ⟨b+1,by omega,h2,fun c hc1 hc2=>?_,rfl,rfl⟩
  by_cases hcb:c=b
  ·rw [hcb];exact hno
  ·exact h3 c hc1 (by omega)
 | h::h'::r,a,⟨b,h1,h2,h3,h4,h5⟩,_=>by
  have ih:=GrX.last hno h5 (by simp)
  refine ⟨b,h1,h2,h3,h4,?_⟩
  simpa using ih
theorem D75 (l:List Change) (m ctx:Int):∀k,GrX l m ctx 0 (H2 l m ctx k) k
 | 0=>rfl
 | k+1=>by
  have ih:=D75 l m ctx k
  have hne:=(A15 l m ctx k).2
  simp only [H2,c9]
  by_cases ho:opens l ctx k
  ·rw [if_pos ho]
   have e:(H2 l m ctx k++[T6 l ctx k]).set ((H2 l m ctx k++[T6 l ctx k]).length - 1) (A69 l m ctx k ((H2 l m ctx k++[T6 l ctx k]).getD ((H2 l m ctx k++[T6 l ctx k]).length - 1) E66))=H2 l m ctx k++[mkH l m ctx k (k+1)]:=by
    simp [mkH]
   rw [e]
   exact ih.snoc ho (by omega) (fun c h1 h2=>by omega)
  ·rw [if_neg ho]
   refine ih.last ho ?_
   have:k≠0:=fun e=>ho (.inl e)
   have:=hne (by omega)
   intro e;rw [e] at this;simp at this
theorem GrX.len {l:List Change} {m ctx:Int}:∀{hs:List Hunk} {a k:Nat},GrX l m ctx a hs k→hs.length≤k - a
 | [],_,_,_=>Nat.zero_le _
 | _::_,a,k,⟨b,h1,_,_,_,h2⟩=>by have:=GrX.len h2;have:=h2.le;simp only [K07];omega
end Go.AL
namespace Go.AL
open Go
def A33:List Str→Int→List (Str × Cell)
 | [],_=>[]
 | s::r,i=>(s,.v (.int .i64 i))::A33 r (i+1)
theorem F78 (s:Str):∀(l:List Str) (i:Int),A33 (l++[s]) i=A33 l i++[(s,.v (.int .i64 (i+l.length)))]
 | [],i=>by simp [A33]
 | x::r,i=>by
  simp only [K40,A33,F78 s r,K07]
  rw [show i+1+(r.length:Int)=i+((r.length+1:Nat):Int) by omega]
theorem F79 (s:Str):∀(l:List Str) (i:Int),s∈l→A21 (A33 l i) s=some (.v (.int .i64 (H1 l s i)))
 | [],_,h=>by simp at h
 | x::r,i,h=>by
  simp only [A33,A21,H1]
  by_cases he:x=s
  ·rw [if_pos he,if_pos he]
  ·rw [if_neg he,if_neg he]
   exact F79 s r (i+1) ((List.mem_cons.1 h).resolve_left (fun q=>he q.symm))
theorem E85 (s:Str):∀(l:List Str) (i:Int),s∉l→A21 (A33 l i) s=none
 | [],_,_=>rfl
 | x::r,i,h=>by
  simp only [A33,A21]
  rw [if_neg (fun q=>h (by simp [q]))]
  exact E85 s r (i+1) (fun q=>h (by simp [q]))
theorem B81 (s:Str) (r:List Str):∀(l:List Str) (i:Int),s∈l→H1 (l++r) s i=H1 l s i
 | [],_,h=>by simp at h
 | x::l,i,h=>by
  simp only [K40,H1]
  by_cases he:x=s
  ·rw [if_pos he,if_pos he]
  ·rw [if_neg he,if_neg he]
   exact B81 s r l (i+1) ((List.mem_cons.1 h).resolve_left (fun q=>he q.symm))
theorem D76 (s:Str):∀(l:List Str) (i:Int),s∉l→H1 (l++[s]) s i=i+l.length
 | [],i,_=>by simp [H1]
 | x::l,i,h=>by
  simp only [K40,H1,K07]
  rw [if_neg (fun q=>h (by simp [q])),D76 s l (i+1) (fun q=>h (by simp [q]))]
  omega
theorem C99:∀(l out:List Str),∃r,l.foldl K7 out=out++r
 | [],out=>⟨[],by simp⟩
 | s::l,out=>by
  obtain ⟨r,hr⟩:=C99 l (K7 out s)
  rw [K35,hr]
  unfold K7
  split
  ·exact ⟨r,rfl⟩
  ·exact ⟨s::r,by simp⟩
def N2 (files:List (List Str)) (k j:Nat):List Str:=((files.take k).flatten++(files.getD k []).take j).foldl K7 []
theorem H24 (files:List (List Str)) (k:Nat):N2 files (k+1) 0=N2 files k (files.getD k []).length:=by
 unfold N2
 rw [List.take_zero,K27,K28]
 by_cases h:k < files.length
 ·rw [u0 files k h]
  congr 2
  simp [h]
 ·rw [K39 (by omega),K39 (by omega)]
  have:files.getD k []=[]:=by simp [show files.length≤k by omega]
  rw [this,K27]
theorem G32 (files:List (List Str)) (k j:Nat) (s:Str) (h:(files.getD k [])[j]?=some s):N2 files k (j+1)=K7 (N2 files k j) s:=by
 unfold N2
 have hj:j < (files.getD k []).length:=(List.getElem?_eq_some_iff.1 h).1
 have he:=(List.getElem?_eq_some_iff.1 h).2
 rw [K14 hj,he,←K23,K51]
 rfl
theorem H25 (files:List (List Str)):N2 files files.length 0=E0 files:=by
 unfold N2 E0
 rw [K28];simp
theorem D77 (files:List (List Str)) (k j:Nat):∃r,E0 files=N2 files k j++r:=by
 have h:∃m,files.flatten=((files.take k).flatten++(files.getD k []).take j)++m:=by
  refine ⟨(files.getD k []).drop j++(files.drop (k+1)).flatten,?_⟩
  by_cases hk:k < files.length
  ·have e:files=files.take k++files.getD k []::files.drop (k+1):=by
    have:files.getD k []=files[k]:=by simp [hk]
    rw [this,List.getElem_cons_drop,K38]
   conv=>lhs;rw [e]
   rw [K21,K18,K23]
   congr 1
   rw [←K23,K38]
  ·have:files.getD k []=[]:=by simp [show files.length≤k by omega]
   rw [this,K39 (by omega:files.length≤k),K15 (by omega:files.length≤k+1)]
   simp
 obtain ⟨m,hm⟩:=h
 unfold E0 N2
 rw [hm,K51]
 obtain ⟨r,hr⟩:=C99 m (((files.take k).flatten++(files.getD k []).take j).foldl K7 [])
 exact ⟨r,hr⟩
theorem E86 (files:List (List Str)) (k j:Nat):(N2 files k j).length≤files.flatten.length:=by
 obtain ⟨r,hr⟩:=D77 files k j
 have:=E57 files
 rw [hr,K05] at this;omega
def O5 (files:List (List Str)) (k:Nat):List TC:=(List.range files.length).map fun r=>if r < k then .p (.list Int 1 G7 (F5 (E0 files) (files.getD r []))) else .p (.v (.slice none 0 0))
theorem J02 {files:List (List Str)} {k:Nat} (h:k < files.length):(O5 files k)[k]?=some (.p (.v (.slice none 0 0))):=by
 simp [O5,h]
theorem G33 (files:List (List Str)) (k m:Nat) (_h:k < files.length):((O5 files k).set k (.buf m Int 1 G7 (F5 (E0 files) (files.getD k [])))).map (TC.forget m)=O5 files (k+1):=by
 have e1:(O5 files k).map (TC.forget m)=O5 files k:=by
  unfold O5
  rw [K41]
  apply List.map_congr_left
  intro r _
  simp only [Function.comp]
  split<;>rfl
 rw [List.map_set,e1]
 have e2:(TC.buf m Int 1 G7 (F5 (E0 files) (files.getD k []))).forget m=.p (.list Int 1 G7 (F5 (E0 files) (files.getD k []))):=by simp [TC.forget]
 rw [e2]
 unfold O5
 refine D28 _ _ _ _ _ (fun _=>by simp) (fun q hq hne=>?_)
 simp only [show (q < k+1)=(q < k) from propext ⟨fun h=>by omega,fun h=>by omega⟩]
theorem H96 (files:List (List Str)):List.replicate files.length (TC.p (.v (.slice none 0 0)))=O5 files 0:=by
 unfold O5
 simp only [Nat.not_lt_zero,if_false,List.map_const',K56]
theorem H97 (files:List (List Str)):O5 files files.length=(files.map (F5 (E0 files))).map fun x=>TC.p (intsC x 0):=by
 unfold O5
 apply List.ext_getElem
 ·simp
 ·intro i h1 h2
  have hi:i < files.length:=by simpa using h1
  simp [hi,intsC]
end Go.AL
namespace Go.AL
open Go
theorem I42 (m n:Int):∀(l:List Change) (k0:Nat) (i j:Int),(∀k,k < l.length→H5 (cAt l k).Old∧H5 (cAt l k).OldLen∧H5 (cAt l k).New∧H5 (cAt l k).NewLen∧(cAt l k).OldLen+(cAt l k).NewLen≠0∧(cAt l k).Old - eoI i l k=(cAt l k).New - enI j l k∧eoI i l k≤(cAt l k).Old∧(0 < k0+k→eoI i l k < (cAt l k).Old)) →
  (m - eoI i l l.length=n - enI j l l.length∧eoI i l l.length≤m)→J1 k0 i j l m n=true
 | [],k0,i,j,_,h=>by
  have h1:m - i=n - j∧i≤m:=h
  simp only [J1,decide_eq_true_eq];omega
 | c::r,k0,i,j,h,he=>by
  simp only [J1,K08,decide_eq_true_eq]
  refine ⟨?_,I42 m n r (k0+1) _ _ (fun k hk=>?_) ?_⟩
  ·obtain ⟨h1,h2,h3,h4,h5,h6,h7,h8⟩:=h 0 (by simp)
   have h1:H5 c.Old:=h1
   have h2:H5 c.OldLen:=h2
   have h3:H5 c.New:=h3
   have h4:H5 c.NewLen:=h4
   have h5:c.OldLen+c.NewLen≠0:=h5
   have h6:c.Old - i=c.New - j:=h6
   have h7:i≤c.Old:=h7
   have h8:0 < k0+0→i < c.Old:=h8
   unfold D89
   rintro (((((((q | q) | q) | q) | q) | q) | q) | ⟨q,q2⟩)
   ·exact q h1
   ·exact q h2
   ·exact q h3
   ·exact q h4
   ·exact h5 q
   ·exact q h6
   ·omega
   ·have:=h8 (by omega);omega
  ·have:=h (k+1) (by simpa using hk)
   rw [C95,A16,A17] at this
   obtain ⟨e1,e2,e3,e4,e5,e6,e7,e8⟩:=this
   exact ⟨e1,e2,e3,e4,e5,e6,e7,fun h0=>e8 (by omega)⟩
  ·rw [K07,A16,A17] at he;exact he
theorem I43 (x y:List Str):∀(l:List Change) (i j:Int),(∀k,k < l.length→sub x (eoI i l k) (cAt l k).Old=sub y (enI j l k) (cAt l k).New)→sub x (eoI i l l.length) x.length=sub y (enI j l l.length) y.length→B75 x y i j l
 | [],_,_,_,h=>h
 | c::r,i,j,h,he=>by
  refine ⟨h 0 (by simp),I43 x y r _ _ (fun k hk=>?_) ?_⟩
  ·have:=h (k+1) (by simpa using hk)
   rw [C95,A16,A17] at this;exact this
  ·rw [K07,A16,A17] at he;exact he
theorem I44 {x:List Str} {p q:Int} {t:Nat} (h0:0≤p) (h:p+t < q):(sub x p q)[t]?=x[(p+t).toNat]?:=by
 unfold sub
 rw [List.getElem?_take,if_pos (by omega),K42]
 congr 1;omega
theorem G34 {x y:List Str} {p q p' q':Int} (h:sub x p q=sub y p' q') (h0:0≤p) (h0':0≤p') (hq:q≤x.length) (he:q - p=q' - p') {t:Nat} (ht:p+t < q):∃v,x[(p+t).toNat]?=some v∧y[(p'+t).toNat]?=some v:=by
 have h1:x[(p+t).toNat]?=some x[(p+t).toNat]:=K06 (by omega)
 refine ⟨_,h1,?_⟩
 rw [←I44 (q:=q') h0' (by omega),←h,I44 h0 ht];exact h1
theorem D78 {i j:Int} {n:Nat} {p:Span} (h:p∈M3 i j n):∃t:Nat,t < n∧p=⟨i+t,j+t⟩:=by
 unfold M3 at h
 obtain ⟨t,h1,h2⟩:=List.mem_map.1 h
 exact ⟨t,List.mem_range.1 h1,h2.symm⟩
theorem E87 {x y:List Str}:∀(l:List Change) (k0:Nat) (i j:Int),J1 k0 i j l x.length y.length=true→B75 x y i j l→0≤i→0≤j→∀p∈I3 i j l x.length,EqAt x y p
 | [],k0,i,j,hs,he,hi,hj,p,hp=>by
  simp only [J1,decide_eq_true_eq] at hs
  unfold I3 at hp
  obtain ⟨t,ht,rfl⟩:=D78 hp
  have he:sub x i x.length=sub y j y.length:=he
  exact ⟨by dsimp only;omega,by dsimp only;omega,G34 he hi hj (by omega) (by omega) (by omega)⟩
 | c::r,k0,i,j,hs,he,hi,hj,p,hp=>by
  have hok:=Z5 _ _ _ _ _ _ hs
  have g:=y8 x.length y.length (c::r) k0 i j hs 0 (by simp)
  obtain ⟨g1,g2,g3,g4,g5,g6,g7,_⟩:=g
  have g1:H5 c.Old:=g1
  have g2:H5 c.OldLen:=g2
  have g3:H5 c.New:=g3
  have g4:H5 c.NewLen:=g4
  have g6:c.Old - i=c.New - j:=g6
  have g7:i≤c.Old:=g7
  simp only [J1,K08,decide_eq_true_eq] at hs
  unfold I3 at hp
  unfold H5 at g1 g2 g3 g4
  have hm:=hok.2.2.2.2.2.2.end_le
  rcases List.mem_append.1 hp with hp | hp
  ·obtain ⟨t,ht,rfl⟩:=D78 hp
   exact ⟨by dsimp only;omega,by dsimp only;omega,G34 he.1 hi hj (by omega) (by omega) (by omega)⟩
  ·rw [show max i c.Old+c.OldLen=c.Old+c.OldLen by omega,show j+((c.Old - i).toNat:Int)+c.NewLen=c.New+c.NewLen by omega] at hp
   exact E87 r (k0+1) _ _ hs.2 he.2 (by omega) (by omega) p hp
theorem ScFit.pairs {x y:List Str} {l:List Change} (h:ScFit x y l):∀p∈N0 l x.length,EqAt x y p:=E87 l 0 0 0 h.sc h.eq (Int.le_refl _) (Int.le_refl _)
def A86 (c:Change):Change:=⟨c.Old+1,c.OldLen,c.New+1,c.NewLen⟩
def Q9 (l:List Change) (k:Nat):List Change:=l.set k (A86 (cAt l k))
def atI (t:List Int) (i:Int):Int:=t.getD i.toNat 0
def D79 (l:List Change) (k:Nat) (t:List Int) (f n:Int):Prop:=(f+n < t.length∧atI t f=atI t (f+n))∧(k+1=l.length∨(cAt l k).Old+(cAt l k).OldLen+1 < (cAt l (k+1)).Old)
instance (l:List Change) (k:Nat) (t:List Int) (f n:Int):Decidable (D79 l k t f n):=by unfold D79;exact inferInstance
def S3 (l:List Change) (a b:List Int) (k:Nat):Bool :=
 if (cAt l k).NewLen=0 then decide (D79 l k a (cAt l k).Old (cAt l k).OldLen) else if (cAt l k).OldLen=0 then decide (D79 l k b (cAt l k).New (cAt l k).NewLen) else false
theorem O1 (l:List Change) (k:Nat):(Q9 l k).length=l.length:=by simp [Q9]
theorem B02 (l:List Change) {k:Nat} (hk:k < l.length) (q:Nat):cAt (Q9 l k) q=if q=k then A86 (cAt l k) else cAt l q:=by
 unfold Q9
 by_cases h:q=k
 ·subst h
  have:∀z,cAt (l.set q z) q=z:=fun z=>by unfold cAt;simp [hk]
  rw [if_pos rfl,this]
 ·rw [if_neg h];unfold cAt
  simp only [K09]
  rw [List.getElem?_set_ne (Ne.symm h)]
theorem D00 (l:List Change) {k:Nat} (hk:k < l.length) (q:Nat):eoI 0 (Q9 l k) q=eoI 0 l q+(if q=k+1 then 1 else 0):=by
 cases q with
 | zero=>simp [eoI]
 | succ q =>
  rw [A49,A49,B02 l hk]
  by_cases h:q=k
  ·subst h;rw [if_pos rfl,if_pos rfl];simp only [r7,A86];omega
  ·rw [if_neg h,if_neg (by omega)];omega
theorem D01 (l:List Change) {k:Nat} (hk:k < l.length) (q:Nat):enI 0 (Q9 l k) q=enI 0 l q+(if q=k+1 then 1 else 0):=by
 cases q with
 | zero=>simp [enI]
 | succ q =>
  rw [A50,A50,B02 l hk]
  by_cases h:q=k
  ·subst h;rw [if_pos rfl,if_pos rfl];simp only [E71,A86];omega
  ·rw [if_neg h,if_neg (by omega)];omega
structure IdsOf (x:List Str) (a:List Int):Prop where
 len:a.length=x.length
 inj:∀(i j:Nat) (u v:Str) (z:Int),x[i]?=some u→x[j]?=some v→a[i]?=some z→a[j]?=some z→u=v
theorem ScFit.down {x y:List Str} {l:List Change} {a b:List Int} (h:ScFit x y l) (ha:IdsOf x a) (hb:IdsOf y b) {k:Nat} (hk:k < l.length) (hd:S3 l a b k=true):ScFit x y (Q9 l k):=by
 have hlx:=h.lx
 have hly:=h.ly
 have hg:=y8 _ _ _ 0 0 0 h.sc
 have hge:=E72 _ _ _ 0 0 0 h.sc
 have hq:=E73 _ _ _ _ _ h.eq
 have hqe:=G30 _ _ _ _ _ h.eq
 have hok:=h.ok
 obtain ⟨c,hc⟩:∃c,c=cAt l k:=⟨_,rfl⟩
 obtain ⟨g1,g2,g3,g4,g5,g6,g7,g8⟩:=hg k hk
 have hb4:=hok.get k hk
 rw [←hc] at g1 g2 g3 g4 g5 g6 g7 g8 hb4
 unfold H5 at g1 g2 g3 g4
 have eo1:eoI 0 l (k+1)=c.Old+c.OldLen:=by rw [A49,←hc];rfl
 have en1:enI 0 l (k+1)=c.New+c.NewLen:=by rw [A50,←hc];rfl
 obtain ⟨E,E',hE1,hE2,hE3,hE4,hE5,hEn⟩:∃E E':Int,sub x (c.Old+c.OldLen) E=sub y (c.New+c.NewLen) E'∧E - (c.Old+c.OldLen)=E' - (c.New+c.NewLen)∧E≤x.length∧E'≤y.length∧(c.Old+c.OldLen < E)∧(k+1 < l.length→E=(cAt l (k+1)).Old∧E'=(cAt l (k+1)).New∧c.Old+c.OldLen+1 < E):=by
  by_cases hl:k+1=l.length
  ·rw [←hl,eo1,en1] at hge hqe
   refine ⟨x.length,y.length,hqe,by omega,by omega,by omega,?_,fun q=>absurd hl (by omega)⟩
   unfold S3 at hd
   rw [←hc] at hd
   split at hd
   ·have:=(A0 hd).1.1;rw [ha.len] at this;omega
   ·split at hd
    ·have:=(A0 hd).1.1;rw [hb.len] at this;omega
    ·cases hd
  ·have hl:k+1 < l.length:=by omega
   obtain ⟨f1,f2,f3,f4,f5,f6,f7,f8⟩:=hg (k+1) hl
   have f9:=hq (k+1) hl
   have f10:=hok.get (k+1) hl
   rw [eo1,en1] at f6 f9
   rw [eo1] at f7
   unfold H5 at f2 f4
   have hroom:c.Old+c.OldLen+1 < (cAt l (k+1)).Old:=by
    unfold S3 at hd
    rw [←hc] at hd
    split at hd
    ·have:=(A0 hd).2;rw [←hc] at this;omega
    ·split at hd
     ·have:=(A0 hd).2;rw [←hc] at this;omega
     ·cases hd
   exact ⟨_,_,f9,by omega,by omega,by omega,by omega,fun _=>⟨rfl,rfl,hroom⟩⟩
 have hv:∃v,x[c.Old.toNat]?=some v∧y[c.New.toNat]?=some v:=by
  obtain ⟨v,v1,v2⟩:=G34 (t:=0) hE1 (by omega) (by omega) (by omega) hE2 (by omega)
  simp only [Int.natCast_zero,Int.add_zero] at v1 v2
  unfold S3 at hd
  rw [←hc] at hd
  split at hd
  ·rename_i hn
   have:=(A0 hd).1.2
   rw [hn,Int.add_zero] at v2
   refine ⟨v,?_,v2⟩
   have l1:c.Old.toNat < a.length:=by rw [ha.len];omega
   have l2:(c.Old+c.OldLen).toNat < a.length:=by rw [ha.len];omega
   have hx:x[c.Old.toNat]?=some x[c.Old.toNat]:=K06 (by omega)
   have ea:a[c.Old.toNat]?=some (atI a c.Old):=by unfold atI;rw [K09,K06 l1];rfl
   have eb:a[(c.Old+c.OldLen).toNat]?=some (atI a (c.Old+c.OldLen)):=by unfold atI;rw [K09,K06 l2];rfl
   rw [←this] at eb
   have:=ha.inj _ _ _ _ _ hx v1 ea eb
   rw [hx,this]
  ·split at hd
   ·rename_i _ hn
    have:=(A0 hd).1.2
    rw [hn,Int.add_zero] at v1
    refine ⟨v,v1,?_⟩
    have l1:c.New.toNat < b.length:=by rw [hb.len];omega
    have l2:(c.New+c.NewLen).toNat < b.length:=by rw [hb.len];omega
    have hx:y[c.New.toNat]?=some y[c.New.toNat]:=K06 (by omega)
    have ea:b[c.New.toNat]?=some (atI b c.New):=by unfold atI;rw [K09,K06 l1];rfl
    have eb:b[(c.New+c.NewLen).toNat]?=some (atI b (c.New+c.NewLen)):=by unfold atI;rw [K09,K06 l2];rfl
    rw [←this] at eb
    have:=hb.inj _ _ _ _ _ hx v2 ea eb
    rw [hx,this]
   ·cases hd
 obtain ⟨v,v1,v2⟩:=hv
 have hen0:0≤eoI 0 l k∧0≤enI 0 l k:=by
  cases k with
  | zero=>simp [eoI,enI]
  | succ k =>
   obtain ⟨f1,f2,f3,f4,_⟩:=hg k (by omega)
   unfold H5 at f1 f2 f3 f4
   rw [A49,A50];unfold r7 E71;omega
 have htail:sub x (c.Old+c.OldLen+1) E=sub y (c.New+c.NewLen+1) E':=by
  have:=B76 (e:=E - (c.Old+c.OldLen) - 1) hE1 (by omega) (by omega) (by omega) (by omega) hE2
  rw [show E - (E - (c.Old+c.OldLen) - 1)=c.Old+c.OldLen+1 by omega,show E' - (E - (c.Old+c.OldLen) - 1)=c.New+c.NewLen+1 by omega] at this
  exact this
 refine ⟨hlx,hly,I42 _ _ _ 0 0 0 (fun q hql=>?_) ?_,I43 _ _ _ 0 0 (fun q hql=>?_) ?_⟩
 ·rw [O1] at hql
  rw [B02 l hk,D00 l hk,D01 l hk]
  by_cases e:q=k
  ·rw [if_pos e,if_neg (show ¬q=k+1 by omega),e,←hc]
   unfold H5
   simp only [A86]
   refine ⟨by omega,g2,by omega,g4,g5,by omega,by omega,fun _=>by omega⟩
  ·rw [if_neg e]
   obtain ⟨f1,f2,f3,f4,f5,f6,f7,f8⟩:=hg q hql
   refine ⟨f1,f2,f3,f4,f5,?_,?_,?_⟩
   ·by_cases e2:q=k+1
    ·rw [if_pos e2];omega
    ·rw [if_neg e2];omega
   ·by_cases e2:q=k+1
    ·rw [if_pos e2];have:=f8 (by omega);omega
    ·rw [if_neg e2];omega
   ·intro h0
    by_cases e2:q=k+1
    ·rw [if_pos e2,e2,eo1]
     have:=(hEn (by omega))
     omega
    ·rw [if_neg e2];have:=f8 h0;omega
 ·rw [O1,D00 l hk,D01 l hk]
  by_cases e2:l.length=k+1
  ·rw [if_pos e2,e2,eo1,en1]
   rw [e2,eo1,en1] at hge
   have h1:E≤x.length:=hE3
   omega
  ·rw [if_neg e2];omega
 ·rw [O1] at hql
  rw [B02 l hk,D00 l hk,D01 l hk]
  by_cases e:q=k
  ·rw [if_pos e,if_neg (show ¬q=k+1 by omega),e,←hc]
   simp only [A86,Int.add_zero]
   have:=hq k hk
   rw [←hc] at this
   rw [B01 hen0.1 g7 v1,B01 hen0.2 (by omega) v2,this]
  ·rw [if_neg e]
   by_cases e2:q=k+1
   ·rw [if_pos e2]
    subst e2
    obtain ⟨q1,q2,_⟩:=hEn hql
    rw [eo1,en1,←q1,←q2];exact htail
   ·rw [if_neg e2,Int.add_zero,Int.add_zero]
    exact hq q hql
 ·rw [O1,D00 l hk,D01 l hk]
  by_cases e2:l.length=k+1
  ·rw [if_pos e2]
   rw [e2,eo1,en1] at hqe hge ⊢
   have:=B76 (e:=x.length - (c.Old+c.OldLen) - 1) hqe (by omega) (by omega) (by omega) (by omega) (by omega)
   rw [show (x.length:Int) - (x.length - (c.Old+c.OldLen) - 1)=c.Old+c.OldLen+1 by omega,show (y.length:Int) - (x.length - (c.Old+c.OldLen) - 1)=c.New+c.NewLen+1 by omega] at this
   exact this
  ·rw [if_neg e2,Int.add_zero,Int.add_zero];exact hqe
def A73 (l:List Change) (a b:List Int) (k:Nat):Nat:=((a.length:Int) - (cAt l k).Old).toNat+((b.length:Int) - (cAt l k).New).toNat
def A25 (a b:List Int) (k:Nat):Nat→List Change→List Change
 | 0,l=>l
 | f+1,l=>if S3 l a b k=true then A25 a b k f (Q9 l k) else l
def T8 (a b:List Int) (l:List Change) (k:Nat):List Change:=A25 a b k (A73 l a b k) l
def B03 (a b:List Int):Nat→List Change→List Change
 | 0,l=>l
 | k+1,l=>B03 a b k (T8 a b l k)
def v7 (l:List Change):List (Int × Int):=l.map fun c=>(c.OldLen,c.NewLen)
theorem H98 {l:List Change} {k:Nat} (hk:k < l.length):v7 (Q9 l k)=v7 l:=by
 unfold v7 Q9
 rw [List.map_set]
 have e:(A86 (cAt l k)).OldLen=l[k].OldLen∧(A86 (cAt l k)).NewLen=l[k].NewLen:=by unfold cAt A86;simp [hk]
 apply List.ext_getElem
 ·simp
 ·intro i h1 h2
  by_cases hi:k=i
  ·subst hi;simp [e.1,e.2]
  ·simp [hi]
section
variable {x y:List Str} {a b:List Int} (ha:IdsOf x a) (hb:IdsOf y b)
include ha hb
theorem B04 {l:List Change} {k:Nat} (h:ScFit x y l) (hk:k < l.length) (hd:S3 l a b k=true):A73 (Q9 l k) a b k < A73 l a b k:=by
 have h':=(h.down ha hb hk hd).ok.get k (by rw [O1];exact hk)
 unfold A73
 rw [B02 l hk,if_pos rfl] at h' ⊢
 obtain ⟨⟨h1,_⟩,⟨h2,_⟩,⟨h3,_⟩,⟨h4,_⟩,h5,h6⟩:=h'
 have e1:=ha.len
 have e2:=hb.len
 simp only [A86] at h1 h2 h3 h4 h5 h6 ⊢
 omega
theorem C28 {k:Nat}:∀(f g:Nat) (l:List Change),ScFit x y l→k < l.length→A73 l a b k≤f→A73 l a b k≤g→A25 a b k f l=A25 a b k g l
 | 0,0,l,_,_,_,_=>rfl
 | 0,g+1,l,h,hk,h1,_=>by
  unfold A25
  by_cases hd:S3 l a b k=true
  ·have:=B04 ha hb h hk hd;omega
  ·rw [if_neg hd]
 | f+1,0,l,h,hk,_,h1=>by
  unfold A25
  by_cases hd:S3 l a b k=true
  ·have:=B04 ha hb h hk hd;omega
  ·rw [if_neg hd]
 | f+1,g+1,l,h,hk,h1,h2=>by
  unfold A25
  by_cases hd:S3 l a b k=true
  ·have:=B04 ha hb h hk hd
   rw [if_pos hd,if_pos hd]
   exact C28 f g _ (h.down ha hb hk hd) (by rw [O1];exact hk) (by omega) (by omega)
  ·rw [if_neg hd,if_neg hd]
theorem F41 {l:List Change} {k:Nat} (h:ScFit x y l) (hk:k < l.length) (hd:S3 l a b k=true):T8 a b l k=T8 a b (Q9 l k) k:=by
 have hm:=B04 ha hb h hk hd
 unfold T8
 obtain ⟨g,hg⟩:∃g,A73 l a b k=g+1:=⟨A73 l a b k - 1,by omega⟩
 rw [hg]
 conv=>lhs;unfold A25
 rw [if_pos hd]
 exact C28 ha hb _ _ _ (h.down ha hb hk hd) (by rw [O1];exact hk) (by omega) (Nat.le_refl _)
omit ha hb in
theorem F42 {l:List Change} {k:Nat} (hd:S3 l a b k=false):T8 a b l k=l:=by
 unfold T8
 cases A73 l a b k with
 | zero=>rfl
 | succ n=>unfold A25;rw [hd];rfl
theorem E88 {k:Nat}:∀(f:Nat) (l:List Change),ScFit x y l→k < l.length→ScFit x y (A25 a b k f l)∧v7 (A25 a b k f l)=v7 l
 | 0,l,h,_=>⟨h,rfl⟩
 | f+1,l,h,hk=>by
  unfold A25
  by_cases hd:S3 l a b k=true
  ·rw [if_pos hd]
   have:=E88 f _ (h.down ha hb hk hd) (by rw [O1];exact hk)
   rw [H98 hk] at this;exact this
  ·rw [if_neg hd];exact ⟨h,rfl⟩
theorem D02 {l:List Change} {k:Nat} (h:ScFit x y l) (hk:k < l.length):ScFit x y (T8 a b l k)∧v7 (T8 a b l k)=v7 l:=E88 ha hb _ l h hk
omit ha hb in
theorem E89 {l l':List Change} (h:v7 l=v7 l'):l.length=l'.length:=by
 have:=congrArg List.length h
 simpa [v7] using this
theorem D03:∀(k:Nat) (l:List Change),ScFit x y l→k≤l.length→ScFit x y (B03 a b k l)∧v7 (B03 a b k l)=v7 l
 | 0,l,h,_=>⟨h,rfl⟩
 | k+1,l,h,hk=>by
  unfold B03
  obtain ⟨h1,h2⟩:=D02 ha hb h (k:=k) (by omega)
  have h3:=D03 k _ h1 (by rw [E89 h2];omega)
  rw [h2] at h3;exact h3
end
theorem C11 {names x:List Str} (h:∀s∈x,s∈names):IdsOf x (F5 names x):=by
 refine ⟨by simp [F5],fun i j u v z h1 h2 h3 h4=>?_⟩
 obtain ⟨s,s1,s2⟩:=C08 h3
 obtain ⟨t,t1,t2⟩:=C08 h4
 rw [h1] at s1;cases s1
 rw [h2] at t1;cases t1
 exact B78 names u v 0 (Int.le_refl _) (h u (K16 h1)) (h v (K16 h2)) (s2.trans t2.symm)
def E90 (l:List Change) (a b:List Int):List Change:=B03 a b l.length l
end Go.AL
namespace Go.AL
open Go
def B35 (x y:List Str) (d:Bool):List Change:=if d=true then E90 (U8 x y) (F5 (E0 [x,y]) x) (F5 (E0 [x,y]) y) else U8 x y
def C50 (on nn a b:Str) (ctx:Int) (d:Bool):Patch × Int :=
 if K4 on=false∨K4 nn=false then (X6,120)
 else if ctx < 0∨1048576 < ctx then (X6,3)
 else (⟨on,nn,P8 (B35 (B8 a) (B8 b) d) (B8 a) (B8 b) ctx⟩,0)
theorem B82 (x y:List Str) (d:Bool) (hx:x.length≤4096) (hy:y.length≤4096):ScFit x y (B35 x y d)∧v7 (B35 x y d)=v7 (U8 x y):=by
 have h:=E78 x y hx hy
 unfold B35
 cases d
 ·exact ⟨h,rfl⟩
 ·rw [if_pos rfl]
  exact D03 (C11 fun s hs=>T5 _ _ x (by simp) hs) (C11 fun s hs=>T5 _ _ y (by simp) hs) _ _ h (Nat.le_refl _)
theorem H26 (x y:List Str) (d:Bool) (hx:x.length≤4096) (hy:y.length≤4096):(B35 x y d).length≤x.length+1:=by
 rw [E89 (B82 x y d hx hy).2];exact C92 x y
theorem J03 {l:List Change} {m n ctx:Int} (h:ctx < 0∨1048576 < ctx):B24 l m n ctx=([],3):=by unfold B24;rw [if_pos h]
theorem J04 {x y:List Str} {l:List Change} (h:ScFit x y l) {ctx:Int} (hc:¬(ctx < 0∨1048576 < ctx)):B24 l x.length y.length ctx=(H2 l x.length ctx l.length,0):=by
 unfold B24
 rw [if_neg hc,h.check,if_neg (by simp)]
structure Made12 (on nn a b:Str) (l:List Change) (ctx:Int):Prop where
 chk:O6 ⟨on,nn,P8 l (B8 a) (B8 b) ctx⟩=0
 wr:(d5 ⟨on,nn,P8 l (B8 a) (B8 b) ctx⟩).length≤16777216
 fit:PFit ⟨on,nn,P8 l (B8 a) (B8 b) ctx⟩
 rg:∀h∈P8 l (B8 a) (B8 b) ctx,(-4611686018427387904≤h.Old∧h.Old≤4611686018427387904)∧(-4611686018427387904≤h.New∧h.New≤4611686018427387904)
 sz:szP (P8 l (B8 a) (B8 b) ctx)≤268435456
def Few (a:Str):Prop:=a.length≤1048576∧(B8 a).length≤4096
theorem D39 {a:Str} (h:a.length≤4096):Few a:=⟨by omega,Nat.le_trans (Y9 a) h⟩
theorem B83 {a:Str} (h:Few a):W0 a=(B8 a,0):=by
 obtain ⟨h1,h2⟩:=h
 unfold W0;rw [if_neg (by omega)]
theorem E91 (on nn a b:Str) (l:List Change) (ctx:Int) (hn:K4 on=true) (hn':K4 nn=true) (hc:¬(ctx < 0∨1048576 < ctx)) (ha:Few a) (hb:Few b) (hfit:ScFit (B8 a) (B8 b) l):Made12 on nn a b l ctx:=by
 obtain ⟨ha,ha2⟩:=ha
 obtain ⟨hb,hb2⟩:=hb
 obtain ⟨f1,f2⟩:=Z6 a
 obtain ⟨f3,f4⟩:=Z6 b
 obtain ⟨a1,a2⟩:=R9 a
 obtain ⟨b1,b2⟩:=R9 b
 have hc0:0≤ctx:=by omega
 have hg:=hfit.good hc0 a1 b1 a2 b2
 have hz:=hfit.size hc0 a1 b1
 have ht:=hfit.texts hc0 a1 b1
 have hxl:=hfit.lx
 have hyl:=hfit.ly
 obtain ⟨hs,hhs⟩:∃hs,hs=P8 l (B8 a) (B8 b) ctx:=⟨_,rfl⟩
 rw [←hhs] at hg hz ht
 have hon:=hn
 have hnn:=hn'
 unfold K4 at hon hnn
 have o1:=A0 hon
 have o2:=A0 hnn
 have hw:(d5 ⟨on,nn,hs⟩).length≤16777216:=by
  have h1:(d5 ⟨on,nn,hs⟩).length≤(B72 ⟨on,nn,hs⟩).flatten.length+szP hs:=by
   unfold d5 C89
   rw [K21,K05]
   have:=B27 hs
   show _+((hs).map A24).flatten.flatten.length≤_
   omega
  have h2:=B73 ⟨on,nn,hs⟩
  have h3:(B72 ⟨on,nn,hs⟩).flatten.length≤4*on.length+4*nn.length+14:=h2
  omega
 refine ⟨?_,by rw [←hhs];exact hw,⟨by dsimp only;omega,by dsimp only;omega,by rw [←hhs];dsimp only;omega⟩,fun h hm=>?_,by rw [←hhs];omega⟩
 ·rw [←hhs]
  unfold O6
  rw [if_neg (by rw [show (Patch.mk on nn hs).OldName=on from rfl,show (Patch.mk on nn hs).NewName=nn from rfl,hn,hn'];simp)]
  rw [if_neg (by rw [hg];simp),if_neg (by omega)]
 ·rw [←hhs] at hm
  obtain ⟨⟨q1,q2,q3,q4⟩,_⟩:=ht h hm
  unfold M2 at q1
  unfold O7 at q2
  omega
theorem J05 (on nn a b:Str) (l:List Change) (ctx:Int) (hn:K4 on=true) (hn':K4 nn=true) (hc:¬(ctx < 0∨1048576 < ctx)) (ha:a.length≤4096) (hb:b.length≤4096) (hfit:ScFit (B8 a) (B8 b) l):Made12 on nn a b l ctx:=E91 on nn a b l ctx hn hn' hc (D39 ha) (D39 hb) hfit
end Go.AL
namespace Go.AL
open Go
section
variable {x y:List Str} {l:List Change}
end
end Go.AL
namespace Go.AL
open Go
def A87 (x y:List Str) (i j:Int):List PatchHunk→Prop
 | []=>sub x i x.length=sub y j y.length∧0≤i∧0≤j∧i≤x.length∧j≤y.length
 | h::r=>(sub x i h.Old=sub y j h.New∧C4 h.Lines 43=sub x h.Old (h.Old+M2 h)∧C4 h.Lines 45=sub y h.New (h.New+O7 h))∧(0≤i∧0≤j∧i≤h.Old∧j≤h.New∧h.Old+M2 h≤x.length∧h.New+O7 h≤y.length)∧A87 x y (h.Old+M2 h) (h.New+O7 h) r
def aT (i:Int) (hs:List PatchHunk) (k:Nat):Int:=if k=0 then i else (hAt hs (k - 1)).Old+M2 (hAt hs (k - 1))
def bT (j:Int) (hs:List PatchHunk) (k:Nat):Int:=if k=0 then j else (hAt hs (k - 1)).New+O7 (hAt hs (k - 1))
theorem I45 (i:Int) (h:PatchHunk) (r:List PatchHunk) (k:Nat):aT i (h::r) (k+1)=aT (h.Old+M2 h) r k:=by cases k<;>rfl
theorem I46 (i:Int) (h:PatchHunk) (r:List PatchHunk) (k:Nat):bT i (h::r) (k+1)=bT (h.New+O7 h) r k:=by cases k<;>rfl
theorem F80 {x y:List Str}:∀{hs:List PatchHunk} {i j:Int},A87 x y i j hs→∀k,k < hs.length →
  (sub x (aT i hs k) (hAt hs k).Old=sub y (bT j hs k) (hAt hs k).New∧C4 (hAt hs k).Lines 43=sub x (hAt hs k).Old ((hAt hs k).Old+M2 (hAt hs k))∧C4 (hAt hs k).Lines 45=sub y (hAt hs k).New ((hAt hs k).New+O7 (hAt hs k))) ∧
   (0≤aT i hs k∧0≤bT j hs k∧aT i hs k≤(hAt hs k).Old∧bT j hs k≤(hAt hs k).New∧(hAt hs k).Old+M2 (hAt hs k)≤x.length∧(hAt hs k).New+O7 (hAt hs k)≤y.length)
 | [],_,_,_,k,hk=>by simp at hk
 | h::r,i,j,⟨h1,h2,h3⟩,0,_=>⟨h1,h2⟩
 | h::r,i,j,⟨h1,h2,h3⟩,k+1,hk=>by
  rw [I45,I46]
  exact F80 h3 k (by simpa using hk)
theorem F81 {x y:List Str}:∀{hs:List PatchHunk} {i j:Int},A87 x y i j hs→sub x (aT i hs hs.length) x.length=sub y (bT j hs hs.length) y.length∧0≤aT i hs hs.length∧0≤bT j hs hs.length∧aT i hs hs.length≤x.length∧bT j hs hs.length≤y.length
 | [],_,_,h=>h
 | h::r,i,j,⟨_,_,h3⟩=>by rw [K07,I45,I46];exact F81 h3
theorem F82 {x y:List Str} {hs:List PatchHunk} (h:A87 x y 0 0 hs):∀k,k≤hs.length→u7 hs x k=sub y 0 (bT 0 hs k)
 | 0,_=>by simp [u7,bT,sub]
 | k+1,hk=>by
  obtain ⟨⟨g1,g2,g3⟩,q1,q2,q3,q4,q5,q6⟩:=F80 h k (by omega)
  have n2:0≤O7 (hAt hs k):=by unfold O7;omega
  have ih:=F82 h k (by omega)
  have e1:j6 hs k=aT 0 hs k:=rfl
  have e2:bT 0 hs (k+1)=(hAt hs k).New+O7 (hAt hs k):=rfl
  simp only [u7]
  rw [ih,e1,g1,g3,e2,A06 y (by omega) q2 q4,A06 y (by omega) (by omega) (by omega)]
theorem I47 (x:List Str) (i:Int):sub x i x.length=x.drop i.toNat:=by
 unfold sub
 rw [K39 (by rw [K24];omega)]
theorem H27 {x y:List Str} {hs:List PatchHunk} (h:A87 x y 0 0 hs):u7 hs x hs.length++x.drop (j6 hs hs.length).toNat=y:=by
 obtain ⟨h1,h2,h3,h4,h5⟩:=F81 h
 rw [F82 h hs.length (Nat.le_refl _),show j6 hs hs.length=aT 0 hs hs.length from rfl,←I47,h1,A06 y (by omega) h3 h5,I47]
 simp
theorem E92 {x y:List Str}:∀{hs:List PatchHunk} {i j:Int},A87 x y i j hs→F38 hs x=hs.length
 | [],_,_,_=>rfl
 | h::r,i,j,⟨⟨h1,h2,h3⟩,⟨g1,g2,g3,g4,g5,g6⟩,h4⟩=>by
  have ih:=E92 h4
  have hf:A47 h x=true:=by
   unfold A47
   rw [if_neg (by omega)]
   refine decide_eq_true ?_
   have e:((C4 h.Lines 43).length:Int)=M2 h:=rfl
   conv=>rhs;rw [h2]
   unfold sub
   congr 1
   omega
  simp only [F38]
  rw [if_pos hf,ih,K07]
theorem ScFit.chain {x y:List Str} {l:List Change} (h:ScFit x y l) {ctx:Int} (hc:0≤ctx):∀(hs:List Hunk) (a:Nat),GrOk l x.length ctx a hs l.length →
  ∀(i j e:Int),i=eoI 0 l a+e→j=enI 0 l a+e→0≤e→e≤ctx→(a=0→e=0)→i≤x.length→j≤y.length→A87 x y i j (hs.map (L6 l x y))
 | [],a,hr,i,j,e,hi,hj,he,_,_,hix,hjy=>by
  have hr:a=l.length:=hr
  have hq:=G30 _ _ _ _ _ h.eq
  have hge:=E72 _ _ _ 0 0 0 h.sc
  obtain ⟨r1,r2,r3,r4⟩:=h.nn a (by omega)
  rw [←hr] at hq hge
  refine ⟨?_,by omega,by omega,hix,hjy⟩
  have:=B76 (e:=x.length - i) hq r1 r2 (by omega) (by omega) (by omega)
  rw [show (x.length:Int) - (x.length - i)=i by omega,show (y.length:Int) - (x.length - i)=j by omega] at this
  exact this
 | hk::hs,a,⟨b,hab,ho,hE,hr⟩,i,j,e,hi,hj,he,hec,he0,hix,hjy=>by
  have hb:=hr.le
  have hob:b < l.length→opens l ctx b:=by
   intro hlt
   cases hs with
   | nil=>exact absurd hr (by show ¬b=l.length;omega)
   | cons h2 hs2=>obtain ⟨_,_,ho2,_⟩:=hr;exact ho2
  obtain ⟨w1,w2,w3,w4,w5⟩:=h.after hc hb hob (by omega)
  obtain ⟨q1,q2,q3⟩:=h.before hc (show a < l.length by omega) ho
  have H:=h.hunk hc hab hb ho hob
  rw [←hE] at H
  obtain ⟨P,hP⟩:∃P,P=L6 l x y hk:=⟨_,rfl⟩
  rw [←hP] at H
  have ih:=ScFit.chain h hc hs b hr (P.Old+M2 P) (P.New+O7 P) (eB l x.length ctx b) H.oe H.ne w1 w2 (by omega) H.ox H.ny
  obtain ⟨k1,⟨k2,k2'⟩,k3,⟨k4,k4'⟩,k5,k6,k7,k8⟩:=y8 _ _ _ _ _ _ h.sc a (show a < l.length by omega)
  have h1:=H.old
  have h2:=H.new
  have h3:=H.o0
  have h4:=H.n0
  have hgap:e+eA l ctx a≤(cAt l a).Old - eoI 0 l a:=by
   by_cases h0:a=0
   ·have:=he0 h0;omega
   ·have:=C07 ho h0;omega
  obtain ⟨r1,r2,r3,r4⟩:=h.nn a (by omega)
  have hij:i≤P.Old∧j≤P.New∧P.Old - i=P.New - j∧0≤i∧0≤j:=by omega
  have hrun:=E73 _ _ _ _ _ h.eq a (show a < l.length by omega)
  have t1:=B76 (e:=(cAt l a).Old - i) hrun r1 r2 (by omega) (by omega) (by omega)
  rw [show (cAt l a).Old - ((cAt l a).Old - i)=i by omega,show (cAt l a).New - ((cAt l a).Old - i)=j by omega] at t1
  have t2:=E74 (e:=P.Old - i) t1 (by omega) (by omega) (by omega) (by omega) (by omega)
  rw [show i+(P.Old - i)=P.Old by omega,show j+(P.Old - i)=P.New by omega] at t2
  rw [K13,←hP]
  exact ⟨⟨t2,H.ol,H.nl⟩,⟨by omega,by omega,hij.1,hij.2.1,H.ox,H.ny⟩,ih⟩
theorem ScFit.chain0 {x y:List Str} {l:List Change} (h:ScFit x y l) {ctx:Int} (hc:0≤ctx):A87 x y 0 0 (P8 l x y ctx) :=
 h.chain hc _ 0 (A51 l x.length ctx l.length) 0 0 0 rfl rfl (Int.le_refl _) hc (fun _=>rfl) (by omega) (by omega)
theorem v8:∀(y:List Str),(∀s∈y,H7 s=true)→P6 y=true→X2 y=true
 | [],_,_=>rfl
 | s::r,h,he=>by
  simp only [P6,K08] at he
  simp only [X2,K08]
  exact ⟨⟨h s (List.mem_cons_self ..),he.1⟩,v8 r (fun t ht=>h t (List.mem_cons_of_mem _ ht)) he.2⟩
theorem E93 {p:Patch} {a b:Str} (hc:O6 p=0) (ha:Few a) (hb:Few b) (h:A87 (B8 a) (B8 b) 0 0 p.Hunks):A71 p a=(b,0):=by
 have hf:C48 p a=((p.Hunks.length:Int),0):=by
  unfold C48
  rw [hc,if_neg (by simp),B83 ha,if_neg (by simp),E92 h]
 obtain ⟨b1,b2⟩:=R9 b
 obtain ⟨f1,f2⟩:=Z6 b
 have hfl:(B8 b).flatten=b:=by have:=A52 b [];simpa [B8] using this
 have hok:=v8 (B8 b) b1 b2
 unfold A71
 rw [hf,if_neg (by simp),if_neg (by simp)]
 unfold E04
 rw [H27 h]
 dsimp only
 rw [hok,if_neg (by decide)]
 unfold K3
 have hb1:=hb.1
 have hb2:=hb.2
 rw [hok,if_neg (by decide),if_neg (by omega),hfl]
theorem F43 {p:Patch} {a b:Str} (hc:O6 p=0) (ha:a.length≤4096) (hb:b.length≤4096) (h:A87 (B8 a) (B8 b) 0 0 p.Hunks):A71 p a=(b,0):=E93 hc (D39 ha) (D39 hb) h
end Go.AL
namespace Go.AL
open Go
end Go.AL
namespace Go.AL
open Go
theorem check12_good {p:Patch} (h:O6 p=0):u6 p.Hunks=true:=by
 unfold O6 at h
 split at h
 ·cases h
 ·split at h
  ·cases h
  ·rename_i h1;simpa using h1
end Go.AL
namespace Go.AL
open Go
structure CHunk where
 At:List Int
 Rows:List Row
 deriving DecidableEq
structure Comb where
 Path:Str
 Dense:Bool
 Parents:Int
 Hunks:List CHunk
 deriving DecidableEq
def W1:CHunk→Nat→Cell:=fun h j=>match j with
 | 0=>.list Int 1 G7 h.At
 | _=>.list Row 3 rowC h.Rows
abbrev G35 (h:CHunk):PV:=.agg [.list Int 1 G7 h.At,.list Row 3 rowC h.Rows]
abbrev A19 (c:Comb):PV:=.agg [.v (.string ⟨c.Path.toArray⟩),.v (.bool c.Dense),.v (.int .i64 c.Parents),.list CHunk 2 W1 c.Hunks]
def comb0:Comb:=⟨[],false,0,[]⟩
def A26 (n k:Nat):Int:=if k=n then -1 else k
def N4 (rows:List Row) (n k:Nat):Int:=(G8 rows (A26 n k)).length
def F6 (rows:List Row) (n:Nat):List Int:=(List.range (n+1)).map (N4 rows n)
def atS (n:Nat):Str:=List.replicate n 64
def sgnB (n k:Nat):UInt8:=if k=n then 43 else 45
def E94 (n:Nat) (h:CHunk) (k:Nat):Str:=[32,sgnB n k]++V9 (h.At.getD k 0) (N4 h.Rows n k)
def n7 (n:Nat) (h:CHunk) (k:Nat):Str:=((List.range k).map (E94 n h)).flatten
def C29 (n:Nat) (h:CHunk):Str:=atS (n+1)++n7 n h (n+1)++[32]++atS (n+1)
def markB (r:Row) (p:Nat):UInt8:=if i8 r.Marks p=false then 32 else if r.Lost then 45 else 43
def E95 (n:Nat) (r:Row):Str:=(List.range n).map (markB r)
def B84 (n:Nat) (r:Row):List Str:=if ended r.Text=true then [E95 n r++r.Text] else [E95 n r++r.Text,markS]
def w7 (n:Nat) (h:CHunk):List Str:=(C29 n h++[10])::(h.Rows.map (B84 n)).flatten
def ccS:Str:=[100,105,102,102,32,45,45,99,99,32]
def combS:Str:=[100,105,102,102,32,45,45,99,111,109,98,105,110,101,100,32]
def parS:Str:=[112,97,114,101,110,116,115,32]
def H28 (d:Bool):Str:=if d=true then ccS else combS
def combPs (c:Comb):List Str:=(H28 c.Dense++c8 c.Path++[10])::(parS++B44 c.Parents++[10])::(c.Hunks.map (w7 c.Parents.toNat)).flatten
def C51 (c:Comb):Str:=(combPs c).flatten
def C52 (n:Nat) (ends:List Int) (h:CHunk):Bool:=decide (h.At.length=n+1∧h.Rows≠[])&&(List.range (n+1)).all fun k=>decide ((ends.getD k 0≤h.At.getD k 0∧h.At.getD k 0≤4096)∧h.At.getD k 0+N4 h.Rows n k≤4096)
def V0 (n:Nat) (h:CHunk):List Int:=(List.range (n+1)).map fun k=>h.At.getD k 0+N4 h.Rows n k
def W6 (n:Nat) (ends:List Int):List CHunk→Bool
 | []=>true
 | h::r=>C52 n ends h&&W6 n (V0 n h) r
def Y1 (hs:List CHunk):List Row:=(hs.map (·.Rows)).flatten
def j9 (n:Nat) (hs:List CHunk):Bool:=W6 n (List.replicate (n+1) 0) hs&&l9 (Y1 hs) n
def w8 (n:Nat) (hs:List CHunk):Bool:=hs.all fun h=>Q5 h.Rows n
def J4 (c:Comb):Int:=if K4 c.Path=false then 120 else if c.Parents < 1∨32 < c.Parents then 2 else if w8 c.Parents.toNat c.Hunks=false then 180 else if j9 c.Parents.toNat c.Hunks=false then 121 else if 16777216 < (C51 c).length then 1 else 0
theorem D04 {n:Nat} {r:Row} (h:V8 n r=true):0≤r.Marks∧r.Marks < 2 ^ n∧(r.Lost=true→r.Marks≠0):=by
 unfold V8 at h
 simp only [K08,beq_iff_eq,Bool.not_eq_true',Bool.and_eq_false_iff,beq_eq_false_iff_ne] at h
 obtain ⟨h1,h2⟩:=h
 have hp:(0:Int) < 2 ^ n:=Int.pow_pos (by decide)
 have h3:=Int.emod_add_mul_ediv r.Marks (2 ^ n)
 have h4:=Int.emod_nonneg r.Marks (Int.ne_of_gt hp)
 have h5:=Int.emod_lt_of_pos r.Marks hp
 rw [h1,Int.mul_zero,Int.add_zero] at h3
 rw [h3] at h4 h5
 refine ⟨h4,h5,fun hl=>?_⟩
 rcases h2 with h2 | h2
 ·rw [hl] at h2;cases h2
 ·exact h2
theorem pow32 {n:Nat} (h:n≤32):(2:Int) ^ n≤4294967296:=by
 have h1:(2:Nat) ^ n≤2 ^ 32:=Nat.pow_le_pow_right (by omega) h
 have h2:((2 ^ n:Nat):Int)=2 ^ n:=by simp
 have h3:(2:Nat) ^ 32=4294967296:=rfl
 omega
theorem J56 {n:Nat} (hn:n≤32) {rows:List Row} (h:Q5 rows n=true):K1 rows:=by
 intro r hr
 have h1:=D04 (List.all_eq_true.1 h r hr)
 have:=pow32 hn
 omega
def Z7 (n:Nat) (ends:List Int) (h:CHunk):Bool:=decide (h.At.length=n+1∧h.Rows≠[])&&(List.range (n+1)).all fun k=>decide (ends.getD k 0≤h.At.getD k 0∧h.At.getD k 0≤4096)
def w9 (res:Bool) (rows:List Row):Bool:=rows.foldl B70 res
def x1 (par:Int) (rows:List Row):Int:=rows.foldl B71 par
def x2 (n:Nat) (ends:List Int) (res:Bool) (par:Int):List CHunk→Bool
 | []=>decide (∀e∈ends,e≤4096)
 | h::r=>Z7 n ends h&&(Q6 res par h.Rows&&x2 n (V0 n h) (w9 res h.Rows) (x1 par h.Rows) r)
theorem E96:∀(a b:List Row) (res:Bool) (par:Int),Q6 res par (a++b)=(Q6 res par a&&Q6 (w9 res a) (x1 par a) b)
 | [],b,res,par=>by simp [Q6,w9,x1]
 | x::a,b,res,par=>by
  rw [K40,Q6,Q6,E96 a b]
  simp only [w9,x1,K35,Bool.and_assoc]
theorem A54 (f:Nat→Int) (n k:Nat) (h:k < n):((List.range n).map f).getD k 0=f k:=by
 rw [K09,K31,K44 h];rfl
theorem E97 {n:Nat} {ends:List Int} (hl:ends.length=n+1):(∀e∈ends,e≤4096)↔∀k,k < n+1→ends.getD k 0≤4096:=by
 constructor
 ·intro h k hk
  rw [K09,K06 (by omega)]
  exact h _ (K17 _)
 ·intro h e he
  obtain ⟨k,hk,rfl⟩:=List.getElem_of_mem he
  have:=h k (by omega)
  rwa [K09,K06 hk] at this
theorem C53 (n:Nat) (h:CHunk):(V0 n h).length=n+1:=by unfold V0;simp
theorem D80 (n:Nat):∀(hs:List CHunk) (ends:List Int) (res:Bool) (par:Int),ends.length=n+1 →
  x2 n ends res par hs=(decide (∀e∈ends,e≤4096)&&W6 n ends hs&&Q6 res par (Y1 hs))
 | [],ends,res,par,_=>by simp [x2,W6,Y1,Q6]
 | h::r,ends,res,par,hl=>by
  have ih:=D80 n r (V0 n h) (w9 res h.Rows) (x1 par h.Rows) (C53 n h)
  have e1:Y1 (h::r)=h.Rows++Y1 r:=by simp [Y1]
  rw [x2,ih,W6,e1,E96]
  have e2:(Z7 n ends h&&decide (∀e∈V0 n h,e≤4096))=(decide (∀e∈ends,e≤4096)&&C52 n ends h):=by
   rw [Bool.eq_iff_iff]
   unfold Z7 C52
   simp only [K08,decide_eq_true_eq,List.all_eq_true,List.mem_range]
   rw [E97 hl,E97 (C53 n h)]
   have e3:∀k,k < n+1→(V0 n h).getD k 0=h.At.getD k 0+N4 h.Rows n k:=fun k hk=>A54 _ _ _ hk
   constructor
   ·rintro ⟨⟨h1,h2⟩,h3⟩
    exact ⟨fun k hk=>by have:=h2 k hk;omega,h1,fun k hk=>⟨h2 k hk,by have:=h3 k hk;rwa [e3 k hk] at this⟩⟩
   ·rintro ⟨_,h2,h3⟩
    exact ⟨⟨h2,fun k hk=>(h3 k hk).1⟩,fun k hk=>by rw [e3 k hk];exact (h3 k hk).2⟩
  generalize Z7 n ends h=A at e2 ⊢
  generalize decide (∀e∈V0 n h,e≤4096)=B at e2 ⊢
  generalize decide (∀e∈ends,e≤4096)=C at e2 ⊢
  generalize C52 n ends h=D at e2 ⊢
  generalize Q6 res par h.Rows=E
  generalize W6 n (V0 n h) r=F
  generalize Q6 (w9 res h.Rows) (x1 par h.Rows) (Y1 r)=G
  cases A<;>cases B<;>cases C<;>cases D<;>first | (cases e2;done) | (cases E<;>cases F<;>cases G<;>rfl)
theorem F83 {n:Nat} {hs:List CHunk} (h:w8 n hs=true):Q5 (Y1 hs) n=true:=by
 unfold Q5 Y1
 rw [List.all_eq_true]
 intro r hr
 obtain ⟨l,h1,h2⟩:=List.mem_flatten.1 hr
 obtain ⟨x,hx,rfl⟩:=List.mem_map.1 h1
 exact List.all_eq_true.1 (List.all_eq_true.1 h x hx) r h2
theorem H29 {n:Nat} (hn:n≤32) {hs:List CHunk} (h:w8 n hs=true):x2 n (List.replicate (n+1) 0) false 0 hs=j9 n hs:=by
 rw [D80 n hs _ _ _ (List.length_replicate ..),E63 _ n hn (F83 h) (J56 hn (F83 h))]
 have:∀L:List Int,(∀e∈L,e≤4096)→decide (∀e∈L,e≤4096)=true:=fun L h=>decide_eq_true h
 rw [this _ (fun e he=>by have:=(List.mem_replicate.1 he).2;omega)];rfl
theorem D40 {n:Nat}:∀(hs:List CHunk) (ends:List Int),(∀k,k < n+1→0≤ends.getD k 0)→W6 n ends hs=true→∀h∈hs,h.At.length=n+1∧h.Rows≠[]∧∀k,k < n+1→0≤h.At.getD k 0∧h.At.getD k 0+N4 h.Rows n k≤4096
 | [],_,_,_,h,hm=>by cases hm
 | x::r,ends,he,hg,h,hm=>by
  rw [W6,K08] at hg
  obtain ⟨h1,h2⟩:=hg
  unfold C52 at h1
  simp only [K08,decide_eq_true_eq,List.all_eq_true,List.mem_range] at h1
  obtain ⟨⟨h3,h4⟩,h5⟩:=h1
  have hx:∀k,k < n+1→0≤x.At.getD k 0∧x.At.getD k 0+N4 x.Rows n k≤4096:=fun k hk=>by have:=h5 k hk;have:=he k hk;omega
  rcases List.mem_cons.1 hm with rfl | hm
  ·exact ⟨h3,h4,hx⟩
  ·refine D40 r _ (fun k hk=>?_) h2 h hm
   rw [show (V0 n x).getD k 0=x.At.getD k 0+N4 x.Rows n k from A54 _ _ _ hk]
   have:=hx k hk
   have:0≤N4 x.Rows n k:=by unfold N4;omega
   omega
structure CRead (n:Nat) (h:CHunk):Prop where
 len:h.At.length=n+1
 ne:h.Rows≠[]
 at0:∀k,k < n+1→0≤h.At.getD k 0∧h.At.getD k 0+N4 h.Rows n k≤4096
 rows:∀r∈h.Rows,V8 n r=true∧H7 r.Text=true
theorem D41 (n:Nat) (r:Row):(E95 n r).length=n:=by simp [E95]
theorem G36 (n:Nat):(atS n).length=n:=by simp [atS]
end Go.AL
namespace Go.AL
open Go
end Go.AL
namespace Go.AL
open Go
def Y2 (r:Row):Nat:=r.Text.length+96
def D90 (h:CHunk):Nat:=2048+h.At.length+(h.Rows.map Y2).sum
def szC (hs:List CHunk):Nat:=(hs.map D90).sum
theorem A00 (rows:List Row):rows.length*96≤(rows.map Y2).sum:=by
 induction rows with
 | nil=>simp
 | cons x r ih=>simp only [K13,K34,K07,Y2] at ih ⊢;omega
theorem C54 (rows:List Row):P4 rows≤(rows.map Y2).sum:=by
 unfold P4
 induction rows with
 | nil=>simp
 | cons x r ih=>simp only [K13,K18,K05,K34,Y2] at ih ⊢;omega
theorem J06 {rows:List Row} {r:Row} (h:r∈rows):Y2 r≤(rows.map Y2).sum:=by
 induction rows with
 | nil=>cases h
 | cons x l ih =>
  simp only [K13,K34]
  rcases List.mem_cons.1 h with rfl | h
  ·omega
  ·have:=ih h;omega
theorem G37 {hs:List CHunk} {h:CHunk} (hm:h∈hs):D90 h≤szC hs:=by
 unfold szC
 induction hs with
 | nil=>cases hm
 | cons x l ih =>
  simp only [K13,K34]
  rcases List.mem_cons.1 hm with rfl | hm
  ·omega
  ·have:=ih hm;omega
theorem G38 (hs:List CHunk):hs.length*2048≤szC hs:=by
 unfold szC
 induction hs with
 | nil=>simp
 | cons x l ih =>
  have h2:2048≤D90 x:=by unfold D90;exact Nat.le_trans (Nat.le_add_right _ _) (Nat.le_add_right _ _)
  rw [K13,K34,K07,K26,Nat.one_mul,Nat.add_comm]
  exact Nat.add_le_add h2 ih
theorem H99 (rows:List Row) (k:Nat):((rows.take k).map Y2).sum≤(rows.map Y2).sum:=by
 conv=>rhs;rw [←K38 k rows,K19,K48]
 omega
theorem J57 (hs:List CHunk) (k:Nat):szC (hs.take k)≤szC hs:=by
 unfold szC
 conv=>rhs;rw [←K38 k hs,K19,K48]
 omega
theorem getI {l:List Int} {i:Nat} (h:i < l.length):l[i]?=some (l.getD i 0):=by simp [h]
theorem E98 (rows:List Row) (n k:Nat):0≤N4 rows n k∧N4 rows n k≤rows.length:=by
 have:=C05 rows (A26 n k)
 unfold N4;omega
theorem J58 (rows:List Row) (n k i:Nat) (h:i < rows.length):N4 (rows.take (i+1)) n k=N4 (rows.take i) n k+if j4 rows[i] (A26 n k)=true then 1 else 0:=by
 unfold N4 G8
 rw [K14 h,K50,K19,K05]
 by_cases hv:j4 rows[i] (A26 n k)=true<;>simp [hv]
def x6 (rows:List Row) (n i p:Nat):List Int:=(List.range (n+1)).map fun k=>N4 (rows.take (if k < p then i+1 else i)) n k
theorem J07 (rows:List Row) (n i p:Nat):(x6 rows n i p).length=n+1:=by unfold x6;simp
theorem I00 (rows:List Row) (n:Nat):x6 rows n 0 0=List.replicate (n+1) 0:=by
 unfold x6
 refine List.ext_getElem (by simp) fun k h1 h2=>?_
 simp [N4,G8]
theorem J08 (rows:List Row) (n i p:Nat) (hp:p≤n):(x6 rows n i p)[p]?=some (N4 (rows.take i) n p):=by
 unfold x6
 rw [K31,K44 (by omega)];simp
theorem E99 (f:Nat→Int) (n p:Nat) (v:Int):((List.range n).map f).set p v=(List.range n).map (fun k=>if k=p then v else f k):=by
 refine List.ext_getElem (by simp) fun k h1 h2=>?_
 rw [List.getElem_set,List.getElem_map,List.getElem_map,List.getElem_range]
 by_cases e:p=k
 ·rw [if_pos e,if_pos e.symm]
 ·rw [if_neg e,if_neg (fun h=>e h.symm)]
theorem I01 (rows:List Row) (n i p:Nat) (hi:i < rows.length) (hp:p≤n):x6 rows n i (p+1)=if j4 rows[i] (A26 n p)=true then (x6 rows n i p).set p (N4 (rows.take i) n p+1) else x6 rows n i p:=by
 have hs:=J58 rows n p i hi
 by_cases hv:j4 rows[i] (A26 n p)=true
 ·rw [if_pos hv] at hs ⊢
  unfold x6
  rw [E99]
  refine List.map_congr_left fun k hk=>?_
  by_cases e:k=p
  ·subst e;rw [if_pos rfl,if_pos (by omega),hs]
  ·rw [if_neg e]
   by_cases h3:k < p
   ·rw [if_pos (by omega),if_pos h3]
   ·rw [if_neg (by omega),if_neg h3]
 ·rw [if_neg hv] at hs ⊢
  unfold x6
  refine List.map_congr_left fun k hk=>?_
  by_cases e:k=p
  ·subst e;rw [if_pos (by omega),if_neg (by omega),hs];omega
  ·by_cases h3:k < p
   ·rw [if_pos (by omega),if_pos h3]
   ·rw [if_neg (by omega),if_neg h3]
theorem I02 (rows:List Row) (n i:Nat):x6 rows n i (n+1)=x6 rows n (i+1) 0:=by
 unfold x6
 refine List.map_congr_left fun k hk=>?_
 rw [if_pos (List.mem_range.1 hk),if_neg (by omega)]
theorem I03 (rows:List Row) (n:Nat):x6 rows n rows.length 0=F6 rows n:=by
 unfold x6 F6
 refine List.map_congr_left fun k hk=>?_
 rw [if_neg (by omega),K28]
theorem F00 (rows:List Row) (n:Nat):(F6 rows n).length=n+1:=by unfold F6;simp
theorem I04 (rows:List Row) (n k:Nat) (h:k < n+1):(F6 rows n)[k]?=some (N4 rows n k):=by
 unfold F6
 rw [K31,K44 h];rfl
def A27 (n:Nat) (h:CHunk) (k:Nat):List Int:=(List.range (n+1)).map fun j=>if j < k then h.At.getD j 0+N4 h.Rows n j else N4 h.Rows n j
theorem I05 (n:Nat) (h:CHunk) (k:Nat):(A27 n h k).length=n+1:=by unfold A27;simp
theorem H30 (n:Nat) (h:CHunk):A27 n h 0=F6 h.Rows n:=by
 unfold A27 F6
 refine List.map_congr_left fun k hk=>?_
 rw [if_neg (by omega)]
theorem I06 (n:Nat) (h:CHunk) (k:Nat) (hk:k < n+1):(A27 n h k)[k]?=some (N4 h.Rows n k):=by
 unfold A27
 rw [K31,K44 hk];simp
theorem I07 (n:Nat) (h:CHunk) (k:Nat):(A27 n h k).set k (N4 h.Rows n k+h.At.getD k 0)=A27 n h (k+1):=by
 unfold A27
 rw [E99]
 refine List.map_congr_left fun j hj=>?_
 by_cases e:j=k
 ·subst e;rw [if_pos rfl,if_pos (by omega)];omega
 ·rw [if_neg e]
  by_cases h3:j < k
  ·rw [if_pos h3,if_pos (by omega)]
  ·rw [if_neg h3,if_neg (by omega)]
theorem H31 (n:Nat) (h:CHunk):A27 n h (n+1)=V0 n h:=by
 unfold A27 V0
 refine List.map_congr_left fun k hk=>?_
 rw [if_pos (List.mem_range.1 hk)]
theorem D81 (n:Nat) (ends:List Int) (h:CHunk):Z7 n ends h=true↔(h.At.length=n+1∧h.Rows≠[])∧∀k,k < n+1→ends.getD k 0≤h.At.getD k 0∧h.At.getD k 0≤4096:=by
 unfold Z7
 simp only [K08,decide_eq_true_eq,List.all_eq_true,List.mem_range]
theorem J09 (n:Nat) (h:CHunk) (k:Nat):(E94 n h k).length≤26:=by
 have:=Z3 (h.At.getD k 0) (N4 h.Rows n k)
 unfold E94;simp only [K05,K07,K10];omega
theorem B85 (n:Nat) (h:CHunk) (k:Nat):n7 n h (k+1)=n7 n h k++E94 n h k:=by
 unfold n7
 rw [K47,K19,K21];simp
theorem B36 (n:Nat) (h:CHunk):∀k,(n7 n h k).length≤26*k
 | 0=>by simp [n7]
 | k+1=>by
  have:=B36 n h k
  have:=J09 n h k
  rw [B85,K05];omega
theorem F84 {n:Nat} (hn:n≤32) (h:CHunk):(C29 n h).length≤925:=by
 have:=B36 n h (n+1)
 unfold C29
 simp only [K05,G36,K07,K10];omega
theorem J10 {n:Nat} (hn:n≤32) (r:Row):(B84 n r).flatten.length≤Y2 r:=by
 have hm:markS.length=29:=rfl
 unfold B84 Y2
 split<;>simp only [K18,K43,K05,D41,K10]<;>omega
theorem F01 {n:Nat} (hn:n≤32) (rs:List Row):((rs.map (B84 n)).flatten).flatten.length≤(rs.map Y2).sum:=by
 induction rs with
 | nil=>simp
 | cons x r ih =>
  have:=J10 hn x
  simp only [K13,K18,K21,K05,K34];omega
theorem H32 {n:Nat} (hn:n≤32) (h:CHunk):(w7 n h).flatten.length≤D90 h:=by
 have h1:=F84 hn h
 have h2:=F01 hn h.Rows
 unfold w7 D90
 simp only [K18,K05,K07,K10];omega
theorem G39 {n:Nat} (hn:n≤32) (hs:List CHunk):((hs.map (w7 n)).flatten).flatten.length≤szC hs:=by
 unfold szC
 induction hs with
 | nil=>simp
 | cons x r ih =>
  have:=H32 hn x
  simp only [K13,K18,K21,K05,K34];omega
def B86 (c:Comb):Str:=H28 c.Dense++c8 c.Path++[10]++(parS++B44 c.Parents++[10])
def cTo (c:Comb) (k:Nat):Str:=B86 c++(((c.Hunks.take k).map (w7 c.Parents.toNat)).flatten).flatten
theorem J59 (c:Comb):cTo c 0=B86 c:=by simp [cTo]
theorem J60 (c:Comb) (k:Nat) (h:k < c.Hunks.length):cTo c (k+1)=cTo c k++(w7 c.Parents.toNat c.Hunks[k]).flatten:=by
 unfold cTo
 rw [K14 h];simp only [K19,K13,K46,K21,K18,K43,K27,K23]
theorem H33 (c:Comb):cTo c c.Hunks.length=C51 c:=by
 unfold cTo B86 C51 combPs
 rw [K28];simp
def rTo (n:Nat) (rs:List Row) (k:Nat):Str:=(((rs.take k).map (B84 n)).flatten).flatten
theorem J61 (n:Nat) (rs:List Row):rTo n rs 0=[]:=by simp [rTo]
theorem J62 (n:Nat) (rs:List Row) (k:Nat) (h:k < rs.length):rTo n rs (k+1)=rTo n rs k++(B84 n rs[k]).flatten:=by
 unfold rTo
 rw [K14 h];simp only [K19,K13,K46,K21,K18,K43,K27,K23]
theorem rTo_len {n:Nat} (hn:n≤32) (rs:List Row) (k:Nat):(rTo n rs k).length≤(rs.map Y2).sum:=by
 have:=F01 hn (rs.take k)
 have:=H99 rs k
 unfold rTo;omega
theorem J11 (n:Nat) (h:CHunk):(w7 n h).flatten=C29 n h++[10]++rTo n h.Rows h.Rows.length:=by
 unfold w7 rTo
 rw [K28];simp
theorem F02 (p:Str):(c8 p).length≤4*p.length+2:=A14 p
theorem I48 (n:Int):(B44 n).length≤10:=y5 n
theorem F03 (c:Comb):(B86 c).length≤4*c.Path.length+48:=by
 have h1:=F02 c.Path
 have h2:=I48 c.Parents
 have h3:(H28 c.Dense).length≤16:=by cases c.Dense<;>decide
 have h4:parS.length=8:=rfl
 unfold B86
 simp only [K05,K07,K10];omega
theorem cTo_len (c:Comb) (hn:c.Parents.toNat≤32) (k:Nat):(cTo c k).length≤4*c.Path.length+48+szC c.Hunks:=by
 have h1:=F03 c
 have h2:=G39 hn (c.Hunks.take k)
 have h3:=J57 c.Hunks k
 unfold cTo
 rw [K05];omega
theorem I08 (n:Nat) (r:Row):(B84 n r).flatten=E95 n r++r.Text++(if ended r.Text=true then [] else markS):=by
 unfold B84
 split<;>simp
end Go.AL
namespace Go.AL
open Go
end Go.AL
namespace Go.AL
open Go
def A20 (n:Nat) (rows:List Row):Int→List CHunk→List Span→Option (List CHunk)
 | _,hs,[]=>some hs
 | e,hs,s::r=>if s.From < e∨s.To≤s.From∨(rows.length:Int) < s.To then none else A20 n rows s.To (hs++[⟨F6 (rows.take s.From.toNat) n,(rows.drop s.From.toNat).take (s.To.toNat - s.From.toNat)⟩]) r
def A30 (path:Str) (t:Table) (sp:List Span) (d:Bool):Comb × Int :=
 if K4 path=false then (comb0,120) else if L5 t≠0 then (comb0,L5 t) else match A20 t.Parents.toNat t.Rows 0 [] sp with
  | none=>(comb0,3)
  | some hs=>if J4 ⟨path,d,t.Parents,hs⟩≠0 then (comb0,J4 ⟨path,d,t.Parents,hs⟩) else (⟨path,d,t.Parents,hs⟩,0)
theorem G40 (f:Row→Nat) (c n:Nat) (rows:List Row):∀(sp:List Span) (e:Int) (hs hs':List CHunk),0≤e→A20 n rows e hs sp=some hs'→(hs.map fun h=>c+(h.Rows.map f).sum).sum≤c*hs.length+((rows.take e.toNat).map f).sum→hs.length≤e.toNat →
  (hs'.map fun h=>c+(h.Rows.map f).sum).sum≤c*hs'.length+(rows.map f).sum∧hs'.length≤max rows.length hs.length
 | [],e,hs,hs',he,h,hw,hl=>by
  cases h
  refine ⟨?_,by omega⟩
  have:((rows.take e.toNat).map f).sum≤(rows.map f).sum:=by
   conv=>rhs;rw [←K38 e.toNat rows,K19,K48]
   omega
  omega
 | s :: r,e,hs,hs',he,h,hw,hl=>by
  rw [A20] at h
  split at h
  ·cases h
  ·rename_i hc
   simp only [not_or,Int.not_lt,Int.not_le] at hc
   obtain ⟨c1,c2,c3⟩:=hc
   have ih:=G40 f c n rows r s.To _ hs' (by omega) h
   have hsum:((rows.take e.toNat).map f).sum+(((rows.drop s.From.toNat).take (s.To.toNat - s.From.toNat)).map f).sum≤((rows.take s.To.toNat).map f).sum:=by
    have e1:rows.take s.To.toNat=rows.take s.From.toNat++(rows.drop s.From.toNat).take (s.To.toNat - s.From.toNat):=by
     have:=List.take_add (l:=rows) (i:=s.From.toNat) (j:=s.To.toNat - s.From.toNat)
     rw [show s.From.toNat+(s.To.toNat - s.From.toNat)=s.To.toNat by omega] at this
     exact this
    have e2:rows.take s.From.toNat=rows.take e.toNat++(rows.drop e.toNat).take (s.From.toNat - e.toNat):=by
     have:=List.take_add (l:=rows) (i:=e.toNat) (j:=s.From.toNat - e.toNat)
     rw [show e.toNat+(s.From.toNat - e.toNat)=s.From.toNat by omega] at this
     exact this
    rw [e1,K19,K48]
    conv=>rhs;rw [e2,K19,K48]
    omega
   have hih:=ih (by
    rw [K19,K48,K05]
    simp only [K13,K46,K34,List.sum_nil,K07,K10,Nat.mul_add,Nat.mul_one,Nat.mul_zero]
    omega) (by rw [K05];simp;omega)
   refine ⟨hih.1,?_⟩
   have:=hih.2
   rw [K05] at this
   simp only [K07,K10] at this
   have h3:hs.length+1≤rows.length:=by omega
   omega
def CInvA (n:Nat) (hs:List CHunk):Prop:=∀h∈hs,h.At.length=n+1∧K1 h.Rows
theorem F04 {n:Nat} {rows:List Row} (hr:K1 rows):∀(sp:List Span) (e:Int) (hs hs':List CHunk),A20 n rows e hs sp=some hs'→CInvA n hs→CInvA n hs'
 | [],e,hs,hs',h,hi=>by cases h;exact hi
 | s::r,e,hs,hs',h,hi=>by
  rw [A20] at h
  split at h
  ·cases h
  ·refine F04 hr r _ _ hs' h ?_
   intro x hx
   rcases List.mem_append.1 hx with hx | hx
   ·exact hi x hx
   ·simp only [K53,List.not_mem_nil,or_false] at hx
    rw [hx]
    exact ⟨F00 _ _,fun y hy=>hr y (List.mem_of_mem_drop (List.mem_of_mem_take hy))⟩
def D42 (n:Nat) (r:Row):Nat:=r.Text.length+n+29
theorem headC_w (n:Nat) (h:CHunk):(C29 n h).length≤28*(n+1)+1:=by
 have:=B36 n h (n+1)
 unfold C29
 simp only [K05,G36,K07,K10];omega
theorem J63 (n:Nat) (rs:List Row):((rs.map (B84 n)).flatten).flatten.length≤(rs.map (D42 n)).sum:=by
 have hm:markS.length=29:=rfl
 induction rs with
 | nil=>simp
 | cons x r ih =>
  have:(B84 n x).flatten.length≤D42 n x:=by
   unfold B84 D42
   split<;>simp only [K18,K43,K05,D41,K10]<;>omega
  simp only [K13,K18,K21,K05,K34];omega
theorem I09 (n:Nat) (hs:List CHunk):((hs.map (w7 n)).flatten).flatten.length≤(hs.map fun h=>(28*(n+1)+2)+(h.Rows.map (D42 n)).sum).sum:=by
 induction hs with
 | nil=>simp
 | cons x r ih =>
  have h1:=headC_w n x
  have h2:=J63 n x.Rows
  have h3:(w7 n x).flatten.length≤(28*(n+1)+2)+(x.Rows.map (D42 n)).sum:=by
   unfold w7
   simp only [K18,K05,K07,K10];omega
  rw [K13,K18,K21,K05,K13,K34]
  exact Nat.add_le_add h3 ih
theorem J64 (c:Comb):(C51 c).length≤4*c.Path.length+48+(c.Hunks.map fun h=>(28*(c.Parents.toNat+1)+2)+(h.Rows.map (D42 c.Parents.toNat)).sum).sum:=by
 have h1:=F03 c
 have h2:=I09 c.Parents.toNat c.Hunks
 rw [←H33]
 unfold cTo
 rw [K28,K05];omega
theorem B37:∀(s cur:Str),(F7 cur s).length≤s.count 10+1
 | [],cur=>by unfold F7;split<;>simp
 | c::r,cur=>by
  rw [U3]
  split
  ·rename_i h
   have:=B37 r []
   rw [K07,List.count_cons,h];simp;omega
  ·have:=B37 r (cur++[c])
   rw [List.count_cons];omega
theorem D82 (s:Str):(B8 s).length≤s.count 10+1:=B37 s []
theorem G41 (result:Str) (parents:List Str) (L B:Nat) (h0:(B8 result).length≤L∧result.length≤B) (h1:∀b∈parents,(B8 b).length≤L∧b.length≤B) :
  K1 (G1 result parents).1.Rows∧(G1 result parents).1.Rows.length≤(L+1)*(parents.length*L+1)∧∀r∈(G1 result parents).1.Rows,r.Text.length≤B:=by
 have hnil:K1 []∧([]:List Row).length≤(L+1)*(parents.length*L+1)∧∀r∈([]:List Row),r.Text.length≤B:=⟨fun r hr=>(by cases hr),(by simp),fun r hr=>(by cases hr)⟩
 by_cases hn:parents.length < 1∨32 < parents.length
 ·rw [G1,if_pos hn];exact hnil
 obtain ⟨fs,hfs⟩:∃fs,fs=B8 result::parents.map B8:=⟨_,rfl⟩
 obtain ⟨names,hnames⟩:∃names,names=E0 fs:=⟨_,rfl⟩
 obtain ⟨s,hs⟩:∃s,s=X3 (fs.map (F5 names)) (B8 result).length parents.length parents.length:=⟨_,rfl⟩
 have hm:G1 result parents=if ∃k,k < (B8 result).length+1∧(H4 (s.2 k)).2≠0 then (⟨0,[]⟩,1) else (⟨parents.length,X4 names (B8 result) s ((B8 result).length+1)⟩,0):=by
  rw [G1,if_neg hn,hs,hnames,hfs]
 rw [hm]
 split
 ·exact hnil
 have hfB:∀f∈fs,f.length≤L∧∀t∈f,t.length≤B:=by
  intro f hf
  rw [hfs] at hf
  rcases List.mem_cons.1 hf with rfl | hf
  ·exact ⟨h0.1,fun t ht=>by have:=H18 _ _ ht;omega⟩
  ·obtain ⟨b,hb,rfl⟩:=List.mem_map.1 hf
   have:=h1 b hb
   exact ⟨this.1,fun t ht=>by have:=H18 _ _ ht;omega⟩
 have hnB:∀t∈names,t.length≤B:=by
  intro t ht
  rw [hnames] at ht
  obtain ⟨f,hf,h2⟩:=List.mem_flatten.1 (D69 fs t ht)
  exact (hfB f hf).2 t h2
 have hid:∀x∈fs.map (F5 names),x.length≤L∧∀v∈x,(fun _:Int=>True) v:=by
  intro x hx
  obtain ⟨f,hf,rfl⟩:=List.mem_map.1 hx
  exact ⟨by rw [F5,K29];exact (hfB f hf).1,fun _ _=>trivial⟩
 have hok:LoomOk (fun _=>True) L (B8 result).length parents.length s:=by rw [hs];exact A98 hid _
 have hL:(B8 result).length≤L:=h0.1
 have hcs:∀k,(H4 (s.2 k)).1.length≤parents.length*L∧∀m∈(H4 (s.2 k)).1,0≤m.Parents∧m.Parents < 4294967296:=fun k=>by
  have h2:=hok.gaps k
  have h3:=A83 (fun _=>True) L (s.2 k) h2.2
  rw [h2.1] at h3
  exact ⟨h3.1,fun m hmem=>(h3.2 m hmem).1⟩
 have hgetD:∀(l:List Str) (k:Nat),(∀t∈l,t.length≤B)→(l.getD k []).length≤B:=by
  intro l k hl
  rw [K09]
  cases h:l[k]? with
  | none=>simp
  | some t=>exact hl t (K16 h)
 have key:∀k,k≤(B8 result).length+1→K1 (X4 names (B8 result) s k)∧(X4 names (B8 result) s k).length≤k*(parents.length*L+1)∧∀r∈X4 names (B8 result) s k,r.Text.length≤B:=by
  intro k
  induction k with
  | zero=>intro _;simp only [X4,List.range_zero,K46,K43];exact ⟨fun r hr=>(by cases hr),by simp,fun r hr=>(by cases hr)⟩
  | succ k ih =>
   intro hk
   obtain ⟨i1,i2,i3⟩:=ih (by omega)
   have hc:=hcs k
   have hgap:∀r∈S8 names (B8 result) s k,(0≤r.Marks∧r.Marks < 4294967296)∧r.Text.length≤B:=by
    intro r hr
    unfold S8 at hr
    rcases List.mem_append.1 hr with h | h
    ·obtain ⟨m,hmem,rfl⟩:=List.mem_map.1 h
     exact ⟨hc.2 m hmem,hgetD _ _ hnB⟩
    ·split at h
     ·rename_i hkl
      simp only [List.mem_singleton] at h
      subst h
      refine ⟨?_,hgetD _ _ (hfB _ (by rw [hfs];simp)).2⟩
      have:k < s.1.length:=by rw [hok.len];exact hkl
      show 0≤s.1.getD k 0∧s.1.getD k 0 < 4294967296
      rw [K09,K06 this]
      exact hok.marks _ (K17 this)
     ·cases h
   have hgl:(S8 names (B8 result) s k).length≤parents.length*L+1:=by
    unfold S8
    rw [K05,K29]
    have:=hc.1
    split<;>simp<;>omega
   rw [D68]
   refine ⟨fun r hr=>?_,by rw [K05,K26,Nat.one_mul];omega,fun r hr=>?_⟩
   ·rcases List.mem_append.1 hr with h | h
    ·exact i1 r h
    ·exact (hgap r h).1
   ·rcases List.mem_append.1 hr with h | h
    ·exact i3 r h
    ·exact (hgap r h).2
 obtain ⟨k1,k2,k3⟩:=key _ (Nat.le_refl _)
 have:((B8 result).length+1)*(parents.length*L+1)≤(L+1)*(parents.length*L+1):=K20 _ (by omega)
 exact ⟨k1,by simp only;omega,k3⟩
end Go.AL
namespace Go.AL
open Go
end Go.AL
namespace Go.AL
open Go
end Go.AL
namespace Go.AL
open Go
theorem D05 {p:Nat} (hp:p < 32):2 ^ p < 4294967296:=Nat.pow_lt_pow_right (a:=2) (by decide) hp
theorem D06 {m:Int} {p q:Nat} (hm:0≤m∧m < 4294967296) (hp:p < 32):i8 (M6 m (J3 p)) q=(i8 m q||decide (p=q)):=by
 obtain ⟨k,rfl⟩:∃k:Nat,m=k:=⟨m.toNat,by omega⟩
 have:=D05 hp
 rw [C09 hp,(C87 k (2 ^ p) (by omega) (by omega)).1,y4,y4,Nat.testBit_or,Nat.testBit_two_pow]
theorem F85 {p q:Nat} (hp:p < 32):i8 (J3 p) q=decide (p=q):=by
 rw [C09 hp,y4,Nat.testBit_two_pow]
theorem F86 {m:Int} {p q:Nat} (h:0≤m∧m < ((2 ^ p:Nat):Int)) (hq:p≤q):i8 m q=false:=by
 obtain ⟨k,rfl⟩:∃k:Nat,m=k:=⟨m.toNat,by omega⟩
 rw [y4]
 exact Nat.testBit_lt_two_pow (Nat.lt_of_lt_of_le (by omega) (Nat.pow_le_pow_right (by decide) hq))
def x3 (q:Nat) (l:List Merged):List Int:=H8 (l.filter fun m=>i8 m.Parents q)
theorem l0 (q:Nat) (a b:List Merged):x3 q (a++b)=x3 q a++x3 q b:=by unfold x3 H8;rw [K50,K19]
theorem D43 {q:Nat} {l:List Merged} (h:∀m∈l,i8 m.Parents q=false):x3 q l=[]:=by
 unfold x3
 rw [List.filter_eq_nil_iff.2 (fun m hm=>by rw [h m hm];decide)];rfl
theorem D07 {p q:Nat} (hp:p < 32) (l:List Int):x3 q (l.map fun v=>(⟨v,J3 p⟩:Merged))=if p=q then l else []:=by
 by_cases h:p=q
 ·rw [if_pos h]
  unfold x3 H8
  rw [List.filter_eq_self.2 (fun m hm=>by obtain ⟨v,_,rfl⟩:=List.mem_map.1 hm;rw [F85 hp];exact decide_eq_true h),K41]
  exact List.map_id _
 ·rw [if_neg h]
  exact D43 fun m hm=>by obtain ⟨v,_,rfl⟩:=List.mem_map.1 hm;rw [F85 hp];exact decide_eq_false h
def LowP (p:Nat) (l:List Merged):Prop:=∀m∈l,0 < m.Parents∧m.Parents < ((2 ^ p:Nat):Int)
theorem LowP.sub {p:Nat} {l l':List Merged} (h:LowP p l) (hs:∀m∈l',m∈l):LowP p l':=fun m hm=>h m (hs m hm)
theorem LowP.up {p:Nat} {l:List Merged} (h:LowP p l):LowP (p+1) l:=fun m hm=>by
 have:=h m hm
 have:2 ^ p≤2 ^ (p+1):=Nat.pow_le_pow_right (by decide) (by omega)
 omega
theorem D08 {p:Nat} {a b:List Merged} (ha:LowP p a) (hb:LowP p b):LowP p (a++b):=fun m hm=>by
 rcases List.mem_append.1 hm with h | h
 ·exact ha m h
 ·exact hb m h
theorem H34 {p:Nat} (hp:p < 32) (l:List Int):LowP (p+1) (l.map fun v=>(⟨v,J3 p⟩:Merged)):=fun m hm=>by
 obtain ⟨v,_,rfl⟩:=List.mem_map.1 hm
 have h1:0 < 2 ^ p:=Nat.pow_pos (by decide)
 have h2:2 ^ (p+1)=2*2 ^ p:=by rw [Nat.pow_succ];omega
 show 0 < J3 p∧J3 p < _
 rw [C09 hp];omega
theorem or_pos {m:Int} {p:Nat} (hp:p < 32) (h:0 < m∧m < ((2 ^ p:Nat):Int)):0 < M6 m (J3 p)∧M6 m (J3 p) < ((2 ^ (p+1):Nat):Int):=by
 have h1:=or_low hp (m:=m) (by omega)
 refine ⟨?_,h1.2⟩
 have h2:=D05 hp
 have h3:=D06 (m:=m) (q:=p) (by omega) hp
 rw [decide_eq_true rfl,Bool.or_true] at h3
 have:M6 m (J3 p)≠0:=fun e=>by rw [e] at h3;simp [i8] at h3
 omega
theorem A55 {α:Type} (l:List α) {a b:Nat} (h:a≤b):l.drop a=(l.drop a).take (b - a)++l.drop b:=by
 have:=K38 (b - a) (l.drop a)
 rw [List.drop_drop,show a+(b - a)=b by omega] at this
 exact this.symm
theorem F87 {l:List Merged} {list:List Int} {p:Nat} (hp:p < 32) (hl:LowP p l):∀(ps:List Span) (i j:Nat),Asc l.length list.length i j ps→(∀x∈ps,(H8 l)[x.From.toNat]?=list[x.To.toNat]?) →
  x3 p (Z1 l list (J3 p) i j ps)=list.drop j∧(∀q,q≠p→x3 q (Z1 l list (J3 p) i j ps)=x3 q (l.drop i))∧LowP (p+1) (Z1 l list (J3 p) i j ps)
 | [],i,j,ha,_=>by
  have e1:(l.drop i).take (l.length - i)=l.drop i:=K39 (by simp)
  have e2:(list.drop j).take (list.length - j)=list.drop j:=K39 (by simp)
  unfold Z1
  rw [e1,e2]
  refine ⟨?_,fun q hq=>?_,D08 ((hl.sub fun m hm=>List.mem_of_mem_drop hm).up) (H34 hp _)⟩
  ·rw [l0,D07 hp,if_pos rfl,D43 fun m hm=>F86 (p:=p) (by have:=hl m (List.mem_of_mem_drop hm);omega) (Nat.le_refl _)];rfl
  ·rw [l0,D07 hp,if_neg (Ne.symm hq),K27]
 | x :: r,i,j,ha,hx=>by
  obtain ⟨h1,h2,h3⟩:=ha
  have h4:=h3.le
  have e1:((x.From.toNat+1:Nat):Int)=x.From+1:=by omega
  have e2:((x.To.toNat+1:Nat):Int)=x.To+1:=by omega
  obtain ⟨i1,i2,i3⟩:=F87 hp hl r (x.From.toNat+1) (x.To.toNat+1) (by rw [e1,e2];exact h3) (fun y hy=>hx y (List.mem_cons_of_mem _ hy))
  have hF:x.From.toNat < l.length:=by omega
  have hT:x.To.toNat < list.length:=by omega
  have hy:=hl l[x.From.toNat] (K17 hF)
  have hline:l[x.From.toNat].Line=list[x.To.toNat]:=by
   have:=hx x (by simp)
   rw [K06 hT] at this
   unfold H8 at this
   rw [K31,K06 hF] at this
   exact Option.some.inj this
  have h2p:=D05 hp
  have d1:l.drop i=(l.drop i).take (x.From.toNat - i)++l[x.From.toNat]::l.drop (x.From.toNat+1):=by
   rw [←K11 hF];exact A55 l (by omega)
  have d2:list.drop j=(list.drop j).take (x.To.toNat - j)++list[x.To.toNat]::list.drop (x.To.toNat+1):=by
   rw [←K11 hT];exact A55 list (by omega)
  have hM:(l[x.From.toNat]?.map fun y=>(⟨y.Line,M6 y.Parents (J3 p)⟩:Merged)).toList=[⟨l[x.From.toNat].Line,M6 l[x.From.toNat].Parents (J3 p)⟩]:=by rw [K06 hF];rfl
  have hbit:=fun q=>D06 (m:=l[x.From.toNat].Parents) (p:=p) (q:=q) (by omega) hp
  have hA:LowP p ((l.drop i).take (x.From.toNat - i)):=hl.sub fun m hm=>W9 hm
  unfold Z1
  rw [hM]
  generalize ha':(l.drop i).take (x.From.toNat - i)=A at hA d1 ⊢
  generalize hb':(list.drop j).take (x.To.toNat - j)=A2 at d2 ⊢
  refine ⟨?_,fun q hq=>?_,?_⟩
  ·rw [l0,l0,l0,i1,D07 hp,if_pos rfl,D43 (l:=A) fun m hm=>F86 (p:=p) (by have:=hA m hm;omega) (Nat.le_refl _),K32,d2]
   have:x3 p [(⟨l[x.From.toNat].Line,M6 l[x.From.toNat].Parents (J3 p)⟩:Merged)]=[list[x.To.toNat]]:=by
    unfold x3
    rw [List.filter_cons_of_pos (by rw [hbit,decide_eq_true rfl,Bool.or_true])]
    show [l[x.From.toNat].Line]=_
    rw [hline]
   rw [this]
   simp
  ·have d3:x3 q (l.drop i)=x3 q A++(x3 q [l[x.From.toNat]]++x3 q (l.drop (x.From.toNat+1))):=by
    rw [d1,←l0,←l0];rfl
   rw [l0,l0,l0,i2 q hq,D07 hp,if_neg (Ne.symm hq),K27,d3]
   have:x3 q [(⟨l[x.From.toNat].Line,M6 l[x.From.toNat].Parents (J3 p)⟩:Merged)]=x3 q [l[x.From.toNat]]:=by
    unfold x3
    have hb:i8 (M6 l[x.From.toNat].Parents (J3 p)) q=i8 l[x.From.toNat].Parents q:=by rw [hbit,decide_eq_false (Ne.symm hq),Bool.or_false]
    cases hc:i8 l[x.From.toNat].Parents q
    ·rw [List.filter_cons_of_neg (by rw [hb,hc];decide),List.filter_cons_of_neg (by rw [hc];decide)]
    ·rw [List.filter_cons_of_pos (by rw [hb,hc]),List.filter_cons_of_pos (by rw [hc])]
     rfl
   rw [this]
  ·refine D08 (D08 hA.up (H34 hp _)) (D08 ?_ i3)
   intro m hm
   rw [List.mem_singleton.1 hm]
   exact or_pos hp hy
theorem H35 {l:List Merged} {list:List Int} {p:Nat} (hp:p < 32) (hl:LowP p l) :
  x3 p (Z2 l list p)=list∧(∀q,q≠p→x3 q (Z2 l list p)=x3 q l)∧LowP (p+1) (Z2 l list p):=by
 have hasc:=U4 (H8 l) list 0 0
 rw [Int.zero_add,Int.zero_add,show (H8 l).length=l.length by simp [H8]] at hasc
 have:=F87 (list:=list) hp hl (G9 0 0 (H8 l) list) 0 0 hasc (fun x hx=>by
  obtain ⟨_,_,v,h1,h2⟩:=D36 (H8 l) list 0 0 x hx
  rw [Int.sub_zero] at h1 h2
  rw [h1,h2])
 exact this
theorem C30:∀(ls:List (List Int)) (acc:List Merged) (p:Nat),p+ls.length≤32→LowP p acc→(I2 acc p ls).2=0 →
  LowP (p+ls.length) (I2 acc p ls).1∧(∀q,q < p→x3 q (I2 acc p ls).1=x3 q acc)∧∀t,t < ls.length→x3 (p+t) (I2 acc p ls).1=ls.getD t []
 | [],acc,p,_,ha,_=>⟨ha,fun _ _=>rfl,fun t ht=>absurd ht (Nat.not_lt_zero _)⟩
 | x :: r,acc,p,hp,ha,h=>by
  rw [K07] at hp
  unfold I2 at h ⊢
  split at h
  ·cases h
  ·rename_i hc
   rw [if_neg hc]
   obtain ⟨j1,j2,j3⟩:=H35 (list:=x) (p:=p) (by omega) ha
   obtain ⟨i1,i2,i3⟩:=C30 r (Z2 acc x p) (p+1) (by omega) j3 h
   refine ⟨?_,fun q hq=>?_,fun t ht=>?_⟩
   ·rw [K07,show p+(r.length+1)=p+1+r.length by omega];exact i1
   ·exact (i2 q (by omega)).trans (j2 q (by omega))
   ·cases t with
    | zero=>exact (i2 p (by omega)).trans j1
    | succ t =>
     have:=i3 t (by rw [K07] at ht;omega)
     rw [show p+1+t=p+(t+1) by omega] at this
     exact this
theorem D91 {ls:List (List Int)} (h:(H4 ls).2=0):LowP ls.length (H4 ls).1∧∀q,q < ls.length→x3 q (H4 ls).1=ls.getD q []:=by
 unfold H4 at h ⊢
 split at h
 ·cases h
 ·rename_i hc
  rw [if_neg hc]
  obtain ⟨h1,_,h3⟩:=C30 ls [] 0 (by omega) (fun m hm=>by cases hm) h
  rw [Nat.zero_add] at h1
  exact ⟨h1,fun q hq=>by have:=h3 q hq;rwa [Nat.zero_add] at this⟩
theorem C31 (B:Nat):∀(ls:List (List Int)) (acc:List Merged) (p:Nat),(∀x∈ls,x.length≤B)→acc.length+ls.length*B≤4096→(I2 acc p ls).2=0
 | [],acc,p,_,_=>rfl
 | x::r,acc,p,hl,h=>by
  have hx:=hl x (by simp)
  have hj:=A65 acc x p
  rw [K07,K26,Nat.one_mul] at h
  unfold I2
  rw [if_neg (by omega)]
  exact C31 B r (Z2 acc x p) (p+1) (fun y hy=>hl y (List.mem_cons_of_mem _ hy)) (by omega)
theorem D92 {B:Nat} {ls:List (List Int)} (hl:∀x∈ls,x.length≤B) (hn:ls.length≤32) (h:ls.length*B≤4096):(H4 ls).2=0:=by
 unfold H4
 rw [if_neg (by omega)]
 exact C31 B ls [] 0 hl (by simpa using h)
end Go.AL
namespace Go.AL
open Go
def A01 {α:Type} (G:Nat→List α) (a b:Nat):List α:=((List.range (b - a)).map fun t=>G (a+t)).flatten
theorem A56 {α:Type} (G:Nat→List α) {a b c:Nat} (h1:a≤b) (h2:b≤c):A01 G a c=A01 G a b++A01 G b c:=by
 unfold A01
 rw [show c - a=(b - a)+(c - b) by omega,List.range_add,K19,K21,K41]
 congr 3
 funext t
 show G (a+(b - a+t))=G (b+t)
 rw [show a+(b - a+t)=b+t by omega]
theorem B87 {α:Type} (G:Nat→List α) (a:Nat):A01 G a (a+1)=G a:=by
 unfold A01
 rw [show a+1 - a=1 by omega]
 simp [K47]
theorem F88 {α:Type} (G:Nat→List α) (a:Nat):A01 G a a=[]:=by unfold A01;simp
theorem B38 {α:Type} {G G':Nat→List α} {a b:Nat} (h:∀k,a≤k→k < b→G k=G' k):A01 G a b=A01 G' a b:=by
 unfold A01
 congr 1
 exact List.map_congr_left fun t ht=>h _ (by omega) (by have:=List.mem_range.1 ht;omega)
theorem F05 {α:Type} {G:Nat→List α} {a b:Nat} (h:∀k,a≤k→k < b→G k=[]):A01 G a b=[]:=by
 rw [B38 (G':=fun _=>[]) h]
 unfold A01
 exact List.flatten_eq_nil_iff.2 fun l hl=>by obtain ⟨t,_,rfl⟩:=List.mem_map.1 hl;rfl
theorem J65 {α β:Type} (f:α→β) (G:Nat→List α) (a b:Nat):A01 (fun k=>(G k).map f) a b=(A01 G a b).map f:=by
 unfold A01
 rw [List.map_flatten,K41];rfl
theorem H36 {α:Type} (l:List α):∀d i,i+d=l.length→A01 (fun k=>(l[k]?).toList) i (l.length+1)=l.drop i
 | 0,i,h=>by
  rw [show l.length+1=i+1 by omega,B87,K37 (by omega),List.drop_of_length_le (by omega)];rfl
 | d+1,i,h=>by
  have hi:i < l.length:=by omega
  rw [A56 _ (show i≤i+1 by omega) (show i+1≤l.length+1 by omega),B87,H36 l d (i+1) (by omega),K06 hi,K11 hi];rfl
def piece (file:List Int) (c:Change):List Int:=(file.drop c.Old.toNat).take ((c.Old+c.OldLen).toNat - c.Old.toNat)
def A74 (file:List Int) (cs:List Change) (k:Nat) (a:List Int):List Int:=cs.foldl (fun a c=>if k=c.New.toNat then piece file c else a) a
theorem F89 {file:List Int} {k:Nat}:∀{cs:List Change} {a:List Int},(∀c∈cs,k≠c.New.toNat)→A74 file cs k a=a
 | [],_,_=>rfl
 | c::r,a,h=>by
  unfold A74
  rw [K35,if_neg (h c (by simp))]
  exact F89 (fun d hd=>h d (List.mem_cons_of_mem _ hd))
theorem F90 (file:List Int) (a b:List Change) (k:Nat) (z:List Int):A74 file (a++b) k z=A74 file b k (A74 file a k z):=by unfold A74;rw [K51]
theorem H37 (p:Nat) (file:List Int) (k:Nat):∀(cs:List Change) (g:Nat→List (List Int)),cs.foldl (P5 p file) g k=(g k).set p (A74 file cs k ((g k).getD p []))
 | [],g=>by
  refine List.ext_getElem? fun q=>?_
  show (g k)[q]?=((g k).set p ((g k).getD p []))[q]?
  rw [List.getElem?_set]
  split
  ·rename_i h;subst h
   split
   ·rename_i h;rw [K09,K06 h];rfl
   ·rename_i h;exact K37 (by omega)
  ·rfl
 | c::r,g=>by
  rw [K35,H37 p file k r]
  have e:P5 p file g c k=if k=c.New.toNat then (g k).set p (piece file c) else g k:=rfl
  rw [e]
  show _=(g k).set p (A74 file r k (if k=c.New.toNat then piece file c else (g k).getD p []))
  split
  ·rw [List.set_set]
   by_cases hp:p < (g k).length
   ·rw [K09,List.getElem?_set_self hp];rfl
   ·rw [List.set_eq_of_length_le (by omega),List.set_eq_of_length_le (by omega)]
  ·rfl
theorem F91 (a b:List Change) (k:Nat):S0 (a++b) k=(S0 a k||S0 b k):=by unfold S0;rw [List.any_append]
theorem J12 {cs:List Change} {k:Nat} (h:∀c∈cs,(k:Int) < c.New):S0 cs k=false:=by
 unfold S0
 rw [List.any_eq_false]
 intro c hc
 have:=h c hc
 rw [decide_eq_true_eq];omega
def F06 (file base:List Int) (cs:List Change) (k:Nat):List Int:=A74 file cs k []++(if S0 cs k=true then [] else (base[k]?).toList)
theorem H38 {file base:List Int}:∀(ps:List Span) (i j:Nat),Asc file.length base.length i j ps→(∀x∈ps,file[x.From.toNat]?=base[x.To.toNat]?) →
  A01 (F06 file base (N3 i j ps file.length base.length)) j (base.length+1)=file.drop i
 | [],i,j,ha,_=>by
  have h1:(i:Int)≤file.length∧(j:Int)≤base.length:=ha
  unfold N3
  rw [A56 _ (show j≤j+1 by omega) (show j+1≤base.length+1 by omega),B87]
  by_cases h:(file.length:Int) > i∨(base.length:Int) > j
  ·rw [if_pos h]
   have e1:∀k,A74 file [⟨i,(file.length:Int) - i,j,(base.length:Int) - j⟩] k []=if k=j then file.drop i else []:=by
    intro k
    show (if k=(j:Int).toNat then piece file _ else [])=_
    rw [K12]
    have e2:piece file ⟨i,(file.length:Int) - i,j,(base.length:Int) - j⟩=file.drop i:=by
     unfold piece
     dsimp only
     rw [K12,K39 (by rw [K24];omega)]
    rw [e2]
   have e3:∀k,j≤k→(if S0 [⟨i,(file.length:Int) - i,j,(base.length:Int) - j⟩] k=true then [] else (base[k]?).toList)=([]:List Int):=by
    intro k hk
    by_cases hk2:k < base.length
    ·rw [if_pos]
     unfold S0
     simp only [List.any_cons,List.any_nil,Bool.or_false,decide_eq_true_eq,K12]
     omega
    ·rw [K37 (by omega)]
     split<;>rfl
   rw [F05 (fun k hk _=>by unfold F06;rw [e1,e3 k (by omega),if_neg (by omega)];rfl)]
   unfold F06
   rw [e1,e3 j (Nat.le_refl _),if_pos rfl];simp
  ·rw [if_neg h,F05 (fun k hk hk2=>by omega)]
   unfold F06
   rw [K37 (by omega),List.drop_of_length_le (by omega)]
   rfl
 | x :: r,i,j,ha,hx=>by
  obtain ⟨h1,h2,h3⟩:=ha
  have h4:=h3.le
  have e1:((x.From.toNat+1:Nat):Int)=x.From+1:=by omega
  have e2:((x.To.toNat+1:Nat):Int)=x.To+1:=by omega
  have ih:=H38 r (x.From.toNat+1) (x.To.toNat+1) (by rw [e1,e2];exact h3) (fun y hy=>hx y (List.mem_cons_of_mem _ hy))
  rw [e1,e2] at ih
  have hbd:=h3.made
  have hv:=hx x (by simp)
  have hF:x.From.toNat < file.length:=by omega
  have hT:x.To.toNat < base.length:=by omega
  have hd:file.drop i=(file.drop i).take (x.From.toNat - i)++(base[x.To.toNat]?.toList++file.drop (x.From.toNat+1)):=by
   rw [←hv,K06 hF]
   show _=_++(file[x.From.toNat]::file.drop (x.From.toNat+1))
   rw [←K11 hF];exact A55 file (by omega)
  unfold N3
  obtain ⟨R,hR⟩:∃R,R=N3 (x.From+1) (x.To+1) r file.length base.length:=⟨_,rfl⟩
  rw [←hR] at hbd ih ⊢
  have outR:∀k:Nat,(k:Int)≤x.To→∀z,A74 file R k z=z:=fun k hk z=>F89 fun c hc=>by have:=hbd c hc;omega
  have outN:∀k:Nat,(k:Int)≤x.To→S0 R k=false:=fun k hk=>J12 fun c hc=>by have:=hbd c hc;omega
  rw [A56 _ (show j≤x.To.toNat by omega) (show x.To.toNat≤base.length+1 by omega),A56 _ (show x.To.toNat≤x.To.toNat+1 by omega) (show x.To.toNat+1≤base.length+1 by omega),B87]
  by_cases h:x.From > i∨x.To > j
  ·rw [if_pos h]
   have l1:∀k,A74 file [⟨i,x.From - i,j,x.To - j⟩] k []=if k=j then (file.drop i).take (x.From.toNat - i) else []:=by
    intro k
    show (if k=(j:Int).toNat then piece file _ else [])=_
    rw [K12]
    have e3:piece file ⟨i,x.From - i,j,x.To - j⟩=(file.drop i).take (x.From.toNat - i):=by
     unfold piece
     dsimp only
     rw [K12,show ((i:Int)+(x.From - i)).toNat=x.From.toNat by omega]
    rw [e3]
   have l2:∀k,S0 [⟨i,x.From - i,j,x.To - j⟩] k=decide (j≤k∧k < x.To.toNat):=by
    intro k
    unfold S0
    simp only [List.any_cons,List.any_nil,Bool.or_false,K12]
    refine decide_eq_decide.2 ?_
    omega
   have hlow:∀k:Nat,(k:Int)≤x.To→F06 file base ([⟨i,x.From - i,j,x.To - j⟩]++R) k=(if k=j then (file.drop i).take (x.From.toNat - i) else [])++(if j≤k∧k < x.To.toNat then [] else (base[k]?).toList):=by
    intro k hk
    unfold F06
    rw [F90,outR k hk,l1,F91,outN k hk,l2,Bool.or_false]
    by_cases hq:j≤k∧k < x.To.toNat
    ·rw [decide_eq_true hq,if_pos (show true=true from rfl),if_pos hq]
    ·rw [decide_eq_false hq,if_neg (show ¬false=true by decide),if_neg hq]
   have hhigh:A01 (F06 file base ([⟨i,x.From - i,j,x.To - j⟩]++R)) (x.To.toNat+1) (base.length+1)=file.drop (x.From.toNat+1):=by
    rw [←ih]
    refine B38 fun k hk hk2=>?_
    unfold F06
    rw [F90,l1,if_neg (by omega),F91,l2,decide_eq_false (by omega),Bool.false_or]
   rw [hhigh,hlow _ (by omega),if_neg (show ¬(j≤x.To.toNat∧x.To.toNat < x.To.toNat) by omega)]
   conv=>rhs;rw [hd]
   by_cases hj:x.To.toNat=j
   ·rw [if_pos hj,hj,F88];simp
   ·rw [if_neg hj,A56 _ (show j≤j+1 by omega) (show j+1≤x.To.toNat by omega),B87,F05 (fun k hk hk2=>by rw [hlow k (by omega),if_neg (by omega),if_pos (by omega)];rfl),hlow j (by omega),if_pos rfl,if_pos (by omega)]
    simp
  ·rw [if_neg h,K32,ih]
   have e3:x.From.toNat=i:=by omega
   have e4:x.To.toNat=j:=by omega
   conv=>rhs;rw [hd]
   rw [e3,e4,F88]
   unfold F06
   rw [outR j (by omega),outN j (by omega),if_neg (by decide)]
   simp
theorem J66 (file base:List Int):A01 (F06 file base (M5 file base)) 0 (base.length+1)=file:=by
 have hasc:=U4 file base 0 0
 rw [Int.zero_add,Int.zero_add] at hasc
 have:=H38 (G9 0 0 file base) 0 0 hasc (fun x hx=>by
  obtain ⟨_,_,v,h1,h2⟩:=D36 file base 0 0 x hx
  rw [Int.sub_zero] at h1 h2
  rw [h1,h2])
 exact this
theorem H39 (ids:List (List Int)) (lines n:Nat):∀p,p≤n→∀k,((X3 ids lines n p).2 k).length=n∧∀q,((X3 ids lines n p).2 k).getD q []=if q < p then A74 (ids.getD (q+1) []) (M5 (ids.getD (q+1) []) (ids.getD 0 [])) k [] else []
 | 0,_,k=>by
  refine ⟨by simp [X3,E61],fun q=>?_⟩
  rw [if_neg (by omega)]
  show (List.replicate n []).getD q []=[]
  rw [K09,List.getElem?_replicate]
  split<;>rfl
 | p+1,hp,k=>by
  obtain ⟨h1,h2⟩:=H39 ids lines n p (by omega) k
  rw [B69]
  have e:(n5 ids (X3 ids lines n p) p).2 k=((X3 ids lines n p).2 k).set p (A74 (ids.getD (p+1) []) (M5 (ids.getD (p+1) []) (ids.getD 0 [])) k (((X3 ids lines n p).2 k).getD p [])):=H37 p _ k _ _
  rw [e,h2 p,if_neg (by omega)]
  refine ⟨by rw [K54,h1],fun q=>?_⟩
  rw [K09,List.getElem?_set]
  by_cases hq:p=q
  ·subst hq
   rw [if_pos rfl,if_pos (by omega),if_pos (by omega)];rfl
  ·rw [if_neg hq,←K09,h2 q]
   by_cases hq2:q < p
   ·rw [if_pos hq2,if_pos (by omega)]
   ·rw [if_neg hq2,if_neg (by omega)]
theorem F92 {ids:List (List Int)} {base:List Int} {n:Nat} (hb:base=ids.getD 0 []) (hl:∀x∈ids,x.length≤4096) (hbl:base.length≤4096):∀p,p≤32→∀(q k:Nat) (v:Int),(y9 ids base.length n p).1[k]?=some v→i8 v q=(decide (q < p)&&S0 (M5 (ids.getD (q+1) []) base) k)
 | 0,_,q,k,v,h=>by
  have:=List.eq_of_mem_replicate (show v∈List.replicate base.length 0 from K16 h)
  subst this
  rw [decide_eq_false (by omega),Bool.false_and]
  simp [i8]
 | p+1,hp,q,k,v,h=>by
  obtain ⟨h1,h2,h3⟩:=C10 (n:=n) hb hl hbl p (by omega)
  rw [B80] at h
  have e:(A18 ids (y9 ids base.length n p) p).1=(M5 (ids.getD (p+1) []) (ids.getD 0 [])).foldl (O0 p) (y9 ids base.length n p).1:=rfl
  rw [e,E83,←hb] at h
  cases hw:(y9 ids base.length n p).1[k]? with
  | none=>rw [hw] at h;cases h
  | some w =>
   rw [hw] at h
   have ih:=F92 (n:=n) hb hl hbl p (by omega) q k w hw
   have hlow:=h2 w (K16 hw)
   have h2p:=D05 (p:=p) (by omega)
   have h:(if S0 (M5 (ids.getD (p+1) []) base) k=true then M6 w (J3 p) else w)=v:=Option.some.inj h
   rw [←h]
   by_cases hq:p=q
   ·subst hq
    rw [decide_eq_false (Nat.lt_irrefl _),Bool.false_and] at ih
    rw [decide_eq_true (by omega),Bool.true_and]
    cases S0 (M5 (ids.getD (p+1) []) base) k
    ·rw [if_neg (by decide),ih]
    ·rw [if_pos rfl,D06 (by omega) (by omega),decide_eq_true rfl,Bool.or_true]
   ·have e2:decide (q < p+1)=decide (q < p):=by by_cases h:q < p<;>simp [h]<;>omega
    rw [e2,←ih]
    split
    ·rw [D06 (by omega) (by omega),decide_eq_false hq,Bool.or_false]
    ·rfl
end Go.AL
namespace Go.AL
open Go
theorem H40 (s:Str):∀(l:List Str) (k:Int),0≤k→s∈l→l[(H1 l s k - k).toNat]?=some s
 | [],_,_,h=>(by cases h)
 | x::r,k,hk,h=>by
  unfold H1
  by_cases hx:x=s
  ·rw [if_pos hx,Int.sub_self,hx];rfl
  ·rw [if_neg hx]
   have hm:s∈r:=by rcases List.mem_cons.1 h with rfl | h;exact absurd rfl hx;exact h
   have h1:=y3 r s (k+1) (by omega) hm
   have h2:=H40 s r (k+1) (by omega) hm
   rw [show (H1 r s (k+1) - k).toNat=(H1 r s (k+1) - (k+1)).toNat+1 by omega,List.getElem?_cons_succ]
   exact h2
def B88 (names:List Str) (v:Int):Str:=names.getD v.toNat []
theorem I49 {names:List Str} {s:Str} (h:s∈names):B88 names (H1 names s 0)=s:=by
 have:=H40 s names 0 (Int.le_refl _) h
 rw [Int.sub_zero] at this
 unfold B88
 rw [K09,this];rfl
theorem I10 {names f:List Str} (h:∀s∈f,s∈names):(F5 names f).map (B88 names)=f:=by
 unfold F5
 rw [K41]
 conv=>rhs;rw [←List.map_id f]
 exact List.map_congr_left fun s hs=>I49 (h s hs)
theorem F93 (G:Nat→List Row) (a b:Nat) (c:Int):G8 (A01 G a b) c=A01 (fun k=>G8 (G k) c) a b:=by
 unfold G8 A01
 rw [List.filter_flatten,List.map_flatten,K41,K41];rfl
theorem D44 (a b:List Row) (c:Int):G8 (a++b) c=G8 a c++G8 b c:=by unfold G8;rw [K50,K19]
theorem F07 (w:Row) {q:Nat} (hq:q < 32):j4 w q=(i8 w.Marks q == w.Lost):=by
 rw [j4,if_neg (by omega),if_neg (by omega),K12]
theorem H41 (f:Int→Str) {q:Nat} (hq:q < 32):∀l:List Merged,G8 (l.map fun m=>(⟨true,m.Parents,f m.Line⟩:Row)) q=(x3 q l).map f
 | []=>rfl
 | m::r=>by
  have ih:=H41 f hq r
  unfold G8 x3 H8 at ih ⊢
  rw [K13,K52,K52,F07 _ hq]
  dsimp only
  rw [show (i8 m.Parents q == true)=i8 m.Parents q by simp]
  cases i8 m.Parents q
  ·rw [if_neg (by decide),if_neg (by decide)];exact ih
  ·rw [if_pos rfl,if_pos rfl,K13,K13,K13,ih]
theorem J13 (f:Int→Str) (l:List Merged):G8 (l.map fun m=>(⟨true,m.Parents,f m.Line⟩:Row)) (-1)=[]:=by
 unfold G8
 rw [List.filter_eq_nil_iff.2]
 ·rfl
 ·intro w hw
  obtain ⟨m,_,rfl⟩:=List.mem_map.1 hw
  simp [j4]
structure Made16 (x:Str) (r:List Str) (rows:List Row):Prop where
 res:G8 rows (-1)=B8 x
 par:∀q,q < r.length→G8 rows q=B8 (r.getD q [])
 marks:Q5 rows r.length=true
 texts:∀w∈rows,H7 w.Text=true
theorem D83 {x:Str} {r:List Str} (hx:(B8 x).length≤4096) (hr:∀b∈r,(B8 b).length≤4096) (h:(G1 x r).2=0) :
  (1≤r.length∧r.length≤32)∧(G1 x r).1.Parents=r.length∧Made16 x r (G1 x r).1.Rows:=by
 by_cases hn:r.length < 1∨32 < r.length
 ·rw [G1,if_pos hn] at h;cases h
 obtain ⟨F,hF⟩:∃F,F=B8 x:=⟨_,rfl⟩
 obtain ⟨N,hN⟩:∃N,N=E0 (F::r.map B8):=⟨_,rfl⟩
 obtain ⟨ids,hids⟩:∃ids,ids=(F::r.map B8).map (F5 N):=⟨_,rfl⟩
 obtain ⟨s,hs⟩:∃s,s=X3 ids F.length r.length r.length:=⟨_,rfl⟩
 have hm:G1 x r=if ∃k,k < F.length+1∧(H4 (s.2 k)).2≠0 then (⟨0,[]⟩,1) else (⟨r.length,X4 N F s (F.length+1)⟩,0):=by
  rw [G1,if_neg hn,hs,hids,hN,hF]
 rw [hm] at h ⊢
 split at h
 ·cases h
 rename_i hno
 rw [if_neg hno]
 have hz:∀k,k < F.length+1→(H4 (s.2 k)).2=0:=fun k hk=>Classical.byContradiction fun hc=>hno ⟨k,hk,hc⟩
 refine ⟨by omega,rfl,?_⟩
 dsimp only
 have hrun:X4 N F s (F.length+1)=A01 (S8 N F s) 0 (F.length+1):=by
  unfold X4 A01
  rw [Nat.sub_zero]
  congr 1
  exact List.map_congr_left fun t _=>by rw [Nat.zero_add]
 rw [hrun]
 have hmem:∀f∈F::r.map B8,∀t∈f,t∈N:=fun f hf t ht=>by rw [hN];exact T5 _ t f hf ht
 have hlok:∀f∈F::r.map B8,f.length≤4096∧∀t∈f,H7 t=true:=by
  intro f hf
  rcases List.mem_cons.1 hf with rfl | hf
  ·rw [hF];exact ⟨hx,(R9 x).1⟩
  ·obtain ⟨b,hb,rfl⟩:=List.mem_map.1 hf
   exact ⟨hr b hb,(R9 b).1⟩
 have hil:∀z∈ids,z.length≤4096:=by
  intro z hz
  rw [hids] at hz
  obtain ⟨f,hf,rfl⟩:=List.mem_map.1 hz
  rw [F5,K29];exact (hlok f hf).1
 obtain ⟨base,hb⟩:∃base,base=F5 N F:=⟨_,rfl⟩
 have hb0:base=ids.getD 0 []:=by rw [hb,hids];rfl
 have hbl:base.length=F.length:=by rw [hb,F5,K29]
 have hFl:F.length≤4096:=(hlok F (by simp)).1
 obtain ⟨p1,p2,p3⟩:=C10 (n:=r.length) hb0 hil (by omega) r.length (by omega)
 rw [hbl] at p1 p2 p3
 rw [←hs] at p1
 rw [p1] at p2 p3
 have hmark:=F92 (n:=r.length) hb0 hil (by omega) r.length (by omega)
 rw [hbl,p1] at hmark
 have hgap:=H39 ids F.length r.length r.length (Nat.le_refl _)
 rw [←hs] at hgap
 have hco:=fun k hk=>D91 (hz k hk)
 have hspec:LoomOk (fun v=>0≤v∧v < (N.length:Int)) 4096 F.length r.length s:=by
  rw [hs]
  refine A98 (fun z hz=>⟨hil z hz,fun v hv=>?_⟩) _
  rw [hids,hN] at hz
  rw [hN]
  exact ids_in _ z hz v hv
 have hkeep:∀k,k < F.length→∃v,s.1[k]?=some v∧s.1.getD k 0=v∧0≤v∧v < ((2 ^ r.length:Nat):Int):=by
  intro k hk
  refine ⟨s.1[k]'(by omega),K06 _,?_,p2 _ (K17 _)⟩
  rw [K09,K06 (by omega)];rfl
 have hrow:∀w∈A01 (S8 N F s) 0 (F.length+1),V8 r.length w=true∧H7 w.Text=true:=by
  intro w hw
  unfold A01 at hw
  obtain ⟨l,hl,hwl⟩:=List.mem_flatten.1 hw
  obtain ⟨k,hk,rfl⟩:=List.mem_map.1 hl
  have hk:=List.mem_range.1 hk
  rw [Nat.zero_add] at hwl
  have hpw:((2 ^ r.length:Nat):Int)=2 ^ r.length:=by simp
  unfold S8 at hwl
  rcases List.mem_append.1 hwl with hwl | hwl
  ·obtain ⟨m,hmm,rfl⟩:=List.mem_map.1 hwl
   have h1:=(hco k (by omega)).1 m hmm
   rw [(hgap k).1] at h1
   have h2:=((A83 _ 4096 (s.2 k) (hspec.gaps k).2).2 m hmm).2
   refine ⟨?_,?_⟩
   ·unfold V8
    dsimp only
    rw [Int.ediv_eq_zero_of_lt (by omega) (by omega)]
    have:(m.Parents == 0)=false:=by rw [beq_eq_false_iff_ne];omega
    rw [this];decide
   ·show H7 (N.getD m.Line.toNat [])=true
    have h3:m.Line.toNat < N.length:=by omega
    rw [K09,K06 h3]
    have h4:N[m.Line.toNat]∈E0 (F::r.map B8):=by rw [←hN];exact K17 h3
    obtain ⟨f,hf,ht⟩:=List.mem_flatten.1 (D69 _ _ h4)
    exact (hlok f hf).2 _ ht
  ·split at hwl
   ·rename_i hkF
    rw [List.mem_singleton] at hwl
    subst hwl
    obtain ⟨v,_,g2,g3,g4⟩:=hkeep k hkF
    refine ⟨?_,?_⟩
    ·unfold V8
     dsimp only
     rw [g2,Int.ediv_eq_zero_of_lt g3 (by omega)];rfl
    ·show H7 (F.getD k [])=true
     rw [K09,K06 hkF]
     exact (hlok F (by simp)).2 _ (K17 hkF)
   ·cases hwl
 have hid:∀(z:List Str) (k:Nat) (h:k < z.length),z.getD k []=z[k]:=fun z k h=>by rw [K09,K06 h];rfl
 refine ⟨?_,fun q hq=>?_,List.all_eq_true.2 fun w hw=>(hrow w hw).1,fun w hw=>(hrow w hw).2⟩
 ·rw [F93,←hF]
  have:=H36 F F.length 0 (by omega)
  rw [List.drop_zero] at this
  conv=>rhs;rw [←this]
  refine B38 fun k _ hk=>?_
  unfold S8
  rw [D44,show (fun m:Merged=>(⟨true,m.Parents,N.getD m.Line.toNat []⟩:Row))=fun m=>⟨true,m.Parents,B88 N m.Line⟩ from rfl,J13,K32]
  by_cases hkF:k < F.length
  ·rw [if_pos hkF,K06 hkF,hid F k hkF];rfl
  ·rw [if_neg hkF,K37 (by omega)];rfl
 ·obtain ⟨file,hfile⟩:∃file,file=ids.getD (q+1) []:=⟨_,rfl⟩
  have hfq:file=F5 N (B8 (r.getD q [])):=by
   rw [hfile,hids,hid r q hq,K09,K13,List.getElem?_cons_succ,K31,K31,K06 hq];rfl
  have hback:file.map (B88 N)=B8 (r.getD q []):=by
   rw [hfq]
   refine I10 fun t ht=>hmem _ (List.mem_cons_of_mem _ (List.mem_map_of_mem ?_)) t ht
   rw [hid r q hq];exact K17 hq
  have hcol:=J66 file base
  rw [F93,←hback]
  conv=>rhs;rw [←hcol,←J65,hbl]
  refine B38 fun k _ hk=>?_
  have hgk:=(hgap k).2 q
  rw [if_pos hq,←hfile,←hb0] at hgk
  have hck:=(hco k hk).2 q (by rw [(hgap k).1];exact hq)
  unfold S8 F06
  rw [D44,show (fun m:Merged=>(⟨true,m.Parents,N.getD m.Line.toNat []⟩:Row))=fun m=>⟨true,m.Parents,B88 N m.Line⟩ from rfl,H41 (B88 N) (by omega),hck,hgk,K19]
  congr 1
  by_cases hkF:k < F.length
  ·obtain ⟨v,g1,g2,_⟩:=hkeep k hkF
   have hmk:=hmark q k v g1
   rw [decide_eq_true hq,Bool.true_and,←hfile] at hmk
   rw [if_pos hkF,g2]
   unfold G8
   rw [K52,F07 _ (by omega)]
   dsimp only
   rw [hmk]
   cases S0 (M5 file base) k
   ·rw [if_pos (show (false == false)=true from rfl),if_neg (show ¬false=true by decide)]
    have hbk:base[k]?=some (H1 N F[k] 0):=by rw [hb,F5,K31,K06 hkF];rfl
    rw [hbk,hid F k hkF]
    show [F[k]]=[B88 N (H1 N F[k] 0)]
    rw [I49 (hmem F (by simp) _ (K17 hkF))]
   ·rw [if_neg (show ¬(true == false)=true by decide),if_pos (show true=true from rfl)];rfl
  ·rw [if_neg hkF,K37 (by omega)]
   split<;>rfl
theorem Made16.texts16 {x:Str} {r:List Str} {rows:List Row} (h:Made16 x r rows):l9 rows r.length=true:=by
 unfold l9
 rw [K08]
 refine ⟨List.all_eq_true.2 h.texts,List.all_eq_true.2 fun k hk=>?_⟩
 have hk:=List.mem_range.1 hk
 have hl:=fun b=>v8 (B8 b) (R9 b).1 (R9 b).2
 cases k with
 | zero=>rw [show ((0:Nat):Int) - 1 = -1 from rfl,h.res];exact hl x
 | succ q =>
  rw [show ((q+1:Nat):Int) - 1=(q:Int) by omega,h.par q (by omega)];exact hl _
theorem G42 {x:Str} {r:List Str} (hx:(B8 x).length≤4096) (hr:∀b∈r,(B8 b).length≤4096) (h:(G1 x r).2=0):L5 (G1 x r).1=0:=by
 obtain ⟨h1,h2,h3⟩:=D83 hx hr h
 unfold L5
 rw [h2,if_neg (by omega),K12,h3.marks,if_neg (by decide),h3.texts16,if_neg (by decide)]
theorem H42 {x:Str} {r:List Str} {B:Nat} (hn:1≤r.length∧r.length≤32) (hx:(B8 x).length≤B) (hr:∀b∈r,(B8 b).length≤B) (h:r.length*B≤4096):(G1 x r).2=0:=by
 unfold G1
 rw [if_neg (by omega)]
 dsimp only
 rw [if_neg]
 rintro ⟨k,_,hk⟩
 refine hk ?_
 have hok:=(A98 (Q:=fun _=>True) (B:=B) (lines:=(B8 x).length) (n:=r.length) (ids:=(B8 x::r.map B8).map (F5 (E0 (B8 x::r.map B8)))) (fun z hz=>by
  obtain ⟨f,hf,rfl⟩:=List.mem_map.1 hz
  refine ⟨?_,fun _ _=>trivial⟩
  rw [F5,K29]
  rcases List.mem_cons.1 hf with rfl | hf
  ·exact hx
  ·obtain ⟨b,hb,rfl⟩:=List.mem_map.1 hf
   exact hr b hb) r.length).gaps k
 exact D92 (B:=B) (fun z hz=>(hok.2 z hz).1) (by rw [hok.1];exact hn.2) (by rw [hok.1];exact h)
end Go.AL
namespace Go.AL
open Go
def CutSp (m:Nat):Int→List Span→Prop
 | _,[]=>True
 | e,s::r=>e≤s.From∧s.From < s.To∧s.To≤m∧CutSp m s.To r
def endOf (e:Int):List Span→Int
 | []=>e
 | s::r=>endOf s.To r
theorem CutSp.mono {m m':Nat} (hm:m≤m'):∀{sp:List Span} {e:Int},CutSp m e sp→CutSp m' e sp
 | [],_,_=>trivial
 | s::r,e,h=>⟨h.1,h.2.1,by have:=h.2.2.1;omega,CutSp.mono hm h.2.2.2⟩
theorem CutSp.end_le {m:Nat}:∀{sp:List Span} {e:Int},CutSp m e sp→e≤m→endOf e sp≤m
 | [],_,_,he=>he
 | s::r,_,h,_=>CutSp.end_le (sp:=r) (e:=s.To) h.2.2.2 h.2.2.1
def cutH (n:Nat) (rows:List Row) (s:Span):CHunk:=⟨F6 (rows.take s.From.toNat) n,(rows.drop s.From.toNat).take (s.To.toNat - s.From.toNat)⟩
def V7 (n:Nat) (rows:List Row) (sp:List Span):List CHunk:=sp.map (cutH n rows)
theorem F08 (n:Nat) (rows:List Row):∀(sp:List Span) (e:Int) (hs:List CHunk),CutSp rows.length e sp→A20 n rows e hs sp=some (hs++V7 n rows sp)
 | [],_,hs,_=>by simp [A20,V7]
 | s::r,e,hs,h=>by
  obtain ⟨h1,h2,h3,h4⟩:=h
  rw [A20,if_neg (by omega),F08 n rows r _ _ h4]
  simp [V7,cutH]
theorem F09 (a b:List Row) (n k:Nat):N4 (a++b) n k=N4 a n k+N4 b n k:=by
 unfold N4;rw [D44,K05];omega
theorem G43 (a:List Row) (n k:Nat):0≤N4 a n k∧N4 a n k≤a.length:=by
 have:=C05 a (A26 n k)
 unfold N4;omega
theorem D45 (rows:List Row) (n k:Nat) (h:k < n+1):(F6 rows n).getD k 0=N4 rows n k:=A54 _ _ _ h
theorem C55 {α:Type} (rows:List α) {a b:Nat} (h:a≤b):rows.take b=rows.take a++(rows.drop a).take (b - a):=by
 have:=List.take_add (l:=rows) (i:=a) (j:=b - a)
 rwa [show a+(b - a)=b by omega] at this
theorem J67 (n:Nat) (rows:List Row) {s:Span} (h1:0≤s.From) (h2:s.From < s.To):V0 n (cutH n rows s)=F6 (rows.take s.To.toNat) n:=by
 unfold V0 F6
 refine List.map_congr_left fun k hk=>?_
 have hk:=List.mem_range.1 hk
 show (F6 (rows.take s.From.toNat) n).getD k 0+N4 ((rows.drop s.From.toNat).take (s.To.toNat - s.From.toNat)) n k=_
 rw [D45 _ _ _ hk,←F09,←C55 rows (by omega)]
theorem F10 (n:Nat) {rows:List Row} (hl:rows.length≤4096):∀(sp:List Span) (e:Int),0≤e→CutSp rows.length e sp→W6 n (F6 (rows.take e.toNat) n) (V7 n rows sp)=true
 | [],_,_,_=>rfl
 | s::r,e,he,h=>by
  obtain ⟨h1,h2,h3,h4⟩:=h
  show (C52 n (F6 (rows.take e.toNat) n) (cutH n rows s)&&W6 n (V0 n (cutH n rows s)) (V7 n rows r))=true
  rw [J67 n rows (by omega) h2,F10 n hl r s.To (by omega) h4,Bool.and_true]
  unfold C52
  rw [K08]
  refine ⟨decide_eq_true ⟨F00 _ _,fun hc=>?_⟩,List.all_eq_true.2 fun k hk=>decide_eq_true ?_⟩
  ·have:((rows.drop s.From.toNat).take (s.To.toNat - s.From.toNat)).length=0:=by
    rw [show (rows.drop s.From.toNat).take (s.To.toNat - s.From.toNat)=[] from hc];rfl
   rw [K22,K24] at this
   omega
  ·have hk:=List.mem_range.1 hk
   show ((F6 (rows.take e.toNat) n).getD k 0≤(F6 (rows.take s.From.toNat) n).getD k 0∧(F6 (rows.take s.From.toNat) n).getD k 0≤4096)∧(F6 (rows.take s.From.toNat) n).getD k 0+N4 ((rows.drop s.From.toNat).take (s.To.toNat - s.From.toNat)) n k≤4096
   rw [D45 _ _ _ hk,D45 _ _ _ hk,←F09,←C55 rows (by omega)]
   have g1:=F09 (rows.take e.toNat) ((rows.drop e.toNat).take (s.From.toNat - e.toNat)) n k
   rw [←C55 rows (by omega)] at g1
   have g2:=G43 ((rows.drop e.toNat).take (s.From.toNat - e.toNat)) n k
   have g3:=G43 (rows.take s.From.toNat) n k
   have g4:=G43 (rows.take s.To.toNat) n k
   rw [K22] at g3 g4
   omega
theorem D84 (n:Nat) (rows:List Row):∀(sp:List Span) (e:Int),0≤e→CutSp rows.length e sp→(Y1 (V7 n rows sp)).Sublist (rows.drop e.toNat)
 | [],_,_,_=>List.nil_sublist _
 | s::r,e,he,h=>by
  obtain ⟨h1,h2,h3,h4⟩:=h
  have ih:=D84 n rows r s.To (by omega) h4
  show ((rows.drop s.From.toNat).take (s.To.toNat - s.From.toNat)++Y1 (V7 n rows r)).Sublist _
  have e1:rows.drop e.toNat=(rows.drop e.toNat).take (s.From.toNat - e.toNat)++((rows.drop s.From.toNat).take (s.To.toNat - s.From.toNat)++rows.drop s.To.toNat):=by
   rw [←A55 rows (show s.From.toNat≤s.To.toNat by omega)]
   exact A55 rows (by omega)
  rw [e1]
  exact (List.Sublist.append (List.Sublist.refl _) ih).trans (List.sublist_append_right _ _)
theorem F11:∀{l:List Str},X2 l=true→(∀s∈l,H7 s=true)∧P6 l=true
 | [],_=>⟨fun s hs=>(by cases hs),rfl⟩
 | x::r,h=>by
  rw [A67,K08,K08] at h
  obtain ⟨⟨h1,h2⟩,h3⟩:=h
  obtain ⟨i1,i2⟩:=F11 h3
  refine ⟨fun s hs=>?_,?_⟩
  ·rcases List.mem_cons.1 hs with rfl | hs
   ·exact h1
   ·exact i1 s hs
  ·show ((r.isEmpty||ended x)&&P6 r)=true
   rw [h2,i2];rfl
theorem J14 {a b:List Row} {n:Nat} (hs:a.Sublist b) (h:l9 b n=true):l9 a n=true:=by
 unfold l9 at h ⊢
 rw [K08] at h ⊢
 obtain ⟨h1,h2⟩:=h
 refine ⟨List.all_eq_true.2 fun r hr=>List.all_eq_true.1 h1 r (hs.subset hr),List.all_eq_true.2 fun k hk=>?_⟩
 have h3:=F11 (List.all_eq_true.1 h2 k hk)
 have h4:(G8 a ((k:Int) - 1)).Sublist (G8 b ((k:Int) - 1)):=by unfold G8;exact (hs.filter _).map _
 exact v8 _ (fun s hs=>h3.1 s (h4.subset hs)) (B33 h4 h3.2)
theorem F44 {t:Table} (h:L5 t=0):(1≤t.Parents∧t.Parents≤32)∧Q5 t.Rows t.Parents.toNat=true∧l9 t.Rows t.Parents.toNat=true:=by
 unfold L5 at h
 split at h
 ·cases h
 ·rename_i h1
  split at h
  ·cases h
  ·rename_i h2
   split at h
   ·cases h
   ·rename_i h3
    exact ⟨by omega,by simpa using h2,by simpa using h3⟩
theorem I11 {path:Str} {t:Table} {sp:List Span} {d:Bool} (hn:K4 path=true) (hc:L5 t=0) (hl:t.Rows.length≤4096) (hsp:CutSp t.Rows.length 0 sp)
  (hW:4*path.length+48+926*t.Rows.length+(t.Rows.map (D42 t.Parents.toNat)).sum≤16777216) :
  A30 path t sp d=(⟨path,d,t.Parents,V7 t.Parents.toNat t.Rows sp⟩,0)∧J4 ⟨path,d,t.Parents,V7 t.Parents.toNat t.Rows sp⟩=0∧(C51 ⟨path,d,t.Parents,V7 t.Parents.toNat t.Rows sp⟩).length≤4*path.length+48+926*t.Rows.length+(t.Rows.map (D42 t.Parents.toNat)).sum:=by
 obtain ⟨h1,h2,h3⟩:=F44 hc
 have hgo:=F08 t.Parents.toNat t.Rows sp 0 [] hsp
 rw [K32] at hgo
 have hsub:=D84 t.Parents.toNat t.Rows sp 0 (Int.le_refl _) hsp
 rw [show (0:Int).toNat=0 from rfl,List.drop_zero] at hsub
 have hw:=J64 ⟨path,d,t.Parents,V7 t.Parents.toNat t.Rows sp⟩
 have hg:=G40 (D42 t.Parents.toNat) (28*(t.Parents.toNat+1)+2) t.Parents.toNat t.Rows sp 0 [] _ (Int.le_refl _) hgo (by simp) (by simp)
 have hlen:(V7 t.Parents.toNat t.Rows sp).length≤t.Rows.length:=by have:=hg.2;simpa using this
 have hmul:(28*(t.Parents.toNat+1)+2)*(V7 t.Parents.toNat t.Rows sp).length≤926*t.Rows.length:=Nat.mul_le_mul (by omega) hlen
 have hsz:(C51 ⟨path,d,t.Parents,V7 t.Parents.toNat t.Rows sp⟩).length≤4*path.length+48+926*t.Rows.length+(t.Rows.map (D42 t.Parents.toNat)).sum:=by
  have:=hg.1
  dsimp only at hw
  omega
 have hck:J4 ⟨path,d,t.Parents,V7 t.Parents.toNat t.Rows sp⟩=0:=by
  unfold J4
  dsimp only
  have m1:w8 t.Parents.toNat (V7 t.Parents.toNat t.Rows sp)=true:=by
   unfold w8
   refine List.all_eq_true.2 fun h hh=>List.all_eq_true.2 fun r hr=>List.all_eq_true.1 h2 r (hsub.subset ?_)
   exact List.mem_flatten.2 ⟨h.Rows,List.mem_map_of_mem hh,hr⟩
  have m2:j9 t.Parents.toNat (V7 t.Parents.toNat t.Rows sp)=true:=by
   unfold j9
   have e0:List.replicate (t.Parents.toNat+1) 0=F6 (t.Rows.take (0:Int).toNat) t.Parents.toNat:=by
    unfold F6
    refine List.ext_getElem (by simp) fun k h1 h2=>?_
    simp [N4,G8]
   rw [e0,F10 _ hl sp 0 (Int.le_refl _) hsp,J14 hsub h3];rfl
  rw [if_neg (by rw [hn];decide),if_neg (by omega),m1,if_neg (by decide),m2,if_neg (by decide),if_neg (by omega)]
 refine ⟨?_,hck,hsz⟩
 unfold A30
 rw [if_neg (by rw [hn];decide),hc,if_neg (by decide),hgo]
 dsimp only
 rw [hck,if_neg (by decide)]
end Go.AL
namespace Go.AL
open Go
def I1 (c:Comb):Table × Int :=
 if J4 c≠0 then (⟨0,[]⟩,J4 c) else match c.Hunks with
  | []=>(⟨c.Parents,[]⟩,0)
  | h::r=>if r≠[]∨∃v∈h.At,v≠0 then (⟨0,[]⟩,121) else (⟨c.Parents,h.Rows⟩,0)
def x4 (m:Nat):List Span:=if 0 < m then [⟨0,m⟩] else []
theorem H43 (m:Nat):CutSp m 0 (x4 m):=by
 unfold x4
 split
 ·exact ⟨Int.le_refl _,by dsimp only;omega,Int.le_refl _,trivial⟩
 ·trivial
theorem I12 (n:Nat):F6 [] n=List.replicate (n+1) 0:=by
 unfold F6
 refine List.ext_getElem (by simp) fun k h1 h2=>?_
 simp [N4,G8]
theorem I13 (n:Nat) (rows:List Row):V7 n rows (x4 rows.length)=if 0 < rows.length then [⟨List.replicate (n+1) 0,rows⟩] else []:=by
 unfold x4
 by_cases h:0 < rows.length
 ·rw [if_pos h,if_pos h]
  unfold V7 cutH
  simp [I12]
 ·rw [if_neg h,if_neg h];rfl
theorem I14 {path:Str} {d:Bool} {t:Table} (hc:J4 ⟨path,d,t.Parents,V7 t.Parents.toNat t.Rows (x4 t.Rows.length)⟩=0):I1 ⟨path,d,t.Parents,V7 t.Parents.toNat t.Rows (x4 t.Rows.length)⟩=(t,0):=by
 unfold I1
 rw [hc,if_neg (by decide)]
 dsimp only
 rw [I13]
 by_cases h:0 < t.Rows.length
 ·rw [if_pos h]
  dsimp only
  rw [if_neg]
  rintro (h1 | ⟨v,hv,h1⟩)
  ·exact h1 rfl
  ·exact h1 (List.eq_of_mem_replicate hv)
 ·rw [if_neg h]
  have:t.Rows=[]:=List.eq_nil_of_length_eq_zero (by omega)
  dsimp only
  rw [←this]
theorem F12 {b:Str} (h:b.length≤4096):K3 (B8 b)=(b,0):=by
 have h1:=Z6 b
 have h2:(B8 b).flatten=b:=by unfold B8;exact A52 b []
 unfold K3
 rw [v8 _ (R9 b).1 (R9 b).2,if_neg (by decide),if_neg (by omega),h2]
theorem H44 {x:Str} {r:List Str} (hc:L5 (G1 x r).1=0) (hp:(G1 x r).1.Parents=r.length) (h:Made16 x r (G1 x r).1.Rows) (hx:x.length≤4096) (hr:∀b∈r,b.length≤4096) :
  R8 (G1 x r).1 (-1)=(x,0)∧∀q,q < r.length→R8 (G1 x r).1 q=(r.getD q [],0):=by
 refine ⟨?_,fun q hq=>?_⟩
 ·unfold R8
  rw [hc,if_neg (by decide),hp,if_neg (by omega),h.res,F12 hx]
 ·unfold R8
  rw [hc,if_neg (by decide),hp,if_neg (by omega),h.par q hq]
  refine F12 (hr _ ?_)
  rw [K09,K06 hq]
  exact K17 hq
end Go.AL
namespace Go.AL
open Go
def B05 (f:Nat→Nat):Nat→Nat
 | 0=>0
 | m+1=>B05 f m+f m
theorem F13 {f g:Nat→Nat}:∀{m:Nat},(∀k,f k≤g k)→B05 f m≤B05 g m
 | 0,_=>Nat.le_refl _
 | m+1,h=>by
  have h1:=F13 (f:=f) (g:=g) (m:=m) h
  have h2:=h m
  show B05 f m+f m≤B05 g m+g m
  omega
theorem F94 {f g:Nat→Nat} {k0:Nat} (h:∀k,f k≤g k) (h0:f k0+1≤g k0):∀{m:Nat},k0 < m→B05 f m+1≤B05 g m
 | 0,hm=>absurd hm (Nat.not_lt_zero _)
 | m+1,hm=>by
  show B05 f m+f m+1≤B05 g m+g m
  by_cases hk:k0=m
  ·subst hk
   have:=F13 (f:=f) (g:=g) (m:=k0) h
   omega
  ·have h1:=F94 h h0 (m:=m) (by omega)
   have h2:=h m
   omega
theorem J15 {n:Nat} (hn:n≤32) {r:Row} (h:V8 n r=true):∃k,k < n+1∧j4 r ((k:Int) - 1)=true:=by
 obtain ⟨h1,h2,h3⟩:=D04 h
 cases hl:r.Lost
 ·exact ⟨0,by omega,by rw [show ((0:Nat):Int) - 1 = -1 from rfl,j4,if_pos rfl,hl];rfl⟩
 ·have h4:=h3 hl
  obtain ⟨m,hm⟩:∃m:Nat,r.Marks=m:=⟨r.Marks.toNat,by omega⟩
  have h5:((2 ^ n:Nat):Int)=2 ^ n:=by simp
  have hm0:m≠0:=by omega
  obtain ⟨q,hq⟩:=Nat.exists_testBit_of_ne_zero hm0
  have hqn:q < n:=by
   refine Classical.byContradiction fun hc=>?_
   have:m < 2 ^ n:=by omega
   rw [Nat.testBit_lt_two_pow (Nat.lt_of_lt_of_le this (Nat.pow_le_pow_right (by decide) (by omega)))] at hq
   cases hq
  refine ⟨q+1,by omega,?_⟩
  rw [show ((q+1:Nat):Int) - 1=(q:Int) by omega,F07 _ (by omega),hm,y4,hq,hl];rfl
theorem F95 {f:Nat→Nat} {B:Nat}:∀{m:Nat},(∀k,k < m→f k≤B)→B05 f m≤m*B
 | 0,_=>by simp [B05]
 | m+1,h=>by
  have h1:=F95 (f:=f) (B:=B) (m:=m) fun k hk=>h k (by omega)
  have h2:=h m (by omega)
  show B05 f m+f m≤(m+1)*B
  rw [K26,Nat.one_mul];omega
theorem H45 {n:Nat} (hn:n≤32):∀{rows:List Row},(∀r∈rows,V8 n r=true)→rows.length≤B05 (fun k=>(G8 rows ((k:Int) - 1)).length) (n+1)
 | [],_=>Nat.zero_le _
 | r::rs,h=>by
  have ih:=H45 hn (rows:=rs) fun x hx=>h x (by simp [hx])
  obtain ⟨k,hk,hv⟩:=J15 hn (h r (by simp))
  have:=F94 (f:=fun k=>(G8 rs ((k:Int) - 1)).length) (g:=fun k=>(G8 (r::rs) ((k:Int) - 1)).length) (k0:=k) (fun q=>by
   unfold G8
   simp only [K29,K52]
   split
   ·rw [K07];omega
   ·exact Nat.le_refl _) (by
   unfold G8
   simp only [K29,K52]
   rw [hv,if_pos rfl,K07]
   exact Nat.le_refl _) hk
  rw [K07];omega
theorem Made16.few {x:Str} {r:List Str} {rows:List Row} (h:Made16 x r rows) (hn:r.length≤32) {L:Nat} (hx:(B8 x).length≤L) (hr:∀b∈r,(B8 b).length≤L):rows.length≤(r.length+1)*L:=by
 refine Nat.le_trans (H45 hn (List.all_eq_true.1 h.marks)) (F95 fun k hk=>?_)
 cases k with
 | zero=>rw [show ((0:Nat):Int) - 1 = -1 from rfl,h.res];exact hx
 | succ q =>
  rw [show ((q+1:Nat):Int) - 1=(q:Int) by omega,h.par q (by omega)]
  refine hr _ ?_
  rw [K09,K06 (by omega)]
  exact K17 _
end Go.AL
namespace Go.AL
open Go
theorem G44 (a cur:Str) (h:(10:UInt8)∉a) (hne:cur++a≠[]):F7 cur a=[cur++a]:=by
 induction a generalizing cur with
 | nil=>simp only [K27] at hne ⊢;exact C80 cur hne
 | cons c r ih =>
  simp only [K53,not_or] at h
  rw [U3,if_neg (fun e=>h.1 e.symm),ih _ h.2 (by simp)];simp
theorem F45 (a b cur:Str) (h:(10:UInt8)∉a):F7 cur (a++10::b)=(cur++a++[10])::F7 [] b:=by
 induction a generalizing cur with
 | nil=>simp [F7]
 | cons c r ih =>
  simp only [K53,not_or] at h
  rw [K40,U3,if_neg (fun e=>h.1 e.symm),ih _ h.2];simp
theorem D09:∀(l:List Str),X2 l=true→B8 l.flatten=l
 | [],_=>rfl
 | s :: r,h=>by
  rw [A67] at h
  simp only [K08,K36] at h
  obtain ⟨⟨h1,h2⟩,h3⟩:=h
  have ih:=D09 r h3
  unfold H7 at h1
  simp only [K08] at h1
  have hd:(10:UInt8)∉s.dropLast:=fun hm=>by have:=List.all_eq_true.1 h1.1 _ hm;simp at this
  have hne:s≠[]:=by simpa using h1.2
  have hs:=List.dropLast_concat_getLast hne
  unfold B8 at ih ⊢
  by_cases hl:s.getLast hne=10
  ·rw [hl] at hs
   rw [K18,←hs,show s.dropLast++[10]++r.flatten=s.dropLast++10::r.flatten by simp,F45 _ _ _ hd,ih];simp
  ·have he:ended s=false:=by
    unfold ended
    rw [List.getLast?_eq_some_getLast hne]
    simpa using hl
   rcases h2 with h2 | h2
   ·have hr:r=[]:=by simpa using h2
    subst hr
    have hm:(10:UInt8)∉s:=by
     rw [←hs]
     simp only [List.mem_append,K53,List.not_mem_nil,or_false,not_or]
     exact ⟨hd,fun e=>hl e.symm⟩
    simp only [K18,K43,K27]
    rw [G44 s [] hm (by simpa using hne)];simp
   ·rw [he] at h2;cases h2
theorem I15 {l:List Str}:Few (K3 l).1:=by
 unfold K3
 by_cases h:X2 l=false
 ·rw [if_pos h];exact D39 (by simp)
 ·rw [if_neg h]
  by_cases h2:l.flatten.length > 1048576∨l.length > 4096
  ·rw [if_pos h2];exact D39 (by simp)
  ·rw [if_neg h2]
   refine ⟨by dsimp only;omega,?_⟩
   dsimp only
   rw [D09 l (by simpa using h)];omega
end Go.AL
