/- Plain facts about data; no project text. -/
import Derived.Test.YtbiadkkamhpdnaaGreatDoorD
import Derived.Lib.Strings
import Derived.Lib.Bytealg
import Derived.Lib.Join
import Derived.Lib.ItoaNum
import Derived.Test.YtbiadkkamhpdnaaGreatDoorAn
set_option linter.unusedSimpArgs false
namespace Go.AL
open Go
theorem u8_lf (c:UInt8):((c.toNat:Int)=10)↔c=10:=by
 constructor
 ·intro h
  have:c.toNat=10:=by omega
  exact UInt8.toNat_inj.1 (by simpa using this)
 ·rintro rfl;rfl
def F4 (cur:Str):Str→List Str
 | []=>if cur=[] then [] else [cur]
 | c::r=>if c=10 then (cur++[c])::F4 [] r else F4 (cur++[c]) r
def B7 (b:Str):List Str:=F4 [] b
theorem A52 (cur:Str) (s:Str):(F4 cur s).length≤s.length+1:=by
 induction s generalizing cur with
 | nil=>unfold F4;split<;>simp
 | cons c r ih=>unfold F4;split<;>simp<;>(have:=ih [];have:=ih (cur++[c]);omega)
theorem B23 (s:Str):(F4 [] s).length≤s.length:=by
 have key:∀(s cur:Str),cur≠[]→(F4 cur s).length≤s.length+1:=fun s cur _=>A52 cur s
 induction s with
 | nil=>simp [F4]
 | cons c r ih=>unfold F4;split<;>simp<;>(have:=A52 ([]++[c]) r;simp at this;omega)
theorem Z7 (b:Str):(B7 b).length≤b.length:=B23 b
theorem j8 (cur r:Str) (c:UInt8):F4 cur (c::r)=if c=10 then (cur++[c])::F4 [] r else F4 (cur++[c]) r:=rfl
theorem F14 (cur:Str) (h:cur≠[]):F4 cur []=[cur]:=by simp [F4,h]
theorem or_pick {p q:Prop} [Decidable p] [Decidable q]:(if decide p=true then true else decide q)=decide (p∨q):=by by_cases p<;>simp [*]
theorem Q4 {p q:Prop} [Decidable p] [Decidable q]:(if decide p=true then decide q else false)=decide (p∧q):=by by_cases p<;>simp [*]
theorem y2 {α:Type} (l:List (List α)) (i:Nat) (h:i < l.length):(l.take (i+1)).flatten=(l.take i).flatten++l[i]:=by
 rw [List.take_add_one,I94 h,Option.toList_some,J14];simp
theorem A53 {α:Type} (l:List (List α)) (i:Nat):(l.take i).flatten.length≤l.flatten.length:=by
 conv=>rhs;rw [←J29 i l,J14,I93]
 omega
theorem G68 (i:Nat):((i:Int)+1).toNat=i+1:=by omega
theorem E57 {α:Type} (b:List α) (f i:Nat) (hf:f≤i) (hi:i < b.length):(b.drop f).take (i - f)++[b[i]]=(b.drop f).take (i+1 - f):=by
 rw [show i+1 - f=(i - f)+1 by omega,List.take_add_one,J31,show f+(i - f)=i by omega,I94 hi]
 rfl
def ended (s:Str):Bool:=s.getLast? == some 10
def H2:List Str→Str→Int→Int
 | [],_,_ => -1
 | x::r,s,i=>if x=s then i else H2 r s (i+1)
def H9 (s:Str):Bool:=s.dropLast.all (·≠10)&&s != []
def A81:List Str→Bool
 | []=>true
 | s::r=>H9 s&&(r.isEmpty||ended s)&&A81 r
def y3 (b:Str):Int:=if b.length > 1048576∨(B7 b).length > 4096 then 1 else 0
def J1 (out:List Str) (s:Str):List Str:=if s∈out then out else out++[s]
def H0 (files:List (List Str)):List Str:=files.flatten.foldl J1 []
def M3 (names:List Str) (file:List Str):List Int:=file.map (fun s=>H2 names s 0)
theorem C27 (out:List Str) (s:Str):(J1 out s).length≤out.length+1:=by unfold J1;split<;>simp
theorem B54 (l out:List Str):(l.foldl J1 out).length≤out.length+l.length:=by
 induction l generalizing out with
 | nil=>simp
 | cons s r ih=>have h1:=ih (J1 out s);have h2:=C27 out s;simp only [J19,I95];omega
theorem D49 (fs:List (List Str)):(H0 fs).length≤fs.flatten.length:=by have:=B54 fs.flatten [];simpa [H0] using this
end Go.AL
namespace Go.AL
open Go
def L8 (i j:Int):List Span→Int→Int→List Change
 | [],m,n=>if m > i∨n > j then [⟨i,m - i,j,n - j⟩] else []
 | x::r,m,n=>(if x.From > i∨x.To > j then [⟨i,x.From - i,j,x.To - j⟩] else [])++L8 (x.From+1) (x.To+1) r m n
def v8 (p:List Span) (m n:Int):List Change:=L8 0 0 p m n
theorem B38 (p:List Span) (i j m n:Int):(L8 i j p m n).length≤p.length+1:=by
 induction p generalizing i j with
 | nil=>unfold L8;split<;>simp
 | cons x r ih=>unfold L8;have:=ih (x.From+1) (x.To+1);split<;>simp<;>omega
def N8 (i j:Int) (n:Nat):List Span:=(List.range n).map fun (t:Nat)=>⟨i+(t:Int),j+(t:Int)⟩
theorem D50 (i j:Int) (n:Nat):(N8 i j n).length=n:=by simp [N8]
theorem A29 (i j:Int) (n:Nat):N8 i j (n+1)=⟨i,j⟩::N8 (i+1) (j+1) n:=by
 unfold N8
 rw [List.range_succ_eq_map,J01,J28]
 congr 1
 ·simp
 ·refine List.map_congr_left fun t _=>?_
  simp only [Function.comp,Span.mk.injEq]
  omega
def J2 (i j:Int):List Change→Int→List Span
 | [],m=>N8 i j (m - i).toNat
 | c::r,m=>N8 i j (c.Old - i).toNat++J2 (max i c.Old+c.OldLen) (j+(c.Old - i).toNat+c.NewLen) r m
def R5 (l:List Change) (m:Int):List Span:=J2 0 0 l m
def dist:List Int→List Int→Nat
 | [],b=>b.length
 | x::a,[]=>(x::a).length
 | x::a,y::b=>if x=y then dist a b else 1+min (dist a (y::b)) (dist (x::a) b)
theorem B87 (a:List Int):dist a []=a.length:=by cases a<;>simp [dist]
theorem F15 (a b:List Int):dist a b≤a.length+b.length:=by
 induction a generalizing b with
 | nil=>simp [dist]
 | cons x a iha =>
  induction b with
  | nil=>simp [dist]
  | cons y b ihb =>
   unfold dist
   split
   ·have:=iha b;simp;omega
   ·have:=iha (y::b);have:=ihb;simp only [I95] at *;omega
def F3 (i j:Int):List Int→List Int→List Span
 | [],_=>[]
 | _::_,[]=>[]
 | x::a,y::b=>if x=y then ⟨i,j⟩::F3 (i+1) (j+1) a b else if dist a (y::b)+1=dist (x::a) (y::b) then F3 (i+1) j a (y::b) else F3 i (j+1) (x::a) b
def K1 (a b:List Int):List Change:=v8 (F3 0 0 a b) a.length b.length
theorem H73 (a b:List Int) (i j:Nat) (hi:i < a.length) (hj:j < b.length) :
  dist (a.drop i) (b.drop j)=if a[i]=b[j] then dist (a.drop (i+1)) (b.drop (j+1)) else 1+min (dist (a.drop (i+1)) (b.drop j)) (dist (a.drop i) (b.drop (j+1))):=by
 rw [J00 hi,J00 hj]
 conv=>lhs;rw [dist]
theorem C60 (a b:List Int) (i j:Nat) (hi:i < a.length) (hj:j < b.length) (p q:Int) :
  F3 p q (a.drop i) (b.drop j)=if a[i]=b[j] then ⟨p,q⟩::F3 (p+1) (q+1) (a.drop (i+1)) (b.drop (j+1)) else
   if dist (a.drop (i+1)) (b.drop j)+1=dist (a.drop i) (b.drop j) then F3 (p+1) q (a.drop (i+1)) (b.drop j) else F3 p (q+1) (a.drop i) (b.drop (j+1)):=by
 rw [J00 hi,J00 hj]
 conv=>lhs;rw [F3]
theorem X0 (p q:Int) (b:List Int):F3 p q [] b=[]:=by simp [F3]
theorem d9 (p q:Int) (a:List Int):F3 p q a []=[]:=by cases a<;>simp [F3]
theorem A05 (p q:Int) (a b:List Int):(F3 p q a b).length≤a.length:=by
 induction a generalizing p q b with
 | nil=>simp [F3]
 | cons x a iha =>
  induction b generalizing p q with
  | nil=>simp [F3]
  | cons y b ihb =>
   unfold F3
   split
   ·have:=iha (p+1) (q+1) b;simp;omega
   ·split
    ·have:=iha (p+1) q (y::b);simp;omega
    ·exact ihb p (q+1)
universe u
theorem B13 {α:Type u} (n k:Nat) (f g:Nat→α) (v:α) (hv:k < n→g k=v) (h:∀q,q < n→q≠k→g q=f q):((List.range n).map f).set k v=(List.range n).map g:=by
 refine List.ext_getElem (by simp) fun q h1 h2=>?_
 have hq:q < n:=by simpa using h2
 rw [List.getElem_set]
 by_cases he:k=q
 ·subst he;simp [hv hq]
 ·rw [if_neg he];simp [h q hq (Ne.symm he)]
theorem C28 {α:Type u} (n k:Nat) (f:Nat→α) (h:k < n):((List.range n).map f)[k]?=some (f k):=by simp [h]
def G4 (l:List Merged):List Int:=l.map (·.Line)
theorem A30 (i j:Int):N8 i j 0=[]:=rfl
theorem F16 (i j:Int) (n:Nat):N8 i j (n+1)=N8 i j n++[⟨i+n,j+n⟩]:=by simp [N8,J32]
def Asc (m n:Int):Int→Int→List Span→Prop
 | i,j,[]=>i≤m∧j≤n
 | i,j,x::r=>i≤x.From∧j≤x.To∧Asc m n (x.From+1) (x.To+1) r
theorem Asc.le {m n:Int}:∀{p:List Span} {i j:Int},Asc m n i j p→i≤m∧j≤n
 | [],i,j,h=>h
 | x::r,i,j,h=>by have:=Asc.le h.2.2;have:=h.1;have:=h.2.1;omega
theorem Asc.weaken {m n:Int} {p:List Span} {i j i' j':Int} (h:Asc m n i j p) (hi:i'≤i) (hj:j'≤j):Asc m n i' j' p:=by
 cases p with
 | nil=>exact ⟨by have:=h.1;omega,by have:=h.2;omega⟩
 | cons x r=>exact ⟨by have:=h.1;omega,by have:=h.2.1;omega,h.2.2⟩
theorem S5 (a b:List Int):∀(p q:Int),Asc (p+a.length) (q+b.length) p q (F3 p q a b):=by
 induction a generalizing b with
 | nil=>intro p q;rw [X0];simp only [Asc,I97];omega
 | cons x a iha =>
  induction b with
  | nil=>intro p q;rw [d9];simp only [Asc,I97];omega
  | cons y b ihb =>
   intro p q
   rw [F3]
   split
   ·have:=iha b (p+1) (q+1)
    refine ⟨Int.le_refl _,Int.le_refl _,?_⟩
    simp only [I95]
    rwa [show p+((a.length+1:Nat):Int)=p+1+a.length by omega,show q+((b.length+1:Nat):Int)=q+1+b.length by omega]
   ·split
    ·have:=(iha (y::b) (p+1) q).weaken (i':=p) (j':=q) (by omega) (Int.le_refl _)
     rwa [show p+((x::a).length:Int)=p+1+a.length by simp;omega]
    ·have:=(ihb p (q+1)).weaken (i':=p) (j':=q) (Int.le_refl _) (by omega)
     rwa [show q+((y::b).length:Int)=q+1+b.length by simp;omega]
theorem Asc.made {m n:Int}:∀{p:List Span} {i j:Int},Asc m n i j p→∀c∈L8 i j p m n,i≤c.Old∧j≤c.New∧0≤c.OldLen∧0≤c.NewLen∧c.Old+c.OldLen≤m∧c.New+c.NewLen≤n
 | [],i,j,h,c,hc=>by
  unfold L8 at hc
  split at hc
  ·simp only [List.mem_singleton] at hc;subst hc
   have:=h.1;have:=h.2
   simp only;omega
  ·cases hc
 | x::r,i,j,h,c,hc=>by
  unfold L8 at hc
  obtain ⟨h1,h2,h3⟩:=h
  have h4:=h3.le
  rcases List.mem_append.1 hc with hc | hc
  ·split at hc
   ·simp only [List.mem_singleton] at hc;subst hc
    simp only;omega
   ·cases hc
  ·have:=Asc.made h3 c hc;omega
theorem D51 (i j m:Int) (l:List Change) (h:∀c∈l,i+1≤c.Old) (hm:l=[]→i+1≤m):J2 i j l m=⟨i,j⟩::J2 (i+1) (j+1) l m:=by
 cases l with
 | nil =>
  have:=hm rfl
  rw [J2,J2,show (m - i).toNat=(m - (i+1)).toNat+1 by omega,A29]
 | cons c r =>
  have:=h c (List.mem_cons_self ..)
  rw [J2,J2,show (c.Old - i).toNat=(c.Old - (i+1)).toNat+1 by omega,A29]
  rw [show max (i+1) c.Old=max i c.Old by omega,show (j+1+((c.Old - (i+1)).toNat:Int))=j+(((c.Old - (i+1)).toNat+1:Nat):Int) by omega]
  rfl
theorem B88 {m n:Int}:∀{p:List Span} {i j:Int},Asc m n i j p→J2 i j (L8 i j p m n) m=p
 | [],i,j,h=>by
  have h1:=h.1;have h2:=h.2
  unfold L8
  split
  ·rw [J2,J2,show (i - i).toNat=0 by omega,show (m - (max i i+(m - i))).toNat=0 by omega];rfl
  ·rw [J2,show (m - i).toNat=0 by omega];rfl
 | x::r,i,j,h=>by
  obtain ⟨h1,h2,h3⟩:=h
  have ih:=B88 h3
  have hm:=h3.le
  have hd:=D51 x.From x.To m (L8 (x.From+1) (x.To+1) r m n) (fun c hc=>(h3.made c hc).1) (fun _=>hm.1)
  rw [ih] at hd
  unfold L8
  split
  ·rw [List.singleton_append,J2,show (i - i).toNat=0 by omega,show max i i+(x.From - i)=x.From by omega,show j+((0:Nat):Int)+(x.To - j)=x.To by omega,hd];rfl
  ·have e1:i=x.From:=by omega
   have e2:j=x.To:=by omega
   rw [J23,e1,e2,hd]
theorem F17 (a b:List Int):R5 (K1 a b) a.length=F3 0 0 a b:=by
 have:=S5 a b 0 0
 rw [Int.zero_add,Int.zero_add] at this
 exact B88 this
theorem F18 (a b:List Int):∀c∈K1 a b,0≤c.Old∧0≤c.New∧0≤c.OldLen∧0≤c.NewLen∧c.Old+c.OldLen≤a.length∧c.New+c.NewLen≤b.length:=by
 have:=S5 a b 0 0
 rw [Int.zero_add,Int.zero_add] at this
 exact this.made
def G8 (p:Int):Int:=IntKind.u32.wrap (1*2 ^ (min (IntKind.u64.wrap p).toNat IntKind.u32.bits))
def I7 (a b:Int):Int:=IntKind.u32.wrap ((BitVec.ofInt IntKind.u32.bits a ||| BitVec.ofInt IntKind.u32.bits b).toNat:Int)
def S6 (l:List Merged) (list:List Int) (bit:Int) (i j:Nat):List Span→List Merged
 | []=>(l.drop i).take (l.length - i)++((list.drop j).take (list.length - j)).map fun v=>⟨v,bit⟩
 | x::r=>(l.drop i).take (x.From.toNat - i)++(((list.drop j).take (x.To.toNat - j)).map fun v=>⟨v,bit⟩)++((l[x.From.toNat]?.map fun y=>(⟨y.Line,I7 y.Parents bit⟩:Merged)).toList++S6 l list bit (x.From.toNat+1) (x.To.toNat+1) r)
def R6 (l:List Merged) (list:List Int) (p:Int):List Merged:=S6 l list (G8 p) 0 0 (F3 0 0 (G4 l) list)
theorem D52 {α:Type} (l:List α) (i t:Nat) (h:i+t < l.length):(l.drop i).take (t+1)=(l.drop i).take t++[l[i+t]]:=by
 rw [List.take_add_one,J31,I94 h];rfl
end Go.AL
namespace Go.AL
open Go
def T3 (m:Int) (c:Nat):Bool:=m / 2 ^ c % 2 == 1
def X9 (r:Row) (c:Int):Bool:=if c = -1 then !r.Lost else if c < -1∨32≤c then false else T3 r.Marks c.toNat == r.Lost
def K6 (rows:List Row) (c:Int):List Str:=(rows.filter (X9 · c)).map (·.Text)
def R0 (n:Nat) (r:Row):Bool:=r.Marks / 2 ^ n == 0&&!(r.Lost&&r.Marks == 0)
def N2 (rows:List Row) (n:Nat):Bool:=rows.all (R0 n)
def V6 (rows:List Row) (n:Nat):Bool:=rows.all (fun r=>H9 r.Text)&&(List.range (n+1)).all fun k=>A81 (K6 rows ((k:Int) - 1))
def H3 (t:Table):Int:=if t.Parents < 1∨32 < t.Parents then 2 else if N2 t.Rows t.Parents.toNat=false then 180 else if V6 t.Rows t.Parents.toNat=false then 4 else 0
theorem B89 (r:Row) (rs:List Row) (n:Nat):N2 (r::rs) n=(R0 n r&&N2 rs n):=rfl
def J6 (rows:List Row):Prop:=∀r∈rows,0≤r.Marks∧r.Marks < 4294967296
def T4 (rows:List Row):Nat:=(rows.map (·.Text)).flatten.length
theorem C29 (rows:List Row) (c:Int):(K6 rows c).length≤rows.length:=by unfold K6;rw [J13];exact List.length_filter_le _ _
theorem F87 (rows:List Row):∀r∈rows,r.Text.length≤T4 rows:=by
 intro r hr
 unfold T4
 exact (List.sublist_flatten_of_mem (List.mem_map_of_mem hr)).length_le
theorem F88 (x:Int) (h:0≤x∧x < 4294967296):IntKind.u32.wrap ((BitVec.ofInt IntKind.u32.bits x &&& BitVec.ofInt IntKind.u32.bits 1).toNat:Int)=x % 2:=by
 have h1:(BitVec.ofInt IntKind.u32.bits x &&& BitVec.ofInt IntKind.u32.bits 1).toNat=x.toNat % 2:=by
  rw [BitVec.toNat_and,BitVec.toNat_ofInt,BitVec.toNat_ofInt]
  have e1:(x % ((2 ^ IntKind.u32.bits:Nat):Int)).toNat=x.toNat:=by
   rw [show ((2 ^ IntKind.u32.bits:Nat):Int)=4294967296 by rfl];omega
  have e2:((1:Int) % ((2 ^ IntKind.u32.bits:Nat):Int)).toNat=1:=by rfl
  rw [e1,e2,Nat.and_one_is_mod]
 rw [h1]
 have h2:IntKind.u32.wrap ((x.toNat % 2:Nat):Int)=((x.toNat % 2:Nat):Int):=by
  simp [IntKind.wrap,IntKind.signed,IntKind.bits];omega
 rw [h2];omega
theorem G69 {n:Int} (h:0≤n∧n < 18446744073709551616):IntKind.u64.wrap n=n:=by simp [IntKind.wrap,IntKind.signed,IntKind.bits];omega
theorem H21 (m c:Int) (hc:0≤c∧c≤32):m.fdiv (2 ^ (min c.toNat IntKind.u32.bits))=m / 2 ^ c.toNat:=by
 rw [show min c.toNat IntKind.u32.bits=c.toNat from Nat.min_eq_left (by show c.toNat≤32;omega),Int.fdiv_eq_ediv_of_nonneg _ (Int.pow_nonneg (by decide))]
theorem shr_eq (m c:Int) (b:Nat) (hc:0≤c∧c≤b):m.fdiv (2 ^ (min c.toNat b))=m / 2 ^ c.toNat:=by
 rw [show min c.toNat b=c.toNat by omega,Int.fdiv_eq_ediv_of_nonneg _ (Int.pow_nonneg (by decide))]
end Go.AL
namespace Go.AL
open Go
theorem F19 (n:Int):0≤IntKind.u32.wrap n∧IntKind.u32.wrap n < 4294967296:=by simp [IntKind.wrap,IntKind.signed,IntKind.bits];omega
def Z8 (a b:Int):Int:=IntKind.u32.wrap ((BitVec.ofInt IntKind.u32.bits a &&& ~~~BitVec.ofInt IntKind.u32.bits b).toNat:Int)
def F7 (acc:List Merged) (p:Nat):List (List Int)→List Merged × Int
 | []=>(acc,0)
 | x::r=>if 4096 < acc.length∨4096 < x.length then ([],1) else F7 (R6 acc x p) (p+1) r
def E9 (lists:List (List Int)):List Merged × Int:=if 32 < lists.length then ([],1) else F7 [] 0 lists
theorem C61 (l:List Merged) (list:List Int) (bit:Int):∀(ps:List Span) (i j:Nat),i≤l.length→j≤list.length→Asc l.length list.length i j ps→(S6 l list bit i j ps).length≤(l.length - i)+(list.length - j)
 | [],i,j,hi,hj,_=>by simp [S6]
 | x::r,i,j,hi,hj,ha=>by
  obtain ⟨h1,h2,h3⟩:=ha
  have h4:=h3.le
  have e1:((x.From.toNat+1:Nat):Int)=x.From+1:=by omega
  have e2:((x.To.toNat+1:Nat):Int)=x.To+1:=by omega
  have ih:=C61 l list bit r (x.From.toNat+1) (x.To.toNat+1) (by omega) (by omega) (by rw [e1,e2];exact h3)
  have h5:((l[x.From.toNat]?.map fun y=>(⟨y.Line,I7 y.Parents bit⟩:Merged)).toList).length≤1:=by cases l[x.From.toNat]?<;>simp
  simp only [S6,I93,J13,J12,J15]
  omega
theorem y4 (l:List Merged) (list:List Int) (p:Int):(R6 l list p).length≤l.length+list.length:=by
 have hasc:=S5 (G4 l) list 0 0
 rw [Int.zero_add,Int.zero_add,show (G4 l).length=l.length by simp [G4]] at hasc
 have:=C61 l list (G8 p) (F3 0 0 (G4 l) list) 0 0 (Nat.zero_le _) (Nat.zero_le _) hasc
 simpa [R6] using this
theorem T8 {α:Type} {l:List α} {i n:Nat} {x:α} (h:x∈(l.drop i).take n):x∈l:=List.mem_of_mem_drop (List.mem_of_mem_take h)
theorem D53 (l:List Merged) (list:List Int) (bit:Int) (hb:0≤bit∧bit < 4294967296) (hl:∀m∈l,0≤m.Parents∧m.Parents < 4294967296) (Q:Int→Prop) (hq1:∀m∈l,Q m.Line) (hq2:∀v∈list,Q v) :
  ∀(ps:List Span) (i j:Nat),∀m∈S6 l list bit i j ps,(0≤m.Parents∧m.Parents < 4294967296)∧Q m.Line
 | [],i,j,m,hm=>by
  rcases List.mem_append.1 hm with h | h
  ·have:=T8 h;exact ⟨hl _ this,hq1 _ this⟩
  ·obtain ⟨v,hv,rfl⟩:=List.mem_map.1 h
   exact ⟨hb,hq2 _ (T8 hv)⟩
 | x :: r,i,j,m,hm=>by
  unfold S6 at hm
  rcases List.mem_append.1 hm with h | h
  ·rcases List.mem_append.1 h with h | h
   ·have:=T8 h;exact ⟨hl _ this,hq1 _ this⟩
   ·obtain ⟨v,hv,rfl⟩:=List.mem_map.1 h
    exact ⟨hb,hq2 _ (T8 hv)⟩
  ·rcases List.mem_append.1 h with h | h
   ·cases hx:l[x.From.toNat]? with
    | none=>simp [hx] at h
    | some y =>
     simp [hx] at h
     subst h
     exact ⟨F19 _,hq1 y (J10 hx)⟩
   ·exact D53 l list bit hb hl Q hq1 hq2 r _ _ m h
theorem y5 (Q:Int→Prop) (B:Nat):∀(ls:List (List Int)) (acc:List Merged) (p:Nat),(∀x∈ls,x.length≤B∧∀v∈x,Q v)→(∀m∈acc,(0≤m.Parents∧m.Parents < 4294967296)∧Q m.Line) →
  (F7 acc p ls).1.length≤acc.length+ls.length*B∧∀m∈(F7 acc p ls).1,(0≤m.Parents∧m.Parents < 4294967296)∧Q m.Line
 | [],acc,p,_,ha=>by simp only [F7];exact ⟨by simp,ha⟩
 | x::r,acc,p,hl,ha=>by
  unfold F7
  split
  ·exact ⟨by simp,by simp⟩
  ·have hx:=hl x (List.mem_cons_self ..)
   have hj:=y4 acc x p
   have hm:=D53 acc x (G8 p) (F19 _) (fun m hm=>(ha m hm).1) Q (fun m hm=>(ha m hm).2) hx.2 (F3 0 0 (G4 acc) x) 0 0
   have ih:=y5 Q B r (R6 acc x p) (p+1) (fun y hy=>hl y (List.mem_cons_of_mem _ hy)) hm
   refine ⟨?_,ih.2⟩
   have h1:=ih.1
   have h2:=hx.1
   simp only [I95,J11,Nat.one_mul]
   omega
theorem A06 (Q:Int→Prop) (B:Nat) (ls:List (List Int)) (h:∀x∈ls,x.length≤B∧∀v∈x,Q v):(E9 ls).1.length≤ls.length*B∧∀m∈(E9 ls).1,(0≤m.Parents∧m.Parents < 4294967296)∧Q m.Line:=by
 unfold E9
 split
 ·exact ⟨by simp,by simp⟩
 ·have:=y5 Q B ls [] 0 h (by simp)
  simpa using this
def O7 (p:Int) (ms:List Int) (x:Span):List Int:=ms.set x.To.toNat (Z8 (ms.getD x.To.toNat 0) (G8 p))
def L9 (p:Nat) (file:List Int) (g:Nat→List (List Int)) (c:Change):Nat→List (List Int):=fun k =>
 if k=c.New.toNat then (g k).set p ((file.drop c.Old.toNat).take ((c.Old+c.OldLen).toNat - c.Old.toNat)) else g k
abbrev Loom:=List Int × (Nat→List (List Int))
def K2 (ids:List (List Int)) (s:Loom) (p:Nat):Loom :=
 let file:=ids.getD (p+1) []
 let sc:=K1 file (ids.getD 0 [])
 ((R5 sc file.length).foldl (O7 p) (s.1.map (I7 · (G8 p))),sc.foldl (L9 p file) s.2)
def q8 (lines n:Nat):Loom:=(List.replicate lines 0,fun _=>List.replicate n [])
def M1 (ids:List (List Int)) (lines n p:Nat):Loom:=(List.range p).foldl (K2 ids) (q8 lines n)
def N3 (names:List Str) (file:List Str) (s:Loom) (k:Nat):List Row :=
 (E9 (s.2 k)).1.map (fun m=>(⟨true,m.Parents,names.getD m.Line.toNat []⟩:Row))++(if k < file.length then [⟨false,s.1.getD k 0,file.getD k []⟩] else [])
def S7 (names:List Str) (file:List Str) (s:Loom) (k:Nat):List Row:=((List.range k).map (N3 names file s)).flatten
def D9 (result:Str) (parents:List Str):Table × Int :=
 if parents.length < 1∨32 < parents.length then (⟨0,[]⟩,2) else
 let fs:=B7 result::parents.map B7
 let names:=H0 fs
 let s:=M1 (fs.map (M3 names)) (B7 result).length parents.length parents.length
 if ∃k,k < (B7 result).length+1∧(E9 (s.2 k)).2≠0 then (⟨0,[]⟩,1) else (⟨parents.length,S7 names (B7 result) s ((B7 result).length+1)⟩,0)
theorem l9 (names file:List Str) (s:Loom) (k:Nat):S7 names file s (k+1)=S7 names file s k++N3 names file s k:=by
 unfold S7;rw [J32,J08,J14];simp
structure LoomOk (Q:Int→Prop) (B lines n:Nat) (s:Loom):Prop where
 len:s.1.length=lines
 marks:∀m∈s.1,0≤m∧m < 4294967296
 gaps:∀k,(s.2 k).length=n∧∀x∈s.2 k,x.length≤B∧∀v∈x,Q v
theorem I30 (Q:Int→Prop) (B lines n:Nat):LoomOk Q B lines n (q8 lines n) where
 len:=by simp [q8]
 marks:=fun m hm=>by have:=List.eq_of_mem_replicate hm;subst this;decide
 gaps:=fun k=>⟨by simp [q8],fun x hx=>by have:=List.eq_of_mem_replicate hx;subst this;simp⟩
theorem H74 {Q:Int→Prop} {B n p:Nat} {file:List Int} (hf:file.length≤B∧∀v∈file,Q v) {g:Nat→List (List Int)} (hg:∀k,(g k).length=n∧∀x∈g k,x.length≤B∧∀v∈x,Q v) (c:Change) :
  ∀k,(L9 p file g c k).length=n∧∀x∈L9 p file g c k,x.length≤B∧∀v∈x,Q v:=by
 intro k
 unfold L9
 split
 ·refine ⟨by rw [J45];exact (hg k).1,fun x hx=>?_⟩
  rcases List.mem_or_eq_of_mem_set hx with h | rfl
  ·exact (hg k).2 x h
  ·exact ⟨by simp;omega,fun v hv=>hf.2 v (T8 hv)⟩
 ·exact hg k
theorem B90 {Q:Int→Prop} {B n p:Nat} {file:List Int} (hf:file.length≤B∧∀v∈file,Q v):∀(sc:List Change) {g:Nat→List (List Int)},(∀k,(g k).length=n∧∀x∈g k,x.length≤B∧∀v∈x,Q v) →
  ∀k,(sc.foldl (L9 p file) g k).length=n∧∀x∈sc.foldl (L9 p file) g k,x.length≤B∧∀v∈x,Q v
 | [],_,hg=>hg
 | c::r,_,hg=>B90 hf r (H74 hf hg c)
theorem F89 {p:Int} {ms:List Int} {x:Span} (h:∀m∈ms,0≤m∧m < 4294967296):(O7 p ms x).length=ms.length∧∀m∈O7 p ms x,0≤m∧m < 4294967296:=by
 refine ⟨by simp [O7],fun m hm=>?_⟩
 rcases List.mem_or_eq_of_mem_set hm with h' | rfl
 ·exact h m h'
 ·exact F19 _
theorem A82 {p:Int}:∀(ps:List Span) {ms:List Int},(∀m∈ms,0≤m∧m < 4294967296)→(ps.foldl (O7 p) ms).length=ms.length∧∀m∈ps.foldl (O7 p) ms,0≤m∧m < 4294967296
 | [],ms,h=>⟨rfl,h⟩
 | x::r,ms,h=>by
  have h1:=F89 (p:=p) (x:=x) h
  have h2:=A82 (p:=p) r h1.2
  exact ⟨h2.1.trans h1.1,h2.2⟩
theorem E22 {Q:Int→Prop} {B lines n:Nat} {ids:List (List Int)} (hids:∀x∈ids,x.length≤B∧∀v∈x,Q v) {s:Loom} (h:LoomOk Q B lines n s) (p:Nat):LoomOk Q B lines n (K2 ids s p):=by
 have hf:(ids.getD (p+1) []).length≤B∧∀v∈ids.getD (p+1) [],Q v:=by
  rw [I98]
  cases hx:ids[p+1]? with
  | none=>simp
  | some x=>exact hids x (J10 hx)
 have hr:∀m∈s.1.map (I7 · (G8 p)),0≤m∧m < 4294967296:=fun m hm=>by
  obtain ⟨v,_,rfl⟩:=List.mem_map.1 hm;exact F19 _
 have hc:=A82 (p:=p) (R5 (K1 (ids.getD (p+1) []) (ids.getD 0 [])) (ids.getD (p+1) []).length) hr
 exact { len:=by rw [K2];simp only;rw [hc.1,J13];exact h.len,marks:=hc.2,gaps:=B90 hf _ h.gaps }
theorem A83 (ids:List (List Int)) (lines n p:Nat):M1 ids lines n (p+1)=K2 ids (M1 ids lines n p) p:=by
 unfold M1;rw [J32,J34];rfl
theorem A14 {Q:Int→Prop} {B lines n:Nat} {ids:List (List Int)} (hids:∀x∈ids,x.length≤B∧∀v∈x,Q v):∀p,LoomOk Q B lines n (M1 ids lines n p)
 | 0=>I30 Q B lines n
 | p+1=>by rw [A83];exact E22 hids (A14 hids p) p
theorem A31 (l:List Str) (s:Str):∀k:Int,0≤k→s∈l→k≤H2 l s k∧H2 l s k < k+l.length:=by
 induction l with
 | nil=>intro k _ h;cases h
 | cons x r ih =>
  intro k hk h
  unfold H2
  by_cases hx:x=s
  ·rw [if_pos hx];simp;omega
  ·rw [if_neg hx]
   have:=ih (k+1) (by omega) (by rcases List.mem_cons.1 h with rfl | h;exact absurd rfl hx;exact h)
   simp only [I95];omega
theorem C86 (l:List Str):∀(out:List Str) (s:Str),s∈out∨s∈l→s∈l.foldl J1 out:=by
 induction l with
 | nil=>intro out s h;rcases h with h | h;exact h;cases h
 | cons x r ih =>
  intro out s h
  apply ih
  rcases h with h | h
  ·left;unfold J1;split;exact h;exact List.mem_append_left _ h
  ·rcases List.mem_cons.1 h with rfl | h
   ·left;unfold J1;split;assumption;simp
   ·exact .inr h
theorem A84 (fs:List (List Str)) (s:Str) (f:List Str) (hf:f∈fs) (hs:s∈f):s∈H0 fs:=C86 _ _ _ (.inr (List.mem_flatten.2 ⟨f,hf,hs⟩))
theorem ids_in (fs:List (List Str)):∀x∈fs.map (M3 (H0 fs)),∀v∈x,0≤v∧v < (H0 fs).length:=by
 intro x hx v hv
 obtain ⟨f,hf,rfl⟩:=List.mem_map.1 hx
 obtain ⟨s,hs,rfl⟩:=List.mem_map.1 hv
 have:=A31 (H0 fs) s 0 (Int.le_refl _) (A84 fs s f hf hs)
 omega
theorem C87 (l:List Str):∀(out:List Str) (s:Str),s∈l.foldl J1 out→s∈out∨s∈l:=by
 induction l with
 | nil=>intro out s h;exact .inl h
 | cons x r ih =>
  intro out s h
  rcases ih _ _ h with h | h
  ·unfold J1 at h
   split at h
   ·exact .inl h
   ·rcases List.mem_append.1 h with h | h
    ·exact .inl h
    ·simp at h;subst h;exact .inr (by simp)
  ·exact .inr (List.mem_cons_of_mem _ h)
theorem C62 (fs:List (List Str)) (s:Str) (h:s∈H0 fs):s∈fs.flatten:=by
 rcases C87 _ _ _ h with h | h
 ·cases h
 ·exact h
end Go.AL
namespace Go.AL
open Go
theorem B91 (s:Str):Lib.hasSuffix s [10]=ended s:=by
 unfold Lib.hasSuffix ended
 rw [Bool.eq_iff_iff,List.isSuffixOf_iff_suffix,beq_iff_eq]
 constructor
 ·rintro ⟨t,rfl⟩;simp
 ·intro h
  obtain ⟨hne,h2⟩:=List.getLast?_eq_some_iff.1 h
  exact ⟨hne,h2.symm⟩
def A85 (s:Str):Str:=if ended s then s.dropLast else s
theorem E23 (s:Str):Lib.trimSuffix s [10]=A85 s:=by
 unfold Lib.trimSuffix A85
 rw [B91,List.dropLast_eq_take];rfl
theorem n8 (c:UInt8):∀l:Str,(c∉l∧Lib.indexByte l c = -1)∨∃a b,l=a++c::b∧c∉a∧Lib.indexByte l c=a.length
 | []=>.inl ⟨by simp,rfl⟩
 | x::l=>by
  unfold Lib.indexByte
  by_cases hx:x=c
  ·exact .inr ⟨[],l,by rw [hx];rfl,by simp,by simp [hx]⟩
  ·rcases n8 c l with ⟨h1,h2⟩ | ⟨a,b,h1,h2,h3⟩
   ·exact .inl ⟨by simp [h1,Ne.symm hx],by simp [hx,h2]⟩
   ·refine .inr ⟨x::a,b,by rw [h1];rfl,by simp [h2,Ne.symm hx],?_⟩
    have h4:¬((a.length:Int) = -1):=by omega
    simp [hx,h3,h4]
theorem E24 (c:UInt8) (l:Str):0≤Lib.indexByte l c↔c∈l:=by
 rcases n8 c l with ⟨h1,h2⟩ | ⟨a,b,h1,h2,h3⟩
 ·rw [h2];simp [h1]
 ·rw [h3,h1];simp
theorem D54 (s:Str):H9 s=true↔s≠[]∧10∉s.dropLast:=by
 unfold H9
 rw [I96,List.all_eq_true]
 constructor
 ·rintro ⟨h1,h2⟩
  exact ⟨by simpa using h2,fun h=>by have:=h1 10 h;simp at this⟩
 ·rintro ⟨h1,h2⟩
  exact ⟨fun x hx=>by simpa using fun e:x=10=>h2 (e ▸ hx),by simpa using h1⟩
theorem I31 (s:Str):10∈A85 s↔10∈s.dropLast:=by
 unfold A85
 split
 ·exact Iff.rfl
 ·rename_i h
  by_cases hs:s=[]
  ·subst hs;simp
  ·constructor
   ·intro h2
    have e:=(List.dropLast_concat_getLast hs).symm
    rw [e] at h2
    rcases List.mem_append.1 h2 with h3 | h3
    ·exact h3
    ·exfalso
     refine h ?_
     unfold ended
     rw [List.getLast?_eq_some_getLast hs]
     simp at h3;simp [←h3]
   ·exact fun h2=>List.dropLast_subset s h2
theorem H75 (s:Str):(if decide (s≠[])=true then !decide (0≤Lib.indexByte (A85 s) 10) else false)=H9 s:=by
 rw [Bool.eq_iff_iff,D54]
 have h:=I31 s
 have h2:=E24 10 (A85 s)
 by_cases hs:s=[]
 ·simp [hs]
 ·simp [hs,h2,h]
theorem C63 (s:Str) (r:List Str):A81 (s::r)=(H9 s&&(r.isEmpty||ended s)&&A81 r):=rfl
def F90 (a b:Int):Int:=IntKind.u32.wrap ((BitVec.ofInt IntKind.u32.bits a &&& BitVec.ofInt IntKind.u32.bits b).toNat:Int)
def not32 (a:Int):Int:=IntKind.u32.wrap ((BitVec.ofInt IntKind.u32.bits IntKind.u32.max ^^^ BitVec.ofInt IntKind.u32.bits a).toNat:Int)
theorem g9 (n c:Nat):T3 (n:Int) c=n.testBit c:=by
 unfold T3
 rw [Nat.testBit_eq_decide_div_mod_eq]
 have:((n:Int) / 2 ^ c % 2 == 1)=decide (n / 2 ^ c % 2=1):=by
  rw [Bool.eq_iff_iff,beq_iff_eq,decide_eq_true_iff]
  have e:(n:Int) / 2 ^ c % 2=((n / 2 ^ c % 2:Nat):Int):=by simp
  rw [e];omega
 exact this
theorem y6 (n:Nat) (h:n < 4294967296):IntKind.u32.wrap (n:Int)=n:=by simp [IntKind.wrap,IntKind.signed,IntKind.bits];omega
theorem C30 (n:Nat):BitVec.ofInt IntKind.u32.bits (n:Int)=BitVec.ofNat 32 n:=BitVec.ofInt_natCast 32 n
theorem H76 (n m:Nat) (hn:n < 4294967296) (hm:m < 4294967296):F90 n m=((n &&& m:Nat):Int):=by
 unfold F90
 rw [C30,C30]
 have e:(BitVec.ofNat 32 n &&& BitVec.ofNat 32 m).toNat=n &&& m:=by
  rw [BitVec.toNat_and,BitVec.toNat_ofNat,BitVec.toNat_ofNat,Nat.mod_eq_of_lt (by omega),Nat.mod_eq_of_lt (by omega)]
 have h2:n &&& m < 2 ^ 32:=Nat.and_lt_two_pow n (by omega)
 show IntKind.u32.wrap ((BitVec.ofNat 32 n &&& BitVec.ofNat 32 m).toNat:Int)=_
 rw [e,y6 _ (by omega)]
theorem A86 (n m:Nat) (hn:n < 4294967296) (hm:m < 4294967296):I7 n m=((n ||| m:Nat):Int)∧n ||| m < 4294967296:=by
 unfold I7
 rw [C30,C30]
 have e:(BitVec.ofNat 32 n ||| BitVec.ofNat 32 m).toNat=n ||| m:=by
  rw [BitVec.toNat_or,BitVec.toNat_ofNat,BitVec.toNat_ofNat,Nat.mod_eq_of_lt (by omega),Nat.mod_eq_of_lt (by omega)]
 have h2:n ||| m < 2 ^ 32:=Nat.or_lt_two_pow (by omega) (by omega)
 refine ⟨?_,by omega⟩
 show IntKind.u32.wrap ((BitVec.ofNat 32 n ||| BitVec.ofNat 32 m).toNat:Int)=_
 rw [e,y6 _ (by omega)]
theorem H77 (n:Nat) (hn:n < 4294967296):not32 n=((4294967295 ^^^ n:Nat):Int)∧4294967295 ^^^ n < 4294967296:=by
 unfold not32
 rw [C30,show IntKind.u32.max=((4294967295:Nat):Int) from rfl,C30]
 have e:(BitVec.ofNat 32 4294967295 ^^^ BitVec.ofNat 32 n).toNat=4294967295 ^^^ n:=by
  rw [BitVec.toNat_xor,BitVec.toNat_ofNat,BitVec.toNat_ofNat,Nat.mod_eq_of_lt (by omega),Nat.mod_eq_of_lt (by omega)]
 have h2:4294967295 ^^^ n < 2 ^ 32:=Nat.xor_lt_two_pow (by omega) (by omega)
 refine ⟨?_,by omega⟩
 show IntKind.u32.wrap ((BitVec.ofNat 32 4294967295 ^^^ BitVec.ofNat 32 n).toNat:Int)=_
 rw [e,y6 _ (by omega)]
theorem I32 (c:Nat) (h:c < 32):(4294967295:Nat).testBit c=true:=by
 have:(4294967295:Nat)=2 ^ 32 - 1:=rfl
 rw [this,Nat.testBit_two_pow_sub_one];simpa using h
def E25 (r:Row):Int:=if r.Lost then r.Marks else not32 r.Marks
def B39 (res:Bool) (par:Int) (r:Row):Bool:=decide (F90 par (E25 r)=0)&&(r.Lost||!res)
def A87 (res:Bool) (r:Row):Bool:=if ended r.Text then res else res||!r.Lost
def A88 (par:Int) (r:Row):Int:=if ended r.Text then par else I7 par (E25 r)
def N9:Bool→Int→List Row→Bool
 | _,_,[]=>true
 | res,par,r::rs=>H9 r.Text&&B39 res par r&&N9 (A87 res r) (A88 par r) rs
theorem F91 (r:Row) (hr:0≤r.Marks∧r.Marks < 4294967296):∃m:Nat,m < 4294967296∧E25 r=m∧∀c,c < 32→m.testBit c=X9 r c:=by
 obtain ⟨k,hk⟩:∃k:Nat,r.Marks=k:=⟨r.Marks.toNat,by omega⟩
 have hv:∀c:Nat,c < 32→X9 r c=(k.testBit c == r.Lost):=by
  intro c hc
  rw [X9,if_neg (by omega),if_neg (by omega),hk,I99,g9]
 unfold E25
 cases hl:r.Lost
 ·have:=H77 k (by omega)
  refine ⟨4294967295 ^^^ k,this.2,by rw [if_neg (by simp),hk];exact this.1,fun c hc=>?_⟩
  rw [hv c hc,hl,Nat.testBit_xor,I32 c hc]
  cases k.testBit c<;>rfl
 ·refine ⟨k,by omega,by rw [if_pos rfl];exact hk,fun c hc=>?_⟩
  rw [hv c hc,hl]
  cases k.testBit c<;>rfl
theorem A32 (r:Row):X9 r (-1)=!r.Lost:=by rw [X9,if_pos rfl]
def X1:Bool→List Str→Bool
 | _,[]=>true
 | b,s::r=>!b&&H9 s&&X1 (!ended s) r
theorem F20 (l:List Str):X1 true l=l.isEmpty:=by cases l<;>simp [X1]
theorem F92 (l:List Str):A81 l=X1 false l:=by
 induction l with
 | nil=>rfl
 | cons s r ih =>
  rw [C63,ih,X1]
  cases he:ended s
  ·rw [show (!false)=true from rfl,F20]
   cases r<;>simp [X1]
  ·simp
structure EndsAt (res:Bool) (par:Int) (bad:Int→Bool):Prop where
 res:res=bad (-1)
 par:∃p:Nat,p < 4294967296∧par=p∧∀c:Nat,c < 32→p.testBit c=bad c
theorem I33 (n m:Nat) (hm:m < 4294967296):n &&& m=0↔∀c,c < 32→m.testBit c=true→n.testBit c=false:=by
 constructor
 ·intro h c hc hm1
  have:(n &&& m).testBit c=false:=by rw [h];simp
  rw [Nat.testBit_and,hm1] at this
  simpa using this
 ·intro h
  refine Nat.eq_of_testBit_eq fun c=>?_
  rw [Nat.testBit_and,Nat.zero_testBit]
  by_cases hc:c < 32
  ·cases hm1:m.testBit c
   ·simp
   ·rw [h c hc hm1];rfl
  ·have:m.testBit c=false:=Nat.testBit_lt_two_pow (Nat.lt_of_lt_of_le (by omega:m < 2 ^ 32) (Nat.pow_le_pow_right (by omega) (by omega)))
   rw [this];simp
theorem H78 {res:Bool} {par:Int} {bad:Int→Bool} (h:EndsAt res par bad) (r:Row) (hr:0≤r.Marks∧r.Marks < 4294967296):B39 res par r=true↔∀c:Int,-1≤c→c < 32→X9 r c=true→bad c=false:=by
 obtain ⟨m,hm,he,hb⟩:=F91 r hr
 obtain ⟨p,hp,hpe,hpb⟩:=h.par
 unfold B39
 rw [he,hpe,H76 p m hp hm,I96,decide_eq_true_iff,show (((p &&& m:Nat):Int)=0)↔p &&& m=0 by omega,I33 p m hm]
 constructor
 ·rintro ⟨h1,h2⟩ c hc1 hc2 hv
  by_cases hc:c = -1
  ·subst hc
   rw [A32] at hv
   rw [←h.res]
   simpa [show r.Lost=false by simpa using hv] using h2
  ·obtain ⟨k,rfl⟩:∃k:Nat,c=k:=⟨c.toNat,by omega⟩
   rw [←hpb k (by omega)]
   exact h1 k (by omega) (by rw [hb k (by omega)];exact hv)
 ·intro h1
  refine ⟨fun c hc hm1=>?_,?_⟩
  ·rw [hpb c hc]
   exact h1 c (by omega) (by omega) (by rw [←hb c hc];exact hm1)
  ·cases hl:r.Lost
   ·have:=h1 (-1) (by omega) (by omega) (by rw [A32,hl];rfl)
    rw [h.res,this];rfl
   ·rfl
theorem H79 {res:Bool} {par:Int} {bad:Int→Bool} (h:EndsAt res par bad) (r:Row) (hr:0≤r.Marks∧r.Marks < 4294967296):EndsAt (A87 res r) (A88 par r) (fun c=>bad c||(X9 r c&&!ended r.Text)):=by
 obtain ⟨m,hm,he,hb⟩:=F91 r hr
 obtain ⟨p,hp,hpe,hpb⟩:=h.par
 unfold A87 A88
 cases hen:ended r.Text
 ·have ho:=A86 p m hp hm
  refine ⟨?_,p ||| m,ho.2,?_,fun c hc=>?_⟩
  ·rw [if_neg (by simp),h.res,A32];simp
  ·rw [if_neg (by simp),he,hpe];exact ho.1
  ·rw [Nat.testBit_or,hpb c hc,hb c hc];simp
 ·refine ⟨?_,p,hp,?_,fun c hc=>?_⟩
  ·rw [if_pos rfl,h.res];simp
  ·rw [if_pos rfl];exact hpe
  ·rw [hpb c hc];simp
theorem B55 (r:Row) (rs:List Row) (c:Int):K6 (r::rs) c=if X9 r c then r.Text::K6 rs c else K6 rs c:=by
 unfold K6
 cases hv:X9 r c<;>simp [hv]
theorem D55:∀(rows:List Row) (res:Bool) (par:Int) (bad:Int→Bool),EndsAt res par bad→J6 rows→(N9 res par rows=true↔(∀r∈rows,H9 r.Text=true)∧∀c:Int,-1≤c→c < 32→X1 (bad c) (K6 rows c)=true)
 | [],res,par,bad,_,_=>by simp [N9,K6,X1]
 | r :: rs,res,par,bad,h,hr=>by
  have hr1:=hr r (by simp)
  have ih:=D55 rs _ _ _ (H79 h r hr1) (fun x hx=>hr x (by simp [hx]))
  rw [N9,I96,I96,H78 h r hr1,ih]
  constructor
  ·rintro ⟨⟨h1,h2⟩,h3,h4⟩
   refine ⟨fun x hx=>?_,fun c hc1 hc2=>?_⟩
   ·rcases List.mem_cons.1 hx with rfl | hx
    ·exact h1
    ·exact h3 x hx
   ·have h5:=h4 c hc1 hc2
    rw [B55]
    cases hv:X9 r c
    ·rw [if_neg (by simp)];simpa [hv] using h5
    ·rw [if_pos rfl,X1,h2 c hc1 hc2 hv,h1]
     rw [h2 c hc1 hc2 hv,hv] at h5
     simpa using h5
  ·rintro ⟨h1,h2⟩
   refine ⟨⟨h1 r (by simp),fun c hc1 hc2 hv=>?_⟩,fun x hx=>h1 x (by simp [hx]),fun c hc1 hc2=>?_⟩
   ·have h3:=h2 c hc1 hc2
    rw [B55,hv,if_pos rfl,X1] at h3
    simp only [I96,Bool.not_eq_true'] at h3
    exact h3.1.1
   ·have h3:=h2 c hc1 hc2
    rw [B55] at h3
    cases hv:X9 r c
    ·rw [hv,if_neg (by simp)] at h3;simpa using h3
    ·rw [hv,if_pos rfl,X1] at h3
     simp only [I96,Bool.not_eq_true'] at h3
     rw [h3.1.1];simpa using h3.2
theorem ends0:EndsAt false 0 (fun _=>false):=⟨rfl,0,by omega,rfl,fun c _=>by simp⟩
theorem F21 (m:Int) (n c:Nat) (h0:0≤m) (h:m / 2 ^ n=0) (hc:n≤c):T3 m c=false:=by
 obtain ⟨k,rfl⟩:∃k:Nat,m=k:=⟨m.toNat,by omega⟩
 rw [g9]
 have h1:(k:Int) / 2 ^ n=((k / 2 ^ n:Nat):Int):=by simp
 rw [h1] at h
 have h2:k / 2 ^ n=0:=by omega
 have h3:k < 2 ^ n:=by
  rcases Nat.div_eq_zero_iff.1 h2 with h3 | h3
  ·have:=Nat.two_pow_pos n;omega
  ·exact h3
 exact Nat.testBit_lt_two_pow (Nat.lt_of_lt_of_le h3 (Nat.pow_le_pow_right (by omega) hc))
theorem F22 (rows:List Row) (n:Nat) (hm:N2 rows n=true) (hr:J6 rows) (c:Int) (h1:(n:Int)≤c) (h2:c < 32):K6 rows c=K6 rows (-1):=by
 unfold K6
 have:rows.filter (X9 · c)=rows.filter (X9 · (-1)):=by
  refine List.filter_congr fun r hmem=>?_
  have h3:R0 n r=true:=List.all_eq_true.1 hm r hmem
  unfold R0 at h3
  simp only [I96,beq_iff_eq] at h3
  have h4:=F21 r.Marks n c.toNat (hr r hmem).1 h3.1 (by omega)
  rw [A32,X9,if_neg (by omega),if_neg (by omega),h4]
  cases r.Lost<;>rfl
 rw [this]
theorem D56 (rows:List Row) (n:Nat) (hn:n≤32) (hm:N2 rows n=true) (hr:J6 rows):N9 false 0 rows=V6 rows n:=by
 rw [Bool.eq_iff_iff,D55 rows false 0 _ ends0 hr,V6,I96,List.all_eq_true,List.all_eq_true]
 refine and_congr Iff.rfl ?_
 constructor
 ·intro h k hk
  have hk:=List.mem_range.1 hk
  rw [F92]
  exact h _ (by omega) (by omega)
 ·intro h c hc1 hc2
  have key:∀c:Int,-1≤c→c < n→X1 false (K6 rows c)=true:=by
   intro c h1 h2
   have:=h (c+1).toNat (List.mem_range.2 (by omega))
   rw [show (((c+1).toNat:Nat):Int) - 1=c by omega,F92] at this
   exact this
  by_cases hcn:c < n
  ·exact key c hc1 hcn
  ·rw [F22 rows n hm hr c (by omega) hc2]
   exact key (-1) (by omega) (by omega)
end Go.AL
namespace Go.AL
open Go
def C31 (c:UInt8):Bool:=decide (33≤c.toNat∧c.toNat≤126∧c.toNat≠34∧c.toNat≠92)
def digs8:Str:=[48,49,50,51,52,53,54,55]
def F93 (c:UInt8):Str:=(digs8.drop (c.toNat / 64)).take 1++(digs8.drop (c.toNat / 8 % 8)).take 1++(digs8.drop (c.toNat % 8)).take 1
def w7 (c:UInt8):Str:=if c.toNat=34∨c.toNat=92 then [92,c] else if c.toNat=10 then [92,110] else if c.toNat=9 then [92,116] else if c.toNat < 32∨126 < c.toNat then 92::F93 c else [c]
def Q5 (s:Str):Str:=if s≠[]∧s.all C31=true then s else 34::((s.map w7).flatten++[34])
theorem H80 (c:UInt8):(F93 c).length≤3:=by unfold F93;simp only [I93,J12];omega
theorem E58 (c:UInt8):(w7 c).length≤4:=by
 have:=H80 c
 unfold w7;split
 ·simp
 ·split
  ·simp
  ·split
   ·simp
   ·split
    ·simp only [I95];omega
    ·simp
theorem B92 (s:Str):((s.map w7).flatten).length≤4*s.length:=by
 induction s with
 | nil=>simp
 | cons c r ih=>have:=E58 c;simp only [J01,J05,I93,I95];omega
theorem F94 (s:Str):(Q5 s).length≤4*s.length+2:=by
 unfold Q5;have:=B92 s
 split
 ·omega
 ·simp only [I95,I93,I97];omega
def V8 (n:Int):Str:=if n < 0∨2147483647 < n then [] else Lib.itoa n
def Q6 (a n:Int):Str:=if a < 0∨n < 0∨2147483647 < a∨2147483647 - a < n then [] else if n=0 then V8 a++[44,48] else if n=1 then V8 (a+1) else V8 (a+1)++[44]++V8 n
theorem B40:∀(k u:Nat),u < 10 ^ (k+1)→(Lib.decDigits u).length≤k+1
 | 0,u,h=>by rw [Lib.decDigits,dif_pos (by omega)];simp
 | k+1,u,h=>by
  rw [Lib.decDigits]
  split
  ·simp
  ·have:=B40 k (u / 10) (by rw [Nat.div_lt_iff_lt_mul (by omega)];rw [Nat.pow_succ] at h;omega)
   simp only [I93,I95,I97];omega
theorem i6 (n:Int):(V8 n).length≤10:=by
 unfold V8;split
 ·simp
 ·unfold Lib.itoa
  rw [if_neg (by omega)]
  exact B40 9 n.toNat (by omega)
theorem A89 (a n:Int):(Q6 a n).length≤21:=by
 have:=i6 a;have:=i6 (a+1);have:=i6 n
 unfold Q6
 split
 ·simp
 ·split
  ·simp only [I93,I95,I97];omega
  ·split
   ·omega
   ·simp only [I93,I95,I97];omega
theorem dig8 (k:Nat) (h:k < 8):(digs8.drop k).take 1=[UInt8.ofNat (48+k)]:=by
 have:∀k:Fin 8,(digs8.drop k.1).take 1=[UInt8.ofNat (48+k.1)]:=by decide
 exact this ⟨k,h⟩
theorem C64 (c:UInt8):F93 c=[UInt8.ofNat (48+c.toNat / 64),UInt8.ofNat (48+c.toNat / 8 % 8),UInt8.ofNat (48+c.toNat % 8)]:=by
 have:=c.toNat_lt
 unfold F93
 rw [dig8 _ (by omega),dig8 _ (by omega),dig8 _ (by omega)];rfl
def escs (s:Str) (i:Nat):Str:=((s.take i).map w7).flatten
theorem H81 (s:Str) (i:Nat) (h:i < s.length):escs s (i+1)=escs s i++w7 s[i]:=by
 unfold escs;rw [J02 h,J08,J14];simp only [J01,J36,J05,J42,J17]
theorem I34 (s:Str) (i:Nat) (h:i≤s.length):(escs s i).length≤4*i:=by
 have:=B92 (s.take i);unfold escs;rw [J12] at this;omega
def plains (s:Str) (i:Nat):Bool:=decide (s≠[])&&(s.take i).all C31
theorem F95 (s:Str):plains s 0=decide (s≠[]):=by simp [plains]
theorem F96 (s:Str) (i:Nat) (h:i < s.length):plains s (i+1)=(plains s i&&C31 s[i]):=by
 unfold plains;rw [J02 h,J43];simp only [List.all_cons,List.all_nil,Bool.and_true,Bool.and_assoc]
theorem D57 (s:Str):Q5 s=if plains s s.length=true then s else (34::escs s s.length)++[34]:=by
 unfold Q5 plains escs
 rw [J21]
 simp only [I96,decide_eq_true_eq,J27]
end Go.AL
namespace Go.AL
open Go
def L3 (cur:Str):Str→List Str
 | []=>[cur]
 | c::r=>if c=10 then (cur++[c])::L3 [] r else L3 (cur++[c]) r
def O0 (b:Str):List Str:=L3 [] b
theorem E26 (a cur:Str) (h:(10:UInt8)∉a):L3 cur a=[cur++a]:=by
 induction a generalizing cur with
 | nil=>simp [L3]
 | cons c r ih =>
  simp only [J20,not_or] at h
  rw [L3,if_neg (fun e=>h.1 e.symm),ih _ h.2];simp
theorem F23 (a b cur:Str) (h:(10:UInt8)∉a):L3 cur (a++10::b)=(cur++a++[10])::L3 [] b:=by
 induction a generalizing cur with
 | nil=>simp [L3]
 | cons c r ih =>
  simp only [J20,not_or] at h
  rw [J27,L3,if_neg (fun e=>h.1 e.symm),ih _ h.2];simp
theorem U8 (s cur:Str):(L3 cur s).length=s.count 10+1:=by
 induction s generalizing cur with
 | nil=>rfl
 | cons c r ih =>
  by_cases hc:c=10
  ·subst hc;rw [L3,if_pos rfl,I95,ih,List.count_cons_self]
  ·rw [L3,if_neg hc,ih,List.count_cons_of_ne hc]
theorem F97 (s cur:Str):F4 cur s=if (L3 cur s).getLastD []=[] then (L3 cur s).dropLast else L3 cur s:=by
 induction s generalizing cur with
 | nil=>by_cases h:cur=[]<;>simp [F4,L3,h]
 | cons c r ih =>
  rw [F4,L3]
  by_cases hc:c=10
  ·rw [if_pos hc,if_pos hc,ih]
   have hn:L3 [] r≠[]:=fun e=>by have:=U8 r [];rw [e] at this;simp at this
   obtain ⟨x,y,hxy⟩:=List.exists_cons_of_ne_nil hn
   rw [hxy]
   have e1:((cur++[c])::x::y).getLastD []=(x::y).getLastD []:=by cases y<;>simp [List.getLastD]
   rw [e1]
   split
   ·rfl
   ·rfl
  ·rw [if_neg hc,if_neg hc,ih]
theorem D58 (s cur:Str):(F4 cur s).length=s.count 10+if s=[] then (if cur=[] then 0 else 1) else if ended s=true then 0 else 1:=by
 induction s generalizing cur with
 | nil=>by_cases h:cur=[]<;>simp [F4,h]
 | cons c r ih =>
  have he:ended (c::r)=if r=[] then c == 10 else ended r:=by
   cases r with
   | nil=>simp [ended]
   | cons d t=>simp [ended,List.getLast?_cons_cons]
  rw [F4,if_neg (List.cons_ne_nil _ _),he]
  by_cases hc:c=10
  ·subst hc
   rw [if_pos rfl,I95,ih,List.count_cons_self]
   by_cases hr:r=[]<;>simp [hr]
   omega
  ·rw [if_neg hc,ih,List.count_cons_of_ne hc]
   by_cases hr:r=[]<;>simp [hr,hc]
theorem E27 (s:Str):(B7 s).length=s.count 10+if s≠[]∧ended s=false then 1 else 0:=by
 unfold B7
 rw [D58]
 by_cases hs:s=[]<;>simp [hs]
 cases ended s<;>simp
theorem G70 {P:List Str} {i:Nat} {r a b:Str} (h:P.drop i=O0 r) (hr:r=a++10::b) (ha:(10:UInt8)∉a):P[i]?=some (a++[10])∧P.drop (i+1)=O0 b:=by
 have e:O0 r=(a++[10])::O0 b:=by rw [hr];unfold O0;rw [F23 _ _ _ ha];rfl
 rw [e] at h
 refine ⟨by rw [←List.head?_drop,h];rfl,?_⟩
 rw [←List.tail_drop,h];rfl
theorem E59 {α:Type} (P:List α) (z x:α) (i:Nat) (h:P[i]?=some x):(P.take i++List.replicate (P.length - i) z).set i x=P.take (i+1)++List.replicate (P.length - (i+1)) z:=by
 obtain ⟨hi,hx⟩:=List.getElem?_eq_some_iff.1 h
 have hl:(P.take i).length=i:=by rw [J12];omega
 rw [List.set_append_right _ _ (by omega),hl,Nat.sub_self,show P.length - i=(P.length - (i+1))+1 by omega,List.replicate_succ,List.set_cons_zero,J02 hi,hx,J07]
 rfl
def B14 (b:Str):List Str × Int:=if b.length > 1048576∨(B7 b).length > 4096 then ([],1) else (B7 b,0)
end Go.AL
namespace Go.AL
open Go
def K4 (n:Int):Prop:=0≤n∧n≤4096
instance (n:Int):Decidable (K4 n):=by unfold K4;exact inferInstance
def F24 (k:Nat) (i j:Int) (c:Change):Prop:=((((((¬K4 c.Old∨¬K4 c.OldLen)∨¬K4 c.New)∨¬K4 c.NewLen)∨c.OldLen+c.NewLen=0)∨c.Old - i≠c.New - j)∨c.Old < i)∨(0 < (k:Int)∧c.Old=i)
instance (k:Nat) (i j:Int) (c:Change):Decidable (F24 k i j c):=by unfold F24;exact inferInstance
def I8 (k:Nat) (i j:Int):List Change→Int→Int→Bool
 | [],m,n=>decide (¬(m - i≠n - j∨m < i))
 | c::r,m,n=>decide (¬F24 k i j c)&&I8 (k+1) (c.Old+c.OldLen) (c.New+c.NewLen) r m n
def check8 (l:List Change) (m n:Int):Int:=if ¬K4 m∨¬K4 n then 80 else if I8 0 0 0 l m n=true then 0 else 80
def ScOk (i j:Int):List Change→Int→Int→Prop
 | [],m,n=>i≤m∧j≤n
 | c::r,m,n=>K4 c.Old∧K4 c.OldLen∧K4 c.New∧K4 c.NewLen∧i≤c.Old∧j≤c.New∧ScOk (c.Old+c.OldLen) (c.New+c.NewLen) r m n
theorem y7:∀(l:List Change) (k:Nat) (i j m n:Int),I8 k i j l m n=true→ScOk i j l m n
 | [],k,i,j,m,n,h=>by simp only [I8,decide_eq_true_eq] at h;simp only [ScOk];omega
 | c::r,k,i,j,m,n,h=>by
  simp only [I8,I96,decide_eq_true_eq] at h
  obtain ⟨h1,h2⟩:=h
  unfold F24 at h1
  refine ⟨?_,?_,?_,?_,?_,?_,y7 r _ _ _ m n h2⟩
  all_goals (by_cases a1:K4 c.Old<;>by_cases a2:K4 c.OldLen<;>by_cases a3:K4 c.New<;>by_cases a4:K4 c.NewLen<;>simp [a1,a2,a3,a4] at h1 ⊢<;>omega)
def cAt (l:List Change) (k:Nat):Change:=l.getD k ⟨0,0,0,0⟩
theorem ScOk.end_le:∀{l:List Change} {i j m n:Int},ScOk i j l m n→i≤m∧j≤n
 | [],_,_,_,_,h=>h
 | c::r,i,j,m,n,⟨h1,h2,h3,h4,h5,h6,h7⟩=>by have:=h7.end_le;unfold K4 at *;omega
theorem ScOk.get:∀{l:List Change} {i j m n:Int} (k:Nat),ScOk i j l m n→k < l.length→K4 (cAt l k).Old∧K4 (cAt l k).OldLen∧K4 (cAt l k).New∧K4 (cAt l k).NewLen∧(cAt l k).Old+(cAt l k).OldLen≤m∧(cAt l k).New+(cAt l k).NewLen≤n
 | c::r,i,j,m,n,0,⟨h1,h2,h3,h4,h5,h6,h7⟩,_=>by have:=h7.end_le;exact ⟨h1,h2,h3,h4,this.1,this.2⟩
 | c::r,i,j,m,n,k+1,⟨h1,h2,h3,h4,h5,h6,h7⟩,hk=>by
  have:=h7.get k (by simpa using hk)
  simpa [cAt] using this
theorem ScOk.next:∀{l:List Change} {i j m n:Int} (k:Nat),ScOk i j l m n→k+1 < l.length→(cAt l k).Old+(cAt l k).OldLen≤(cAt l (k+1)).Old
 | [c],_,_,_,_,_,_,hk=>by simp at hk
 | c::c2::r,i,j,m,n,0,⟨_,_,_,_,_,_,h7⟩,_=>by simpa [cAt] using h7.2.2.2.2.1
 | c::c2::r,i,j,m,n,k+1,⟨_,_,_,_,_,_,h7⟩,hk=>by
  have:=h7.next k (by simpa using hk)
  simpa [cAt] using this
theorem ScOk.mono {l:List Change} {m n:Int} (h:ScOk 0 0 l m n):∀(a b:Nat),a≤b→b < l.length→(cAt l a).Old≤(cAt l b).Old∧(cAt l a).Old+(cAt l a).OldLen≤(cAt l b).Old+(cAt l b).OldLen
 | a,0,h1,h2=>by rw [show a=0 by omega];omega
 | a,b+1,h1,h2=>by
  by_cases hab:a=b+1
  ·subst hab;omega
  ·have h3:=h.mono a b (by omega) (by omega)
   have h4:=h.next b h2
   have h5:=h.get b (by omega)
   have h6:=h.get (b+1) h2
   unfold K4 at *;omega
def F25 (a b:Int):Int:=if b < a then b else a
def opens (l:List Change) (ctx:Int) (k:Nat):Prop:=k=0∨2*ctx < (cAt l k).Old - (cAt l (k - 1)).Old - (cAt l (k - 1)).OldLen
instance (l:List Change) (ctx:Int) (k:Nat):Decidable (opens l ctx k):=by unfold opens;exact inferInstance
def H22:Hunk:=⟨0,0,⟨0,0⟩,⟨0,0⟩⟩
def A15 (l:List Change) (ctx:Int) (k:Nat):Hunk:=⟨k,0,⟨(cAt l k).Old - F25 ctx (cAt l k).Old,0⟩,⟨(cAt l k).New - F25 ctx (cAt l k).Old,0⟩⟩
def B93 (l:List Change) (m ctx:Int) (k:Nat) (h:Hunk):Hunk :=
 let c:=cAt l k
 let a:=F25 ctx (m - (c.Old+c.OldLen))
 ⟨h.First,k+1,⟨h.Old.From,c.Old+c.OldLen+a⟩,⟨h.New.From,c.New+c.NewLen+a⟩⟩
def C32 (l:List Change) (ctx:Int) (k:Nat) (out:List Hunk):List Hunk:=if opens l ctx k then out++[A15 l ctx k] else out
def U0 (l:List Change) (m ctx:Int):Nat→List Hunk
 | 0=>[]
 | k+1=>let out:=C32 l ctx k (U0 l m ctx k);out.set (out.length - 1) (B93 l m ctx k (out.getD (out.length - 1) H22))
theorem C65 (l:List Change) (m ctx:Int):∀k,(U0 l m ctx k).length≤k∧(0 < k→0 < (U0 l m ctx k).length)
 | 0=>by simp [U0]
 | k+1=>by
  have h:=C65 l m ctx k
  simp only [U0,J45,C32]
  split
  ·simp only [I93,I95,I97];omega
  ·rename_i ho
   have:k≠0:=fun e=>ho (.inl e)
   omega
end Go.AL
namespace Go.AL
open Go
def O8 (s:Str):Bool:=decide (1≤s.length∧s.length≤200)
def F2 (ls:List PatchLine) (k:UInt8):List Str:=(ls.filter (fun x=>decide (x.Kind≠k))).map (·.Text)
def badLn (x:PatchLine):Prop:=((x.Kind≠32∧x.Kind≠45)∧x.Kind≠43)∨H9 x.Text=false
instance (x:PatchLine):Decidable (badLn x):=by unfold badLn;exact inferInstance
def B56 (x:PatchLine):Bool:=decide (¬badLn x)
def A07 (ls:List PatchLine):Bool:=ls.any (fun x=>decide (x.Kind≠32))
def B94 (some:Bool) (i j:Int) (h:PatchHunk):Prop:=((((some=false∨h.Old < i)∨h.New < j)∨4096 < h.Old)∨4096 < h.New)∨h.Old - i≠h.New - j
instance (s:Bool) (i j:Int) (h:PatchHunk):Decidable (B94 s i j h):=by unfold B94;exact inferInstance
def B24 (h:PatchHunk):Int:=(F2 h.Lines 43).length
def B25 (h:PatchHunk):Int:=(F2 h.Lines 45).length
def C33 (i j:Int):List PatchHunk→Bool
 | []=>true
 | h::r=>h.Lines.all B56&&(decide (¬B94 (A07 h.Lines) i j h)&&(decide (¬(4096 < h.Old+B24 h∨4096 < h.New+B25 h))&&C33 (h.Old+B24 h) (h.New+B25 h) r))
def K9 (hs:List PatchHunk) (k:UInt8):List Str:=(hs.map (fun h=>F2 h.Lines k)).flatten
def N1:List Str→Bool
 | []=>true
 | x::r=>(r.isEmpty||ended x)&&N1 r
def G71 (hs:List PatchHunk) (k:UInt8):Bool:=N1 (K9 hs k)
def C34 (hs:List PatchHunk):Bool:=C33 0 0 hs&&(G71 hs 43&&G71 hs 45)
def markS:Str:=[10,92,32,78,111,32,110,101,119,108,105,110,101,32,97,116,32,101,110,100,32,111,102,32,102,105,108,101,10]
def linePs (x:PatchLine):List Str:=if ended x.Text then [[x.Kind]++x.Text] else [[x.Kind]++x.Text,markS]
def headW (h:PatchHunk):Str:=[64,64,32,45]++Q6 h.Old (B24 h)++[32,43]++Q6 h.New (B25 h)++[32,64,64,10]
def hunkPs (h:PatchHunk):List Str:=headW h::(h.Lines.map linePs).flatten
def namePs (p:Patch):List Str:=[[45,45,45,32]++Q5 p.OldName++[10],[43,43,43,32]++Q5 p.NewName++[10]]
def writePs (p:Patch):List Str:=namePs p++(p.Hunks.map hunkPs).flatten
def H23 (p:Patch):Str:=(writePs p).flatten
def B95 (p:Patch):Int:=if O8 p.OldName=false∨O8 p.NewName=false then 120 else if C34 p.Hunks=false then 121 else if 16777216 < (H23 p).length then 1 else 0
def szL (x:PatchLine):Nat:=x.Text.length+64
def szH (h:PatchHunk):Nat:=64+(h.Lines.map szL).sum
def szP (hs:List PatchHunk):Nat:=(hs.map szH).sum
structure PFit (p:Patch):Prop where
 old:p.OldName.length≤4194304
 new:p.NewName.length≤4194304
 hunks:szP p.Hunks≤268435456
theorem szL_len (ls:List PatchLine):64*ls.length≤(ls.map szL).sum:=by
 induction ls with
 | nil=>simp
 | cons x r ih=>simp only [J01,J26,I95,szL];omega
end Go.AL
namespace Go.AL
open Go
def y8 (k:UInt8) (ts:List Str):List PatchLine:=ts.map fun t=>⟨k,t⟩
def sub (x:List Str) (a b:Int):List Str:=(x.drop a.toNat).take (b.toNat - a.toNat)
def A58 (c:Change):Int:=c.Old+c.OldLen
def y9 (l:List Change) (i0:Int) (a t:Nat):Int:=if t=0 then i0 else A58 (cAt l (a+t - 1))
theorem G72 (l:List Change) (i0:Int) (a t:Nat):y9 l i0 a (t+1)=A58 (cAt l (a+t)):=by
 unfold y9;rw [if_neg (by omega)];congr 2
def n9 (l:List Change) (x y:List Str) (i0:Int) (a:Nat):Nat→List PatchLine
 | 0=>[]
 | t+1=>n9 l x y i0 a t++y8 32 (sub x (y9 l i0 a t) (cAt l (a+t)).Old)++y8 45 (sub x (cAt l (a+t)).Old (A58 (cAt l (a+t))))++y8 43 (sub y (cAt l (a+t)).New ((cAt l (a+t)).New+(cAt l (a+t)).NewLen))
def X2 (l:List Change) (x y:List Str) (h:Hunk):PatchHunk :=
 ⟨h.Old.From,h.New.From,n9 l x y h.Old.From h.First.toNat (h.Last.toNat - h.First.toNat)++y8 32 (sub x (y9 l h.Old.From h.First.toNat (h.Last.toNat - h.First.toNat)) h.Old.To)⟩
end Go.AL
namespace Go.AL
open Go
end Go.AL
namespace Go.AL
open Go
def F98 (i j:Int) (h:PatchHunk):Prop:=((((h.Old < 0∨h.New < 0)∨4096 < h.Old)∨4096 < h.New)∨h.Old < i)∨h.Old - i≠h.New - j
instance (i j:Int) (h:PatchHunk):Decidable (F98 i j h):=by unfold F98;exact inferInstance
end Go.AL
namespace Go.AL
open Go
theorem textsLen_le (rows:List Row) (B:Nat) (h:∀r∈rows,r.Text.length≤B):T4 rows≤rows.length*B:=by
 unfold T4
 induction rows with
 | nil=>simp
 | cons r rs ih =>
  have h1:=ih fun x hx=>h x (by simp [hx])
  have h2:=h r (by simp)
  simp only [J01,J05,I93,I95,J11,Nat.one_mul]
  omega
theorem F99 (b s:Str) (h:s∈B7 b):s.length≤b.length:=by
 have h1:(B7 b).flatten=b:=by
  have key:∀(s cur:Str),(F4 cur s).flatten=cur++s:=by
   intro s
   induction s with
   | nil=>intro cur;unfold F4;split<;>simp [*]
   | cons c r ih=>intro cur;unfold F4;split<;>simp [ih]
  exact key b []
 have h2:∀(l:List Str),s∈l→s.length≤l.flatten.length:=by
  intro l
  induction l with
  | nil=>intro h;cases h
  | cons x r ih =>
   intro h
   rcases List.mem_cons.1 h with rfl | h
   ·simp
   ·have:=ih h;simp only [J05,I93];omega
 have:=h2 _ h;rw [h1] at this;exact this
end Go.AL
namespace Go.AL
open Go
theorem C98 {x:List Str} {a b:Int} {s:Str} (h:s∈sub x a b):s∈x:=by
 unfold sub at h
 exact List.mem_of_mem_drop (List.mem_of_mem_take h)
end Go.AL
namespace Go.AL
open Go
end Go.AL
namespace Go.AL
open Go
def F26 (c:Change):Int:=c.New+c.NewLen
def eoI (i:Int) (l:List Change) (k:Nat):Int:=if k=0 then i else A58 (cAt l (k - 1))
def enI (j:Int) (l:List Change) (k:Nat):Int:=if k=0 then j else F26 (cAt l (k - 1))
theorem m6 (i:Int) (c:Change) (r:List Change) (k:Nat):eoI i (c::r) (k+1)=eoI (A58 c) r k:=by
 cases k<;>rfl
theorem m7 (j:Int) (c:Change) (r:List Change) (k:Nat):enI j (c::r) (k+1)=enI (F26 c) r k:=by
 cases k<;>rfl
theorem A90 (i:Int) (l:List Change) (k:Nat):eoI i l (k+1)=A58 (cAt l k):=rfl
theorem A91 (j:Int) (l:List Change) (k:Nat):enI j l (k+1)=F26 (cAt l k):=rfl
theorem B96 (c:Change) (r:List Change) (k:Nat):cAt (c::r) (k+1)=cAt r k:=rfl
def C35 (x y:List Str) (i j:Int):List Change→Prop
 | []=>sub x i x.length=sub y j y.length
 | c::r=>sub x i c.Old=sub y j c.New∧C35 x y (A58 c) (F26 c) r
theorem w8 (m n:Int):∀(l:List Change) (k0:Nat) (i j:Int),I8 k0 i j l m n=true→∀k,k < l.length →
  K4 (cAt l k).Old∧K4 (cAt l k).OldLen∧K4 (cAt l k).New∧K4 (cAt l k).NewLen∧(cAt l k).OldLen+(cAt l k).NewLen≠0∧(cAt l k).Old - eoI i l k=(cAt l k).New - enI j l k∧eoI i l k≤(cAt l k).Old∧(0 < k0+k→eoI i l k < (cAt l k).Old)
 | [],_,_,_,_,k,hk=>by simp at hk
 | c :: r,k0,i,j,h,k,hk=>by
  simp only [I8,I96,decide_eq_true_eq] at h
  obtain ⟨h1,h2⟩:=h
  cases k with
  | zero =>
   unfold F24 at h1
   show K4 c.Old∧K4 c.OldLen∧K4 c.New∧K4 c.NewLen∧c.OldLen+c.NewLen≠0∧c.Old - i=c.New - j∧i≤c.Old∧(0 < k0+0→i < c.Old)
   have d1:K4 c.Old:=by by_cases q:K4 c.Old;exact q;exact absurd (.inl (.inl (.inl (.inl (.inl (.inl (.inl q))))))) h1
   have d2:K4 c.OldLen:=by by_cases q:K4 c.OldLen;exact q;exact absurd (.inl (.inl (.inl (.inl (.inl (.inl (.inr q))))))) h1
   have d3:K4 c.New:=by by_cases q:K4 c.New;exact q;exact absurd (.inl (.inl (.inl (.inl (.inl (.inr q)))))) h1
   have d4:K4 c.NewLen:=by by_cases q:K4 c.NewLen;exact q;exact absurd (.inl (.inl (.inl (.inl (.inr q))))) h1
   refine ⟨d1,d2,d3,d4,fun q=>h1 (.inl (.inl (.inl (.inr q)))),?_,?_,fun h0=>?_⟩
   ·by_cases q:c.Old - i=c.New - j
    ·exact q
    ·exact absurd (.inl (.inl (.inr q))) h1
   ·by_cases q:c.Old < i
    ·exact absurd (.inl (.inr q)) h1
    ·omega
   ·by_cases q:c.Old < i
    ·exact absurd (.inl (.inr q)) h1
    ·by_cases q2:c.Old=i
     ·exact absurd (.inr ⟨by omega,q2⟩) h1
     ·omega
  | succ k =>
   have:=w8 m n r (k0+1) _ _ h2 k (by simpa using hk)
   rw [B96,m6,m7]
   obtain ⟨e1,e2,e3,e4,e5,e6,e7,e8⟩:=this
   exact ⟨e1,e2,e3,e4,e5,e6,e7,fun h0=>e8 (by omega)⟩
theorem G73 (m n:Int):∀(l:List Change) (k0:Nat) (i j:Int),I8 k0 i j l m n=true→m - eoI i l l.length=n - enI j l l.length∧eoI i l l.length≤m
 | [],_,i,j,h=>by
  simp only [I8,decide_eq_true_eq] at h
  show m - i=n - j∧i≤m
  omega
 | c::r,k0,i,j,h=>by
  simp only [I8,I96,decide_eq_true_eq] at h
  rw [I95,m6,m7]
  exact G73 m n r _ _ _ h.2
theorem F27 (x y:List Str):∀(l:List Change) (i j:Int),C35 x y i j l→∀k,k < l.length→sub x (eoI i l k) (cAt l k).Old=sub y (enI j l k) (cAt l k).New
 | [],_,_,_,k,hk=>by simp at hk
 | c::r,i,j,h,k,hk=>by
  cases k with
  | zero=>exact h.1
  | succ k=>rw [m6,m7,B96];exact F27 x y r _ _ h.2 k (by simpa using hk)
theorem G74 (x y:List Str):∀(l:List Change) (i j:Int),C35 x y i j l→sub x (eoI i l l.length) x.length=sub y (enI j l l.length) y.length
 | [],_,_,h=>h
 | c::r,i,j,h=>by rw [I95,m6,m7];exact G74 x y r _ _ h.2
def mkH (l:List Change) (m ctx:Int) (a b:Nat):Hunk:=B93 l m ctx (b - 1) (A15 l ctx a)
def GrOk (l:List Change) (m ctx:Int):Nat→List Hunk→Nat→Prop
 | a,[],k=>a=k
 | a,h::r,k=>∃b,a < b∧opens l ctx a∧h=mkH l m ctx a b∧GrOk l m ctx b r k
theorem GrOk.le {l:List Change} {m ctx:Int}:∀{hs:List Hunk} {a k:Nat},GrOk l m ctx a hs k→a≤k
 | [],a,k,h=>Nat.le_of_eq h
 | _::_,a,k,⟨b,h1,_,_,h2⟩=>by have:=GrOk.le h2;omega
theorem GrOk.snoc {l:List Change} {m ctx:Int} {k:Nat} (ho:opens l ctx k):∀{hs:List Hunk} {a:Nat},GrOk l m ctx a hs k→GrOk l m ctx a (hs++[mkH l m ctx k (k+1)]) (k+1)
 | [],a,h=>by
  obtain rfl:a=k:=h
  exact ⟨a+1,by omega,ho,rfl,rfl⟩
 | _::_,a,⟨b,h1,h2,h3,h4⟩=>⟨b,h1,h2,h3,GrOk.snoc ho h4⟩
theorem GrOk.last {l:List Change} {m ctx:Int} {k:Nat}:∀{hs:List Hunk} {a:Nat},GrOk l m ctx a hs k→hs≠[]→GrOk l m ctx a (hs.set (hs.length - 1) (B93 l m ctx k (hs.getD (hs.length - 1) H22))) (k+1)
 | [],_,_,h0=>absurd rfl h0
 | [h],a,⟨b,h1,h2,h3,h4⟩,_=>by
  obtain rfl:b=k:=h4
  subst h3
  exact ⟨b+1,by omega,h2,rfl,rfl⟩
 | h::h'::r,a,⟨b,h1,h2,h3,h4⟩,_=>by
  have ih:=GrOk.last h4 (by simp)
  refine ⟨b,h1,h2,h3,?_⟩
  simpa using ih
theorem A33 (l:List Change) (m ctx:Int):∀k,GrOk l m ctx 0 (U0 l m ctx k) k
 | 0=>rfl
 | k+1=>by
  have ih:=A33 l m ctx k
  have hne:=(C65 l m ctx k).2
  simp only [U0,C32]
  by_cases ho:opens l ctx k
  ·rw [if_pos ho]
   have e:(U0 l m ctx k++[A15 l ctx k]).set ((U0 l m ctx k++[A15 l ctx k]).length - 1) (B93 l m ctx k ((U0 l m ctx k++[A15 l ctx k]).getD ((U0 l m ctx k++[A15 l ctx k]).length - 1) H22))=U0 l m ctx k++[mkH l m ctx k (k+1)]:=by
    simp [mkH]
   rw [e]
   exact ih.snoc ho
  ·rw [if_neg ho]
   refine ih.last ?_
   have:k≠0:=fun e=>ho (.inl e)
   have:=hne (by omega)
   intro e;rw [e] at this;simp at this
theorem A34 (x:List Str) {a b c:Int} (h0:0≤a) (h1:a≤b) (h2:b≤c):sub x a b++sub x b c=sub x a c:=by
 unfold sub
 obtain ⟨u,rfl⟩:∃u:Nat,(u:Int)=a:=⟨a.toNat,by omega⟩
 obtain ⟨v,rfl⟩:∃v:Nat,(v:Int)=b:=⟨b.toNat,by omega⟩
 obtain ⟨w,rfl⟩:∃w:Nat,(w:Int)=c:=⟨c.toNat,by omega⟩
 simp only [I99]
 have h3:x.drop v=(x.drop u).drop (v - u):=by rw [List.drop_drop];congr 1;omega
 rw [h3,show w - u=(v - u)+(w - v) by omega,List.take_add]
theorem H24 (x:List Str) (a:Int):sub x a a=[]:=by simp [sub]
theorem A35 (x:List Str) {a b:Int} (h0:0≤a) (h1:a≤b) (h2:b≤x.length):((sub x a b).length:Int)=b - a:=by
 unfold sub;rw [J12,J15];omega
theorem D59 {x y:List Str} {p q p' q' e:Int} (h:sub x p q=sub y p' q') (h0:0≤p) (h0':0≤p') (he:0≤e) (h1:e≤q - p) (h2:q - p=q' - p'):sub x (q - e) q=sub y (q' - e) q':=by
 have key:∀(z:List Str) (a b:Int),0≤a→e≤b - a→sub z (b - e) b=(sub z a b).drop (b - a - e).toNat:=by
  intro z a b ha hb
  unfold sub
  rw [List.drop_take,List.drop_drop]
  congr 1
  ·omega
  ·congr 1;omega
 rw [key x p q h0 h1,key y p' q' h0' (by omega),h,h2]
theorem G00 {x y:List Str} {p q p' q' e:Int} (h:sub x p q=sub y p' q') (h0:0≤p) (h0':0≤p') (he:0≤e) (h1:e≤q - p) (h2:q - p=q' - p'):sub x p (p+e)=sub y p' (p'+e):=by
 have key:∀(z:List Str) (a b:Int),0≤a→e≤b - a→sub z a (a+e)=(sub z a b).take e.toNat:=by
  intro z a b ha hb
  unfold sub
  rw [List.take_take]
  congr 1
  omega
 rw [key x p q h0 h1,key y p' q' h0' (by omega),h]
theorem A36 (p q:List PatchLine) (k:UInt8):F2 (p++q) k=F2 p k++F2 q k:=by simp [F2]
theorem A37 (k k':UInt8) (ts:List Str):F2 (y8 k ts) k'=if k=k' then [] else ts:=by
 unfold F2 y8
 by_cases h:k=k'
 ·rw [if_pos h];subst h
  simp [List.filter_eq_nil_iff]
 ·rw [if_neg h]
  rw [List.filter_eq_self.2 (by simp [h])]
  simp [Function.comp_def]
structure ScFit (x y:List Str) (l:List Change):Prop where
 lx:(x.length:Int)≤4096
 ly:(y.length:Int)≤4096
 sc:I8 0 0 0 l x.length y.length=true
 eq:C35 x y 0 0 l
section
variable {x y:List Str} {l:List Change}
theorem ScFit.ok (h:ScFit x y l):ScOk 0 0 l x.length y.length:=y7 _ _ _ _ _ _ h.sc
theorem ScFit.check (h:ScFit x y l):check8 l x.length y.length=0:=by
 have h1:=h.lx
 have h2:=h.ly
 unfold check8
 rw [if_neg (by unfold K4;omega),if_pos h.sc]
theorem ScFit.nn (h:ScFit x y l) (k:Nat) (hk:k≤l.length):0≤eoI 0 l k∧0≤enI 0 l k∧eoI 0 l k≤x.length∧enI 0 l k≤y.length:=by
 cases k with
 | zero=>exact ⟨Int.le_refl _,Int.le_refl _,Int.natCast_nonneg _,Int.natCast_nonneg _⟩
 | succ k =>
  obtain ⟨⟨a1,a2⟩,⟨b1,b2⟩,⟨c1,c2⟩,⟨d1,d2⟩,h5,h6⟩:=h.ok.get k (by omega)
  rw [A90,A91];unfold A58 F26
  omega
def eA (l:List Change) (ctx:Int) (a:Nat):Int:=F25 ctx (cAt l a).Old
def eB (l:List Change) (m ctx:Int) (b:Nat):Int:=F25 ctx (m - eoI 0 l b)
theorem H25 {a b:Int} (h:0≤a) (h':0≤b):0≤F25 a b∧F25 a b≤a∧F25 a b≤b:=by unfold F25;split<;>omega
theorem C36 {ctx:Int} {a:Nat} (ho:opens l ctx a) (ha:a≠0):2*ctx < (cAt l a).Old - eoI 0 l a:=by
 rcases ho with h | h
 ·exact absurd h ha
 ·unfold eoI;rw [if_neg ha];unfold A58;omega
theorem ScFit.before (h:ScFit x y l) {ctx:Int} (hc:0≤ctx) {a:Nat} (ha:a < l.length) (ho:opens l ctx a) :
  0≤eA l ctx a∧eA l ctx a≤ctx∧eA l ctx a≤(cAt l a).Old - eoI 0 l a:=by
 obtain ⟨⟨a1,a2⟩,_⟩:=h.ok.get a ha
 have h3:=H25 hc a1
 unfold eA
 by_cases h0:a=0
 ·subst h0
  show _∧_∧_≤(cAt l 0).Old - 0
  omega
 ·have:=C36 ho h0;omega
theorem ScFit.after (h:ScFit x y l) {ctx:Int} (hc:0≤ctx) {b:Nat} (hb:b≤l.length) (ho:b < l.length→opens l ctx b) (hb0:b≠0) :
  0≤eB l x.length ctx b∧eB l x.length ctx b≤ctx∧eoI 0 l b+eB l x.length ctx b≤x.length∧enI 0 l b+eB l x.length ctx b≤y.length ∧
   sub x (eoI 0 l b) (eoI 0 l b+eB l x.length ctx b)=sub y (enI 0 l b) (enI 0 l b+eB l x.length ctx b):=by
 obtain ⟨h1,h2,h3,h4⟩:=h.nn b hb
 have h5:=H25 hc (show 0≤(x.length:Int) - eoI 0 l b by omega)
 unfold eB
 rcases Nat.lt_or_ge b l.length with hlt | hge
 ·obtain ⟨g1,g2,g3,g4,g5,g6,g7,g8⟩:=w8 _ _ _ _ _ _ h.sc b hlt
  obtain ⟨⟨a1,a2⟩,⟨b1,b2⟩,⟨c1,c2⟩,⟨d1,d2⟩,k5,k6⟩:=h.ok.get b hlt
  have hg:=C36 (ho hlt) hb0
  refine ⟨h5.1,h5.2.1,by omega,by omega,G00 (F27 x y l 0 0 h.eq b hlt) h1 h2 h5.1 (by omega) (by omega)⟩
 ·have e:b=l.length:=by omega
  subst e
  obtain ⟨g1,g2⟩:=G73 _ _ _ _ _ _ h.sc
  refine ⟨h5.1,h5.2.1,by omega,by omega,G00 (G74 x y l 0 0 h.eq) h1 h2 h5.1 (by omega) (by omega)⟩
def F28 (l:List Change) (j0:Int) (a t:Nat):Int:=if t=0 then j0 else F26 (cAt l (a+t - 1))
theorem D60 (i0:Int) (a t:Nat) (ht:t≠0):y9 l i0 a t=eoI 0 l (a+t):=by
 unfold y9 eoI;rw [if_neg ht,if_neg (by omega)]
theorem H26 (j0:Int) (a t:Nat) (ht:t≠0):F28 l j0 a t=enI 0 l (a+t):=by
 unfold F28 enI;rw [if_neg ht,if_neg (by omega)]
theorem ScFit.made (h:ScFit x y l) {ctx:Int} (hc:0≤ctx) {a:Nat} (ho:opens l ctx a):∀t,a+t≤l.length→(t=0→a < l.length) →
  F2 (n9 l x y ((cAt l a).Old - eA l ctx a) a t) 43=sub x ((cAt l a).Old - eA l ctx a) (y9 l ((cAt l a).Old - eA l ctx a) a t) ∧
  F2 (n9 l x y ((cAt l a).Old - eA l ctx a) a t) 45=sub y ((cAt l a).New - eA l ctx a) (F28 l ((cAt l a).New - eA l ctx a) a t)
 | 0,_,_=>by
  unfold y9 F28
  rw [if_pos rfl,if_pos rfl,H24,H24]
  exact ⟨rfl,rfl⟩
 | t + 1,hl,_=>by
  have hlt:a+t < l.length:=by omega
  have hla:a < l.length:=by omega
  obtain ⟨ih1,ih2⟩:=ScFit.made h hc ho t (by omega) (fun _=>hla)
  obtain ⟨q1,q2,q3⟩:=h.before hc hla ho
  obtain ⟨p1,p2,p3,p4⟩:=h.nn (a+t) (by omega)
  obtain ⟨r1,r2,r3,r4⟩:=h.nn a (by omega)
  obtain ⟨g1,g2,g3,g4,g5,g6,g7,g8⟩:=w8 _ _ _ _ _ _ h.sc (a+t) hlt
  obtain ⟨k1,⟨k2,k2'⟩,k3,⟨k4,k4'⟩,k5,k6,k7,k8⟩:=w8 _ _ _ _ _ _ h.sc a hla
  obtain ⟨⟨a1,a2⟩,⟨b1,b2⟩,⟨c1,c2⟩,⟨d1,d2⟩,w5,w6⟩:=h.ok.get (a+t) hlt
  have hrun:sub x (y9 l ((cAt l a).Old - eA l ctx a) a t) (cAt l (a+t)).Old=sub y (F28 l ((cAt l a).New - eA l ctx a) a t) (cAt l (a+t)).New ∧
    (cAt l a).Old - eA l ctx a≤y9 l ((cAt l a).Old - eA l ctx a) a t∧y9 l ((cAt l a).Old - eA l ctx a) a t≤(cAt l (a+t)).Old ∧
    (cAt l a).New - eA l ctx a≤F28 l ((cAt l a).New - eA l ctx a) a t∧F28 l ((cAt l a).New - eA l ctx a) a t≤(cAt l (a+t)).New:=by
   have hrun:=F27 x y l 0 0 h.eq (a+t) hlt
   by_cases ht:t=0
   ·subst ht
    unfold y9 F28
    rw [if_pos rfl,if_pos rfl]
    rw [show a+0=a from rfl] at *
    exact ⟨D59 hrun r1 r2 q1 (by omega) (by omega),by omega,by omega,by omega,by omega⟩
   ·rw [D60 _ _ _ ht,H26 _ _ _ ht]
    have m1:=h.ok.mono a (a+t - 1) (by omega) (by omega)
    have m2:eoI 0 l (a+t)=(cAt l (a+t - 1)).Old+(cAt l (a+t - 1)).OldLen:=by unfold eoI;rw [if_neg (by omega)];rfl
    have m4:∀u,u≤t→(cAt l a).New≤enI 0 l (a+u)∨u=0:=by
     intro u
     induction u with
     | zero=>exact fun _=>.inr rfl
     | succ u ihu =>
      intro hu
      obtain ⟨e1,e2,⟨e3,e3'⟩,⟨e4,e4'⟩,e5,e6,e7,e8⟩:=w8 _ _ _ _ _ _ h.sc (a+u) (by omega)
      have e9:enI 0 l (a+(u+1))=(cAt l (a+u)).New+(cAt l (a+u)).NewLen:=rfl
      rcases ihu (by omega) with h' | h'
      ·left;omega
      ·left;subst h';rw [e9];show (cAt l a).New≤(cAt l a).New+(cAt l a).NewLen;exact Int.le_add_of_nonneg_right e4
    have m5:=(m4 t (Nat.le_refl _)).resolve_right ht
    refine ⟨hrun,by omega,by omega,by omega,by omega⟩
  obtain ⟨hr1,hr2,hr3,hr4,hr5⟩:=hrun
  simp (decide:=true) only [n9,A36,A37,ih1,ih2,if_true,if_false,J17]
  have e1:y9 l ((cAt l a).Old - eA l ctx a) a (t+1)=A58 (cAt l (a+t)):=G72 _ _ _ _
  have e2:F28 l ((cAt l a).New - eA l ctx a) a (t+1)=F26 (cAt l (a+t)):=rfl
  rw [e1,e2]
  have s0:0≤(cAt l a).Old - eA l ctx a:=by omega
  have s1:0≤(cAt l a).New - eA l ctx a:=by omega
  refine ⟨?_,?_⟩
  ·rw [A34 x s0 hr2 hr3,A34 x s0 (by omega) (by unfold A58;omega)]
  ·rw [hr1,A34 y s1 hr4 hr5]
   exact A34 y s1 (by omega) (by omega)
end
end Go.AL
namespace Go.AL
open Go
section
variable {x y:List Str} {l:List Change}
structure HunkIs (x y:List Str) (l:List Change) (ctx:Int) (a b:Nat) (h:PatchHunk):Prop where
 old:h.Old=(cAt l a).Old - eA l ctx a
 new:h.New=(cAt l a).New - eA l ctx a
 o0:0≤h.Old
 n0:0≤h.New
 oe:h.Old+B24 h=eoI 0 l b+eB l x.length ctx b
 ne:h.New+B25 h=enI 0 l b+eB l x.length ctx b
 ox:h.Old+B24 h≤x.length
 ny:h.New+B25 h≤y.length
 ol:F2 h.Lines 43=sub x h.Old (h.Old+B24 h)
 nl:F2 h.Lines 45=sub y h.New (h.New+B25 h)
 ch:A07 h.Lines=true
 gl:(∀s∈x,H9 s=true)→(∀s∈y,H9 s=true)→h.Lines.all B56=true
theorem D61 (p q:List PatchLine):A07 (p++q)=(A07 p||A07 q):=by simp [A07]
theorem D62 {k:UInt8} {ts:List Str} (hk:k≠32) (h:ts≠[]):A07 (y8 k ts)=true:=by
 cases ts with
 | nil=>exact absurd rfl h
 | cons t ts=>simp [A07,y8,hk]
theorem A38 {k:UInt8} {ts:List Str} (hk:k=32∨k=45∨k=43) (h:∀t∈ts,H9 t=true):(y8 k ts).all B56=true:=by
 rw [List.all_eq_true]
 intro q hq
 unfold y8 at hq
 obtain ⟨t,ht,rfl⟩:=List.mem_map.1 hq
 unfold B56
 refine decide_eq_true ?_
 rintro (⟨⟨h1,h2⟩,h3⟩ | h1)
 ·rcases hk with e | e | e
  ·exact h1 e
  ·exact h2 e
  ·exact h3 e
 ·rw [show (PatchLine.mk k t).Text=t from rfl,h t ht] at h1;cases h1
theorem C66 (hx:∀s∈x,H9 s=true) (hy:∀s∈y,H9 s=true) (i0:Int) (a:Nat):∀t,(n9 l x y i0 a t).all B56=true
 | 0=>rfl
 | t+1=>by
  simp only [n9,J43,C66 hx hy i0 a t,Bool.true_and,I96]
  exact ⟨⟨A38 (.inl rfl) (fun s hs=>hx s (C98 hs)),A38 (.inr (.inl rfl)) (fun s hs=>hx s (C98 hs))⟩,A38 (.inr (.inr rfl)) (fun s hs=>hy s (C98 hs))⟩
theorem ScFit.hunk (h:ScFit x y l) {ctx:Int} (hc:0≤ctx) {a b:Nat} (hab:a < b) (hb:b≤l.length) (ho:opens l ctx a) (hob:b < l.length→opens l ctx b) :
  HunkIs x y l ctx a b (X2 l x y (mkH l x.length ctx a b)):=by
 have hla:a < l.length:=by omega
 obtain ⟨q1,q2,q3⟩:=h.before hc hla ho
 obtain ⟨w1,w2,w3,w4,w5⟩:=h.after hc hb hob (by omega)
 obtain ⟨m1,m2⟩:=h.made hc ho (b - a) (by omega) (fun e=>by omega)
 rw [D60 _ _ _ (by omega)] at m1
 rw [H26 _ _ _ (by omega)] at m2
 rw [show a+(b - a)=b by omega] at m1 m2
 obtain ⟨r1,r2,r3,r4⟩:=h.nn a (by omega)
 obtain ⟨s1,s2,s3,s4⟩:=h.nn b hb
 obtain ⟨k1,⟨k2,k2'⟩,k3,⟨k4,k4'⟩,k5,k6,k7,k8⟩:=w8 _ _ _ _ _ _ h.sc a hla
 have hlb:b - 1 < l.length:=by omega
 obtain ⟨g1,⟨g2,g2'⟩,g3,⟨g4,g4'⟩,g5,g6,g7,g8⟩:=w8 _ _ _ _ _ _ h.sc (b - 1) hlb
 have eo:eoI 0 l b=(cAt l (b - 1)).Old+(cAt l (b - 1)).OldLen:=by unfold eoI;rw [if_neg (by omega)];rfl
 have en:enI 0 l b=(cAt l (b - 1)).New+(cAt l (b - 1)).NewLen:=by unfold enI;rw [if_neg (by omega)];rfl
 have mo:=h.ok.mono a (b - 1) (by omega) (by omega)
 have mn:(cAt l a).New≤enI 0 l b:=by
  have m4:∀u,a+u≤l.length→(cAt l a).New≤enI 0 l (a+u)∨u=0:=by
   intro u
   induction u with
   | zero=>exact fun _=>.inr rfl
   | succ u ihu =>
    intro hu
    obtain ⟨e1,e2,⟨e3,e3'⟩,⟨e4,e4'⟩,e5,e6,e7,e8⟩:=w8 _ _ _ _ _ _ h.sc (a+u) (by omega)
    have e9:enI 0 l (a+(u+1))=(cAt l (a+u)).New+(cAt l (a+u)).NewLen:=rfl
    rcases ihu (by omega) with h' | h'
    ·left;omega
    ·left;subst h';rw [e9];show (cAt l a).New≤(cAt l a).New+(cAt l a).NewLen;exact Int.le_add_of_nonneg_right e4
  have:=(m4 (b - a) (by omega)).resolve_right (by omega)
  rwa [show a+(b - a)=b by omega] at this
 have hF:(mkH l x.length ctx a b).First.toNat=a:=by show ((a:Int)).toNat=a;omega
 have hL:(mkH l x.length ctx a b).Last.toNat - (mkH l x.length ctx a b).First.toNat=b - a:=by
  show (((b - 1:Nat):Int)+1).toNat - ((a:Int)).toNat=b - a;omega
 have hOF:(mkH l x.length ctx a b).Old.From=(cAt l a).Old - eA l ctx a:=rfl
 have hNF:(mkH l x.length ctx a b).New.From=(cAt l a).New - eA l ctx a:=rfl
 have hOT:(mkH l x.length ctx a b).Old.To=eoI 0 l b+eB l x.length ctx b:=by
  unfold eB;rw [eo];rfl
 obtain ⟨P,hP⟩:∃P,P=X2 l x y (mkH l x.length ctx a b):=⟨_,rfl⟩
 have hPl:P.Lines=n9 l x y ((cAt l a).Old - eA l ctx a) a (b - a)++y8 32 (sub x (eoI 0 l b) (eoI 0 l b+eB l x.length ctx b)):=by
  rw [hP];unfold X2
  show n9 l x y _ (mkH l x.length ctx a b).First.toNat ((mkH l x.length ctx a b).Last.toNat - (mkH l x.length ctx a b).First.toNat)++y8 32 (sub x (y9 l _ (mkH l x.length ctx a b).First.toNat ((mkH l x.length ctx a b).Last.toNat - (mkH l x.length ctx a b).First.toNat)) _)=_
  rw [hL,hF,hOF,hOT,D60 _ _ _ (by omega),show a+(b - a)=b by omega]
 have hPO:P.Old=(cAt l a).Old - eA l ctx a:=by rw [hP];rfl
 have hPN:P.New=(cAt l a).New - eA l ctx a:=by rw [hP];rfl
 have h43:F2 P.Lines 43=sub x ((cAt l a).Old - eA l ctx a) (eoI 0 l b+eB l x.length ctx b):=by
  rw [hPl,A36,A37,if_neg (by decide),m1]
  exact A34 x (by omega) (by omega) (by omega)
 have h45:F2 P.Lines 45=sub y ((cAt l a).New - eA l ctx a) (enI 0 l b+eB l x.length ctx b):=by
  rw [hPl,A36,A37,if_neg (by decide),m2,w5]
  exact A34 y (by omega) (by omega) (by omega)
 have hon:B24 P=eoI 0 l b+eB l x.length ctx b - ((cAt l a).Old - eA l ctx a):=by
  unfold B24;rw [h43];exact A35 x (by omega) (by omega) (by omega)
 have hnn:B25 P=enI 0 l b+eB l x.length ctx b - ((cAt l a).New - eA l ctx a):=by
  unfold B25;rw [h45];exact A35 y (by omega) (by omega) (by omega)
 rw [←hP]
 refine ⟨hPO,hPN,by omega,by omega,by omega,by omega,by omega,by omega,?_,?_,?_,?_⟩
 ·rw [h43];congr 1
  ·exact hPO.symm
  ·omega
 ·rw [h45];congr 1
  ·exact hPN.symm
  ·omega
 ·rw [hPl,D61]
  have e:n9 l x y ((cAt l a).Old - eA l ctx a) a (b - a)=n9 l x y ((cAt l a).Old - eA l ctx a) a (b - 1 - a+1):=by congr 1;omega
  rw [e]
  simp only [n9,D61]
  rw [show a+(b - 1 - a)=b - 1 by omega]
  have key:A07 (y8 45 (sub x (cAt l (b - 1)).Old (A58 (cAt l (b - 1)))))=true∨A07 (y8 43 (sub y (cAt l (b - 1)).New ((cAt l (b - 1)).New+(cAt l (b - 1)).NewLen)))=true:=by
   obtain ⟨g3a,g3b⟩:=g3
   obtain ⟨g1a,g1b⟩:=g1
   by_cases h0:(cAt l (b - 1)).OldLen=0
   ·right
    refine D62 (by decide) fun e0=>?_
    have:=A35 y (a:=(cAt l (b - 1)).New) (b:=(cAt l (b - 1)).New+(cAt l (b - 1)).NewLen) g3a (by omega) (by omega)
    rw [e0] at this;simp at this;omega
   ·left
    refine D62 (by decide) fun e0=>?_
    have:=A35 x (a:=(cAt l (b - 1)).Old) (b:=A58 (cAt l (b - 1))) g1a (by unfold A58;omega) (by unfold A58;omega)
    rw [e0] at this;unfold A58 at this;simp at this;omega
  rcases key with e1 | e1<;>rw [e1]<;>simp
 ·intro hx hy
  rw [hPl,J43,C66 hx hy,Bool.true_and]
  exact A38 (.inl rfl) (fun s hs=>hx s (C98 hs))
theorem ScFit.hunks (h:ScFit x y l) {ctx:Int} (hc:0≤ctx) (hx:∀s∈x,H9 s=true) (hy:∀s∈y,H9 s=true):∀(hs:List Hunk) (a:Nat),GrOk l x.length ctx a hs l.length →
  ∀(i j e:Int),i=eoI 0 l a+e→j=enI 0 l a+e→0≤e→e≤ctx→(a=0→e=0) →
  C33 i j (hs.map (X2 l x y))=true∧(K9 (hs.map (X2 l x y)) 43).Sublist (x.drop i.toNat)∧(K9 (hs.map (X2 l x y)) 45).Sublist (y.drop j.toNat) ∧
   ∀p∈hs.map (X2 l x y),(p.Old+B24 p≤x.length∧p.New+B25 p≤y.length∧0≤p.Old∧0≤p.New)∧F2 p.Lines 43=sub x p.Old (p.Old+B24 p)∧F2 p.Lines 45=sub y p.New (p.New+B25 p)
 | [],a,_,i,j,e,_,_,_,_,_=>⟨rfl,by simp [K9],by simp [K9],by simp⟩
 | hk::hs,a,⟨b,hab,ho,hE,hr⟩,i,j,e,hi,hj,he,hec,he0=>by
  have hb:=hr.le
  have hob:b < l.length→opens l ctx b:=by
   intro hlt
   cases hs with
   | nil=>exact absurd hr (by show ¬b=l.length;omega)
   | cons h2 hs2=>obtain ⟨_,_,ho2,_⟩:=hr;exact ho2
  obtain ⟨w1,w2,w3,w4,w5⟩:=h.after hc hb hob (by omega)
  obtain ⟨q1,q2,q3⟩:=h.before hc (show a < l.length by omega) ho
  have H:=h.hunk hc hab hb ho hob
  rw [←hE] at H
  obtain ⟨P,hP⟩:∃P,P=X2 l x y hk:=⟨_,rfl⟩
  rw [←hP] at H
  obtain ⟨i1,i2,i3,i4⟩:=ScFit.hunks h hc hx hy hs b hr (P.Old+B24 P) (P.New+B25 P) (eB l x.length ctx b) H.oe H.ne w1 w2 (by omega)
  obtain ⟨k1,⟨k2,k2'⟩,k3,⟨k4,k4'⟩,k5,k6,k7,k8⟩:=w8 _ _ _ _ _ _ h.sc a (show a < l.length by omega)
  have h1:=H.old
  have h2:=H.new
  have h3:=H.o0
  have h4:=H.n0
  have h5:=H.ox
  have h6:=H.ny
  have h7:=h.lx
  have h8:=h.ly
  have n1:0≤B24 P:=by unfold B24;omega
  have n2:0≤B25 P:=by unfold B25;omega
  have hgap:e+eA l ctx a≤(cAt l a).Old - eoI 0 l a:=by
   by_cases h0:a=0
   ·have:=he0 h0;omega
   ·have:=C36 ho h0;omega
  obtain ⟨r1,r2,r3,r4⟩:=h.nn a (by omega)
  have hij:i≤P.Old∧j≤P.New∧P.Old - i=P.New - j∧0≤i∧0≤j:=by omega
  have hsub:∀(z:List Str) (i f t:Int),0≤i→i≤f→f≤t→∀r:List Str,r.Sublist (z.drop t.toNat)→(sub z f t++r).Sublist (z.drop i.toNat):=by
   intro z i f t h0 h1 h2 r hr
   have e1:z.drop f.toNat=sub z f t++z.drop t.toNat:=by
    unfold sub
    rw [show t.toNat=f.toNat+(t.toNat - f.toNat) by omega,←List.drop_drop,show f.toNat+(t.toNat - f.toNat) - f.toNat=t.toNat - f.toNat by omega,J29]
   have e2:z.drop f.toNat=(z.drop i.toNat).drop (f.toNat - i.toNat):=by rw [List.drop_drop];congr 1;omega
   refine List.Sublist.trans ?_ (List.drop_sublist (f.toNat - i.toNat) (z.drop i.toNat))
   rw [←e2,e1]
   exact List.Sublist.append_left hr _
  have key:∀(k:UInt8),K9 ((hk::hs).map (X2 l x y)) k=F2 P.Lines k++K9 (hs.map (X2 l x y)) k:=by
   intro k;rw [hP];simp [K9]
  refine ⟨?_,?_,?_,?_⟩
  ·rw [J01,←hP]
   simp only [C33,H.gl hx hy,i1,Bool.and_true,Bool.true_and,I96,decide_eq_true_eq]
   refine ⟨?_,by omega⟩
   unfold B94
   rw [H.ch]
   rintro (((((e0 | e0) | e0) | e0) | e0) | e0)
   ·cases e0
   all_goals omega
  ·rw [key,H.ol]
   exact hsub x i P.Old (P.Old+B24 P) hij.2.2.2.1 hij.1 (by omega) _ i2
  ·rw [key,H.nl]
   exact hsub y j P.New (P.New+B25 P) hij.2.2.2.2 hij.2.1 (by omega) _ i3
  ·rw [J01,←hP]
   intro p hp
   rcases List.mem_cons.1 hp with rfl | hp
   ·exact ⟨⟨h5,h6,h3,h4⟩,H.ol,H.nl⟩
   ·exact i4 p hp
theorem A39:∀{s z:List Str},s.Sublist z→N1 z=true→N1 s=true:=by
 intro s z hs
 induction hs with
 | slnil=>exact fun h=>h
 | cons a _ ih =>
  intro h
  simp only [N1,I96] at h
  exact ih h.2
 | cons_cons a hs2 ih =>
  intro h
  simp only [N1,I96,J37] at h ⊢
  refine ⟨?_,ih h.2⟩
  rcases h.1 with h1 | h1
  ·left
   rw [List.isEmpty_iff] at h1 ⊢
   rw [h1] at hs2
   exact List.sublist_nil.1 hs2
  ·exact .inr h1
def X3 (l:List Change) (x y:List Str) (ctx:Int):List PatchHunk:=(U0 l x.length ctx l.length).map (X2 l x y)
theorem ScFit.good (h:ScFit x y l) {ctx:Int} (hc:0≤ctx) (hx:∀s∈x,H9 s=true) (hy:∀s∈y,H9 s=true) (ex:N1 x=true) (ey:N1 y=true):C34 (X3 l x y ctx)=true:=by
 obtain ⟨h1,h2,h3,_⟩:=h.hunks hc hx hy _ 0 (A33 l x.length ctx l.length) 0 0 0 rfl rfl (Int.le_refl _) hc (fun _=>rfl)
 unfold C34 G71 X3
 rw [h1,A39 h2 (by simpa using ex),A39 h3 (by simpa using ey)]
 rfl
theorem ScFit.texts (h:ScFit x y l) {ctx:Int} (hc:0≤ctx) (hx:∀s∈x,H9 s=true) (hy:∀s∈y,H9 s=true):∀p∈X3 l x y ctx,(p.Old+B24 p≤x.length∧p.New+B25 p≤y.length∧0≤p.Old∧0≤p.New)∧F2 p.Lines 43=sub x p.Old (p.Old+B24 p)∧F2 p.Lines 45=sub y p.New (p.New+B25 p) :=
 (h.hunks hc hx hy _ 0 (A33 l x.length ctx l.length) 0 0 0 rfl rfl (Int.le_refl _) hc (fun _=>rfl)).2.2.2
end
theorem C67 (cur:Str) (c:UInt8) (h:∀z∈cur,z≠10):H9 (cur++[c])=true:=by
 unfold H9
 simp only [List.dropLast_concat,I96]
 refine ⟨List.all_eq_true.2 fun z hz=>by simpa using h z hz,by simp⟩
theorem A92:∀(s cur:Str),(∀z∈cur,z≠10)→(∀t∈F4 cur s,H9 t=true)∧N1 (F4 cur s)=true
 | [],cur,hc=>by
  unfold F4
  split
  ·exact ⟨by simp,rfl⟩
  ·rename_i h
   refine ⟨fun t ht=>?_,rfl⟩
   obtain rfl:t=cur:=by simpa using ht
   obtain ⟨d,r,e⟩:∃d r,t=r++[d]:=⟨t.getLast h,t.dropLast,(List.dropLast_concat_getLast h).symm⟩
   rw [e]
   exact C67 r d fun z hz=>hc z (by rw [e];simp [hz])
 | c::r,cur,hc=>by
  rw [j8]
  by_cases h:c=10
  ·rw [if_pos h]
   obtain ⟨h1,h2⟩:=A92 r [] (by simp)
   refine ⟨fun t ht=>?_,?_⟩
   ·rcases List.mem_cons.1 ht with rfl | ht
    ·exact C67 cur c hc
    ·exact h1 t ht
   ·simp only [N1,h2,Bool.and_true,J37]
    right;unfold ended;subst h;simp
  ·rw [if_neg h]
   refine A92 r (cur++[c]) fun z hz=>?_
   rcases List.mem_append.1 hz with hz | hz
   ·exact hc z hz
   ·simp at hz;subst hz;exact h
theorem A40 (b:Str):(∀t∈B7 b,H9 t=true)∧N1 (B7 b)=true:=A92 b [] (by simp)
end Go.AL
namespace Go.AL
open Go
theorem B15 {m n:Int} (hm:K4 m) (hn:K4 n):∀(p:List Span) (i j i0 j0:Int) (k0:Nat),Asc m n i j p→0≤i0→0≤j0→i0≤i→i - i0=j - j0→(0 < k0→i0 < i)→I8 k0 i0 j0 (L8 i j p m n) m n=true
 | [],i,j,i0,j0,k0,ha,h1,h2,h3,h4,h5=>by
  obtain ⟨a1,a2⟩:i≤m∧j≤n:=ha
  obtain ⟨m1,m2⟩:=hm
  obtain ⟨n1,n2⟩:=hn
  unfold L8
  split
  ·rename_i hc
   simp only [I8,I96,decide_eq_true_eq]
   refine ⟨?_,by omega⟩
   unfold F24 K4
   show ¬(((((((¬(0≤i∧i≤4096)∨¬(0≤m - i∧m - i≤4096))∨¬(0≤j∧j≤4096))∨¬(0≤n - j∧n - j≤4096))∨m - i+(n - j)=0)∨i - i0≠j - j0)∨i < i0)∨(0 < (k0:Int)∧i=i0))
   omega
  ·simp only [I8,decide_eq_true_eq];omega
 | x::r,i,j,i0,j0,k0,ha,h1,h2,h3,h4,h5=>by
  obtain ⟨a1,a2,a3⟩:=ha
  have hle:=a3.le
  unfold L8
  split
  ·rename_i hc
   simp only [J27,J23,I8,I96,decide_eq_true_eq]
   refine ⟨?_,?_⟩
   ·obtain ⟨m1,m2⟩:=hm
    obtain ⟨n1,n2⟩:=hn
    unfold F24 K4
    show ¬(((((((¬(0≤i∧i≤4096)∨¬(0≤x.From - i∧x.From - i≤4096))∨¬(0≤j∧j≤4096))∨¬(0≤x.To - j∧x.To - j≤4096))∨x.From - i+(x.To - j)=0)∨i - i0≠j - j0)∨i < i0)∨(0 < (k0:Int)∧i=i0))
    omega
   ·exact B15 hm hn r _ _ _ _ _ a3 (by omega) (by omega) (by omega) (by omega) (fun _=>by omega)
  ·rw [J23]
   exact B15 hm hn r _ _ _ _ _ a3 h1 h2 (by omega) (by omega) (fun h=>by omega)
def EqAt (X Y:List Str) (s:Span):Prop:=0≤s.From∧0≤s.To∧∃v,X[s.From.toNat]?=some v∧Y[s.To.toNat]?=some v
theorem G01 {X:List Str} {a b:Int} {v:Str} (h0:0≤a) (h1:a≤b) (hv:X[b.toNat]?=some v):sub X a (b+1)=sub X a b++[v]:=by
 rw [←A34 X h0 h1 (by omega:b≤b+1)]
 congr 1
 unfold sub
 obtain ⟨hl,e⟩:=List.getElem?_eq_some_iff.1 hv
 rw [J00 hl,e,show (b+1).toNat - b.toNat=1 by omega]
 rfl
theorem E60:∀(a b:List Int) (p q:Int),∀s∈F3 p q a b,p≤s.From∧q≤s.To∧∃v,a[(s.From - p).toNat]?=some v∧b[(s.To - q).toNat]?=some v:=by
 intro a
 induction a with
 | nil=>intro b p q s hs;simp [F3] at hs
 | cons x a iha =>
  intro b
  induction b with
  | nil=>intro p q s hs;simp [F3] at hs
  | cons y b ihb =>
   intro p q s hs
   unfold F3 at hs
   split at hs
   ·rename_i e
    rcases List.mem_cons.1 hs with rfl | hs
    ·exact ⟨Int.le_refl _,Int.le_refl _,x,by simp,by simp [e]⟩
    ·obtain ⟨h1,h2,v,h3,h4⟩:=iha b (p+1) (q+1) s hs
     refine ⟨by omega,by omega,v,?_,?_⟩
     ·rw [show (s.From - p).toNat=(s.From - (p+1)).toNat+1 by omega];simpa using h3
     ·rw [show (s.To - q).toNat=(s.To - (q+1)).toNat+1 by omega];simpa using h4
   ·split at hs
    ·obtain ⟨h1,h2,v,h3,h4⟩:=iha (y::b) (p+1) q s hs
     refine ⟨by omega,by omega,v,?_,h4⟩
     rw [show (s.From - p).toNat=(s.From - (p+1)).toNat+1 by omega];simpa using h3
    ·obtain ⟨h1,h2,v,h3,h4⟩:=ihb p (q+1) s hs
     refine ⟨by omega,by omega,v,h3,?_⟩
     rw [show (s.To - q).toNat=(s.To - (q+1)).toNat+1 by omega];simpa using h4
theorem E61:∀(ls:List PatchLine),ls.all B56=true→(ls.map szL).sum≤64*((F2 ls 43).length+(F2 ls 45).length)+((F2 ls 43).flatten.length+(F2 ls 45).flatten.length)
 | [],_=>by simp
 | q::ls,h=>by
  rw [List.all_cons,I96] at h
  have ih:=E61 ls h.2
  have hk:q.Kind=32∨q.Kind=45∨q.Kind=43:=by
   have hg:=h.1
   unfold B56 at hg
   have hg:=A0 hg
   by_cases h1:q.Kind=32
   ·exact .inl h1
   by_cases h2:q.Kind=45
   ·exact .inr (.inl h2)
   by_cases h3:q.Kind=43
   ·exact .inr (.inr h3)
   exact absurd (.inl ⟨⟨h1,h2⟩,h3⟩) hg
  have hd:∀k:UInt8,F2 (q::ls) k=if q.Kind≠k then q.Text::F2 ls k else F2 ls k:=by
   intro k
   unfold F2
   by_cases e:q.Kind=k
   ·rw [if_neg (by simpa using e),List.filter_cons_of_neg (by simpa using e)]
   ·rw [if_pos e,List.filter_cons_of_pos (by simpa using e)];rfl
  rw [hd 43,hd 45,J01,J26]
  have hz:szL q=q.Text.length+64:=rfl
  rcases hk with e | e | e<;>rw [e]<;>simp (decide:=true) only [if_true,if_false,ne_eq,not_true_eq_false,not_false_eq_true,I95,J05,I93]<;>omega
theorem B97:∀(hs:List PatchHunk) (i j:Int),C33 i j hs=true→szP hs≤128*((K9 hs 43).length+(K9 hs 45).length)+((K9 hs 43).flatten.length+(K9 hs 45).flatten.length)
 | [],_,_,_=>by simp [szP]
 | h :: hs,i,j,hg=>by
  simp only [C33,I96,decide_eq_true_eq] at hg
  obtain ⟨h1,h2,h3,h4⟩:=hg
  have ih:=B97 hs _ _ h4
  have hl:=E61 h.Lines h1
  have hne:1≤h.Lines.length:=by
   cases hq:h.Lines with
   | nil=>exact absurd (.inl (.inl (.inl (.inl (.inl (by rw [hq];rfl)))))) h2
   | cons a b=>simp
  have hcnt:h.Lines.length≤(F2 h.Lines 43).length+(F2 h.Lines 45).length:=by
   have:64*h.Lines.length≤(h.Lines.map szL).sum:=szL_len h.Lines
   have key:∀ls:List PatchLine,ls.length≤(F2 ls 43).length+(F2 ls 45).length:=by
    intro ls
    induction ls with
    | nil=>simp
    | cons q ls ih =>
     have hd:∀k:UInt8,(F2 (q::ls) k).length=if q.Kind≠k then (F2 ls k).length+1 else (F2 ls k).length:=by
      intro k
      unfold F2
      by_cases e:q.Kind=k
      ·rw [if_neg (by simpa using e),List.filter_cons_of_neg (by simpa using e)]
      ·rw [if_pos e,List.filter_cons_of_pos (by simpa using e)];simp
     rw [hd 43,hd 45,I95]
     by_cases e:q.Kind=43
     ·have e2:q.Kind≠45:=by rw [e];decide
      rw [if_pos e2];split<;>omega
     ·rw [if_pos e];split<;>omega
   exact key h.Lines
  have hsz:szP (h::hs)=szH h+szP hs:=by simp [szP]
  have hszh:szH h=64+(h.Lines.map szL).sum:=rfl
  have hs1:∀k,K9 (h::hs) k=F2 h.Lines k++K9 hs k:=by intro k;simp [K9]
  rw [hsz,hszh,hs1 43,hs1 45]
  simp only [I93,J14]
  omega
theorem C68:∀{s z:List Str},s.Sublist z→s.flatten.length≤z.flatten.length:=by
 intro s z hs
 induction hs with
 | slnil=>exact Nat.le_refl _
 | cons a _ ih=>simp only [J05,I93];omega
 | cons_cons a _ ih=>simp only [J05,I93];omega
theorem ScFit.size {x y:List Str} {l:List Change} (h:ScFit x y l) {ctx:Int} (hc:0≤ctx) (hx:∀s∈x,H9 s=true) (hy:∀s∈y,H9 s=true):szP (X3 l x y ctx)≤128*(x.length+y.length)+(x.flatten.length+y.flatten.length):=by
 obtain ⟨h1,h2,h3,_⟩:=h.hunks hc hx hy _ 0 (A33 l x.length ctx l.length) 0 0 0 rfl rfl (Int.le_refl _) hc (fun _=>rfl)
 have h4:=B97 _ _ _ h1
 have e:X3 l x y ctx=(U0 l x.length ctx l.length).map (X2 l x y):=rfl
 rw [←e] at h2 h3 h4
 have h2':(K9 (X3 l x y ctx) 43).Sublist x:=by simpa using h2
 have h3':(K9 (X3 l x y ctx) 45).Sublist y:=by simpa using h3
 have:=h2'.length_le
 have:=h3'.length_le
 have:=C68 h2'
 have:=C68 h3'
 omega
theorem E28 {a:Str} (h:a.length≤4096):B14 a=(B7 a,0):=by
 have:=Z7 a
 unfold B14;rw [if_neg (by omega)]
end Go.AL
namespace Go.AL
open Go
end Go.AL
namespace Go.AL
open Go
abbrev B57:Int→Nat→Cell:=fun x _=>.v (.int .u16 x)
abbrev pU16s (l:List Int):PV:=.one (.list Int 1 B57 l)
theorem G75 (n:Int) (h:0≤n∧n < 65536):IntKind.u16.wrap n=n:=by
 simp [IntKind.wrap,IntKind.signed,IntKind.bits];omega
def flat (a b:List Int) (done:Nat→Nat→Bool):List Int :=
 (List.range ((a.length+1)*(b.length+1))).map fun p=>if done (p / (b.length+1)) (p % (b.length+1))=true then (dist (a.drop (p / (b.length+1))) (b.drop (p % (b.length+1))):Int) else 0
theorem C69 (a b:List Int) (done:Nat→Nat→Bool):(flat a b done).length=(a.length+1)*(b.length+1):=by simp [flat]
theorem C99 {a b:List Int} {i j:Nat} (hi:i≤a.length) (hj:j≤b.length):i*(b.length+1)+j < (a.length+1)*(b.length+1)∧(i*(b.length+1)+j) / (b.length+1)=i∧(i*(b.length+1)+j) % (b.length+1)=j:=by
 refine ⟨?_,?_,?_⟩
 ·have:(i+1)*(b.length+1)≤(a.length+1)*(b.length+1):=J03 _ (by omega)
  rw [J11,Nat.one_mul] at this;omega
 ·rw [Nat.mul_comm,Nat.mul_add_div (by omega),Nat.div_eq_of_lt (by omega),Nat.add_zero]
 ·rw [Nat.mul_comm,Nat.mul_add_mod,Nat.mod_eq_of_lt (by omega)]
theorem D63 {a b:List Int} {done:Nat→Nat→Bool} {i j:Nat} (hi:i≤a.length) (hj:j≤b.length):(flat a b done)[i*(b.length+1)+j]?=some (if done i j=true then (dist (a.drop i) (b.drop j):Int) else 0):=by
 obtain ⟨h1,h2,h3⟩:=C99 hi hj
 unfold flat
 rw [C28 _ _ _ h1,h2,h3]
theorem G02 {a b:List Int} {done done':Nat→Nat→Bool} {i j:Nat} {v:Int} (hi:i≤a.length) (hj:j≤b.length) (hv:v=(dist (a.drop i) (b.drop j):Int)) (hd:done' i j=true)
  (ho:∀r q,r≤a.length→q≤b.length→¬(r=i∧q=j)→done' r q=done r q):(flat a b done).set (i*(b.length+1)+j) v=flat a b done':=by
 obtain ⟨h1,h2,h3⟩:=C99 hi hj
 unfold flat
 refine B13 _ _ _ _ _ (fun _=>?_) (fun q hq hne=>?_)
 ·rw [h2,h3,if_pos hd,hv]
 ·have hW:0 < b.length+1:=by omega
  have e:=Nat.div_add_mod q (b.length+1)
  have hr:q / (b.length+1)≤a.length:=by
   have:=(Nat.div_lt_iff_lt_mul hW).2 hq
   omega
  have hm:=Nat.mod_lt q hW
  rw [ho _ _ hr (by omega) (fun ⟨e1,e2⟩=>hne (by rw [e1,e2,Nat.mul_comm] at e;exact e.symm))]
theorem H82 (a b:List Int):List.replicate ((a.length+1)*(b.length+1)) 0=flat a b (fun _ _=>false):=by
 unfold flat
 simp only [Bool.false_eq_true,if_false]
 rw [List.map_const',J41]
theorem A41 {a b:List Int} {done done':Nat→Nat→Bool} (h:∀r q,r≤a.length→q≤b.length→(done r q=done' r q∨dist (a.drop r) (b.drop q)=0)):flat a b done=flat a b done':=by
 unfold flat
 apply List.map_congr_left
 intro p hp
 have hp:=List.mem_range.1 hp
 have hW:0 < b.length+1:=by omega
 have hr:p / (b.length+1)≤a.length:=by have:=(Nat.div_lt_iff_lt_mul hW).2 hp;omega
 have hm:=Nat.mod_lt p hW
 rcases h (p / (b.length+1)) (p % (b.length+1)) hr (by omega) with e | e
 ·rw [e]
 ·rw [e];simp
def S0:List Int→List Int→Nat
 | x::a,y::b=>if x=y then S0 a b+1 else 0
 | _,_=>0
theorem G03:∀(a b:List Int),S0 a b≤a.length∧S0 a b≤b.length
 | [],_=>by simp [S0]
 | _::_,[]=>by simp [S0]
 | x::a,y::b=>by
  have:=G03 a b
  unfold S0
  simp only [I95]
  split<;>omega
theorem D64 (a b:List Int) (k:Nat) (hk:k < a.length) (hk':k < b.length):S0 (a.drop k) (b.drop k)=if a[k]=b[k] then S0 (a.drop (k+1)) (b.drop (k+1))+1 else 0:=by
 rw [J00 hk,J00 hk'];rfl
theorem H83 (a b:List Int) (k:Nat) (h:¬(k < a.length∧k < b.length)):S0 (a.drop k) (b.drop k)=0:=by
 by_cases h1:k < a.length
 ·rw [J04 (as:=b) (by omega)]
  cases a.drop k<;>rfl
 ·rw [J04 (as:=a) (by omega)];rfl
theorem D65:∀(a b:List Int) (p q:Int),F3 p q a b=N8 p q (S0 a b)++F3 (p+S0 a b) (q+S0 a b) (a.drop (S0 a b)) (b.drop (S0 a b))
 | [],b,p,q=>by simp [S0,A30]
 | x::a,[],p,q=>by simp [S0,A30]
 | x::a,y::b,p,q=>by
  unfold S0
  by_cases h:x=y
  ·rw [if_pos h]
   conv=>lhs;unfold F3
   rw [if_pos h,D65 a b (p+1) (q+1),A29]
   simp only [List.drop_succ_cons,J27]
   rw [show p+1+(S0 a b:Int)=p+((S0 a b+1:Nat):Int) by omega,show q+1+(S0 a b:Int)=q+((S0 a b+1:Nat):Int) by omega]
  ·rw [if_neg h]
   simp [A30]
end Go.AL
namespace Go.AL
open Go
def W4 (l:List Merged) (bit:Int) (a b:Nat):List Merged:=((l.drop a).take (b - a)).map fun y=>⟨y.Line,I7 y.Parents bit⟩
def B98 (list:List Int) (bit:Int) (a n:Nat):List Merged:=((list.drop a).take n).map fun v=>⟨v,bit⟩
def Z9 (l:List Merged) (list:List Int) (bit:Int) (k:Nat):List Change→List Merged
 | []=>W4 l bit k l.length
 | c::r=>W4 l bit k c.Old.toNat++(l.drop c.Old.toNat).take c.OldLen.toNat++B98 list bit c.New.toNat c.NewLen.toNat++Z9 l list bit (c.Old.toNat+c.OldLen.toNat) r
theorem G76 {α:Type} (l:List α) {a b c:Nat} (h1:a≤b) (h2:b≤c):(l.drop a).take (c - a)=(l.drop a).take (b - a)++(l.drop b).take (c - b):=by
 have h:=List.take_add (l:=l.drop a) (i:=b - a) (j:=c - b)
 rw [List.drop_drop,show b - a+(c - b)=c - a by omega,show a+(b - a)=b by omega] at h
 exact h
theorem C70 (l:List Merged) (bit:Int) {a b c:Nat} (h1:a≤b) (h2:b≤c):W4 l bit a c=W4 l bit a b++W4 l bit b c:=by
 unfold W4;rw [G76 l h1 h2,J08]
theorem C37 (l:List Merged) (bit:Int) (a:Nat):W4 l bit a a=[]:=by unfold W4;simp
theorem C38 (l:List Merged) (bit:Int) {a:Nat} (h:a < l.length):W4 l bit a (a+1)=(l[a]?.map fun y=>(⟨y.Line,I7 y.Parents bit⟩:Merged)).toList:=by
 unfold W4
 rw [show a+1 - a=1 by omega,I94 h,J00 h]
 rfl
theorem D66 (l:List Merged) (list:List Int) (bit:Int):∀(ps:List Span) (k i j:Nat),k≤i→Asc l.length list.length i j ps →
  Z9 l list bit k (L8 i j ps l.length list.length)=W4 l bit k i++S6 l list bit i j ps
 | [],k,i,j,hk,ha=>by
  have h1:(i:Int)≤l.length∧(j:Int)≤list.length:=ha
  unfold L8 S6
  by_cases h:(l.length:Int) > i∨(list.length:Int) > j
  ·rw [if_pos h]
   simp only [Z9]
   rw [show (i:Int).toNat+((l.length:Int) - i).toNat=l.length by omega,C37,J17,I99,I99,show ((l.length:Int) - i).toNat=l.length - i by omega,show ((list.length:Int) - j).toNat=list.length - j by omega,J07]
   rfl
  ·rw [if_neg h]
   have e1:i=l.length:=by omega
   have e2:j=list.length:=by omega
   rw [e1,e2]
   simp [Z9]
 | x::r,k,i,j,hk,ha=>by
  obtain ⟨h1,h2,h3⟩:=ha
  have h4:=h3.le
  have e1:((x.From.toNat+1:Nat):Int)=x.From+1:=by omega
  have e2:((x.To.toNat+1:Nat):Int)=x.To+1:=by omega
  have ih:=fun k (hk:k≤x.From.toNat+1)=>D66 l list bit r k (x.From.toNat+1) (x.To.toNat+1) hk (by rw [e1,e2];exact h3)
  rw [e1,e2] at ih
  have hlt:x.From.toNat < l.length:=by omega
  unfold L8 S6
  by_cases h:x.From > i∨x.To > j
  ·rw [if_pos h,List.singleton_append,Z9]
   dsimp only
   rw [show (i:Int).toNat+(x.From - i).toNat=x.From.toNat by omega,ih _ (by omega),C38 l bit hlt,I99,I99,show (x.From - (i:Int)).toNat=x.From.toNat - i by omega,show (x.To - (j:Int)).toNat=x.To.toNat - j by omega]
   unfold B98
   simp only [J07]
  ·rw [if_neg h,J23]
   have e3:x.From.toNat=i:=by omega
   have e4:x.To.toNat=j:=by omega
   rw [ih k (by omega),C70 l bit hk (show i≤x.From.toNat+1 by omega),e3,e4,C38 l bit (by omega)]
   simp
theorem I35 (l:List Merged) (list:List Int) (bit:Int):Z9 l list bit 0 (K1 (G4 l) list)=S6 l list bit 0 0 (F3 0 0 (G4 l) list):=by
 have hasc:=S5 (G4 l) list 0 0
 rw [Int.zero_add,Int.zero_add,show (G4 l).length=l.length by simp [G4]] at hasc
 have:=D66 l list bit (F3 0 0 (G4 l) list) 0 0 0 (Nat.le_refl _) hasc
 rw [C37,J23] at this
 unfold K1 v8
 rw [show (G4 l).length=l.length by simp [G4]]
 exact this
def L4 (p:Int) (ms:List Int) (c:Change):List Int:=ms.mapIdx fun k m=>if c.New.toNat≤k∧k < c.New.toNat+c.NewLen.toNat then I7 m (G8 p) else m
theorem j9 (p:Int) (ms:List Int) (c:Change):(L4 p ms c).length=ms.length:=by simp [L4]
theorem w9 (p:Int) (ms:List Int) (c:Change) (k:Nat):(L4 p ms c)[k]?=ms[k]?.map fun m=>if c.New.toNat≤k∧k < c.New.toNat+c.NewLen.toNat then I7 m (G8 p) else m:=by
 unfold L4;rw [List.getElem?_mapIdx]
def O9 (cs:List Change) (k:Nat):Bool:=cs.any fun c=>decide (c.New.toNat≤k∧k < c.New.toNat+c.NewLen.toNat)
def A93 (ps:List Span) (k:Nat):Bool:=ps.any fun x=>decide (x.To.toNat=k)
theorem or_or (m b:Int):I7 (I7 m b) b=I7 m b:=by
 unfold I7
 have h:BitVec.ofInt IntKind.u32.bits (IntKind.u32.wrap ((BitVec.ofInt IntKind.u32.bits m ||| BitVec.ofInt IntKind.u32.bits b).toNat:Int))=BitVec.ofInt IntKind.u32.bits m ||| BitVec.ofInt IntKind.u32.bits b:=by
  rw [show IntKind.u32.wrap ((BitVec.ofInt IntKind.u32.bits m ||| BitVec.ofInt IntKind.u32.bits b).toNat:Int)=((BitVec.ofInt IntKind.u32.bits m ||| BitVec.ofInt IntKind.u32.bits b).toNat:Int) from y6 _ (by
   have:=(BitVec.ofInt IntKind.u32.bits m ||| BitVec.ofInt IntKind.u32.bits b).isLt
   exact this)]
  rw [BitVec.ofInt_natCast,BitVec.ofNat_toNat,BitVec.setWidth_eq]
 rw [h,BitVec.or_assoc,BitVec.or_self]
theorem D67 (p:Int):∀(cs:List Change) (ms:List Int) (k:Nat),(cs.foldl (L4 p) ms)[k]?=ms[k]?.map fun m=>if O9 cs k=true then I7 m (G8 p) else m
 | [],ms,k=>by simp [O9]
 | c::r,ms,k=>by
  rw [J19,D67 p r,w9,Option.map_map]
  congr 1
  funext m
  show (if O9 r k=true then I7 (if c.New.toNat≤k∧k < c.New.toNat+c.NewLen.toNat then I7 m (G8 p) else m) (G8 p) else if c.New.toNat≤k∧k < c.New.toNat+c.NewLen.toNat then I7 m (G8 p) else m)=if O9 (c::r) k=true then I7 m (G8 p) else m
  have e:O9 (c::r) k=(decide (c.New.toNat≤k∧k < c.New.toNat+c.NewLen.toNat)||O9 r k):=rfl
  rw [e]
  by_cases h1:c.New.toNat≤k∧k < c.New.toNat+c.NewLen.toNat
  ·rw [if_pos h1,decide_eq_true h1,Bool.true_or,if_pos rfl]
   cases O9 r k
   ·rw [if_neg (by decide)]
   ·rw [if_pos rfl,or_or]
  ·rw [if_neg h1,decide_eq_false h1,Bool.false_or]
theorem clr_clr (m b:Int):Z8 (Z8 m b) b=Z8 m b:=by
 unfold Z8
 have h:BitVec.ofInt IntKind.u32.bits (IntKind.u32.wrap ((BitVec.ofInt IntKind.u32.bits m &&& ~~~BitVec.ofInt IntKind.u32.bits b).toNat:Int))=BitVec.ofInt IntKind.u32.bits m &&& ~~~BitVec.ofInt IntKind.u32.bits b:=by
  rw [show IntKind.u32.wrap ((BitVec.ofInt IntKind.u32.bits m &&& ~~~BitVec.ofInt IntKind.u32.bits b).toNat:Int)=((BitVec.ofInt IntKind.u32.bits m &&& ~~~BitVec.ofInt IntKind.u32.bits b).toNat:Int) from y6 _ (by
   have:=(BitVec.ofInt IntKind.u32.bits m &&& ~~~BitVec.ofInt IntKind.u32.bits b).isLt
   exact this)]
  rw [BitVec.ofInt_natCast,BitVec.ofNat_toNat,BitVec.setWidth_eq]
 rw [h,BitVec.and_assoc,BitVec.and_self]
theorem E62 (p:Int):∀(ps:List Span) (ms:List Int) (k:Nat),(∀x∈ps,x.To.toNat < ms.length)→(ps.foldl (O7 p) ms)[k]?=ms[k]?.map fun m=>if A93 ps k=true then Z8 m (G8 p) else m
 | [],ms,k,_=>by simp [A93]
 | x::r,ms,k,hp=>by
  have hx:=hp x (by simp)
  have hlen:(O7 p ms x).length=ms.length:=by simp [O7]
  rw [J19,E62 p r _ k (fun y hy=>by rw [hlen];exact hp y (by simp [hy]))]
  have hget:(O7 p ms x)[k]?=ms[k]?.map fun m=>if x.To.toNat=k then Z8 m (G8 p) else m:=by
   unfold O7
   rw [List.getElem?_set]
   by_cases h:x.To.toNat=k
   ·subst h
    rw [if_pos rfl,if_pos hx,I94 hx,I98,I94 hx]
    simp
   ·rw [if_neg h];simp [h]
  rw [hget,Option.map_map]
  congr 1
  funext m
  show (if A93 r k=true then Z8 (if x.To.toNat=k then Z8 m (G8 p) else m) (G8 p) else if x.To.toNat=k then Z8 m (G8 p) else m)=if A93 (x::r) k=true then Z8 m (G8 p) else m
  have e:A93 (x::r) k=(decide (x.To.toNat=k)||A93 r k):=rfl
  rw [e]
  by_cases h1:x.To.toNat=k
  ·rw [if_pos h1,decide_eq_true h1,Bool.true_or,if_pos rfl]
   cases A93 r k
   ·rw [if_neg (by decide)]
   ·rw [if_pos rfl,clr_clr]
  ·rw [if_neg h1,decide_eq_false h1,Bool.false_or]
theorem clr_or (m:Nat) (p:Nat) (hp:p < 32) (hm:m < 2 ^ p):Z8 (I7 m (G8 p)) (G8 p)=m:=by
 have h2:2 ^ p < 2 ^ 32:=Nat.pow_lt_pow_right (by decide) hp
 have hb:G8 (p:Int)=((2 ^ p:Nat):Int):=by
  unfold G8
  rw [G69 (n:=(p:Int)) (by omega),show min ((p:Int)).toNat IntKind.u32.bits=p by rw [I99];exact Nat.min_eq_left (by show p≤32;omega),Int.one_mul]
  rw [show (2:Int) ^ p=((2 ^ p:Nat):Int) by simp]
  exact y6 _ (by omega)
 rw [hb]
 obtain ⟨h3,h4⟩:=A86 m (2 ^ p) (by omega) (by omega)
 rw [h3]
 unfold Z8
 have e1:BitVec.ofInt IntKind.u32.bits (((m ||| 2 ^ p:Nat)):Int)=BitVec.ofNat 32 (m ||| 2 ^ p):=by simp [BitVec.ofInt_natCast];rfl
 have e2:BitVec.ofInt IntKind.u32.bits ((2 ^ p:Nat):Int)=BitVec.ofNat 32 (2 ^ p):=by rw [BitVec.ofInt_natCast];rfl
 rw [e1,e2]
 have h5:(BitVec.ofNat 32 (m ||| 2 ^ p) &&& ~~~BitVec.ofNat 32 (2 ^ p))=BitVec.ofNat 32 m:=by
  apply BitVec.eq_of_getLsbD_eq
  intro i hi
  simp only [BitVec.getLsbD_and,BitVec.getLsbD_not,BitVec.getLsbD_ofNat,hi,decide_true,Bool.true_and,Nat.testBit_or,Nat.testBit_two_pow]
  by_cases hip:p=i
  ·subst hip
   simp [Nat.testBit_lt_two_pow hm]
  ·simp [hip]
 have h6:(BitVec.ofNat 32 m).toNat=m:=by rw [BitVec.toNat_ofNat];exact Nat.mod_eq_of_lt (by omega)
 have h7:((BitVec.ofNat 32 (m ||| 2 ^ p) &&& ~~~BitVec.ofNat 32 (2 ^ p)).toNat:Int)=m:=by rw [h5,h6]
 exact (congrArg IntKind.u32.wrap h7).trans (y6 _ (by omega))
end Go.AL
namespace Go.AL
open Go
theorem G04 (a b:List Span) (k:Nat):A93 (a++b) k=(A93 a k||A93 b k):=by unfold A93;rw [List.any_append]
theorem B99 (i j:Int) (t:Nat) (k:Nat) (hj:0≤j):A93 (N8 i j t) k=decide (j≤k∧(k:Int) < j+t):=by
 unfold A93 N8
 rw [List.any_map,Bool.eq_iff_iff,List.any_eq_true,decide_eq_true_eq]
 constructor
 ·rintro ⟨s,hs,h⟩
  have h1:=List.mem_range.1 hs
  have h2:(j+(s:Int)).toNat=k:=A0 h
  omega
 ·rintro ⟨h1,h2⟩
  refine ⟨((k:Int) - j).toNat,List.mem_range.2 (by omega),?_⟩
  show decide ((j+((((k:Int) - j).toNat:Nat):Int)).toNat=k)=true
  exact decide_eq_true (by omega)
theorem D68 (c:Change) (r:List Change) (k:Nat):O9 (c::r) k=(decide (c.New.toNat≤k∧k < c.New.toNat+c.NewLen.toNat)||O9 r k):=rfl
theorem E63:∀(cs:List Change) (k0:Nat) (i j m n:Int),I8 k0 i j cs m n=true→0≤i→0≤j →
  (∀k:Nat,(k:Int) < j→A93 (J2 i j cs m) k=false∧O9 cs k=false)∧∀k:Nat,j≤k→(k:Int) < n→A93 (J2 i j cs m) k=!O9 cs k
 | [],k0,i,j,m,n,h,h1,h2=>by
  simp only [I8,decide_eq_true_eq] at h
  unfold J2
  refine ⟨fun k hk=>⟨?_,rfl⟩,fun k hk hk2=>?_⟩
  ·rw [B99 _ _ _ _ h2];exact decide_eq_false (by omega)
  ·rw [B99 _ _ _ _ h2]
   show _=true
   exact decide_eq_true (by omega)
 | c :: r,k0,i,j,m,n,h,h1,h2=>by
  simp only [I8,I96,decide_eq_true_eq] at h
  obtain ⟨hb,hr⟩:=h
  have hc:(0≤c.OldLen∧0≤c.NewLen∧i≤c.Old∧c.Old - i=c.New - j):=by
   unfold F24 K4 at hb
   by_cases a2:(0≤c.OldLen∧c.OldLen≤4096)<;>by_cases a4:(0≤c.NewLen∧c.NewLen≤4096)<;>simp [a2,a4] at hb ⊢<;>omega
  obtain ⟨c1,c2,c3,c4⟩:=hc
  obtain ⟨i1,i2⟩:=E63 r (k0+1) (c.Old+c.OldLen) (c.New+c.NewLen) m n hr (by omega) (by omega)
  unfold J2
  rw [show max i c.Old=c.Old by omega,show j+((c.Old - i).toNat:Int)+c.NewLen=c.New+c.NewLen by omega]
  refine ⟨fun k hk=>?_,fun k hk hk2=>?_⟩
  ·obtain ⟨q1,q2⟩:=i1 k (by omega)
   rw [G04,B99 _ _ _ _ h2,D68,q1,q2,decide_eq_false (by omega),decide_eq_false (by omega)]
   exact ⟨rfl,rfl⟩
  ·rw [G04,B99 _ _ _ _ h2,D68]
   by_cases g1:(k:Int) < c.New
   ·obtain ⟨q1,q2⟩:=i1 k (by omega)
    rw [q1,q2,decide_eq_true (by omega),decide_eq_false (by omega)];rfl
   ·rw [decide_eq_false (by omega),Bool.false_or]
    by_cases g2:(k:Int) < c.New+c.NewLen
    ·obtain ⟨q1,q2⟩:=i1 k g2
     rw [q1,decide_eq_true (by omega)];rfl
    ·rw [i2 k (by omega) hk2,decide_eq_false (by omega),Bool.false_or]
theorem H27 {m n:Int}:∀{p:List Span} {i j:Int},Asc m n i j p→∀x∈p,i≤x.From∧x.From < m∧j≤x.To∧x.To < n
 | x::r,i,j,h,y,hy=>by
  obtain ⟨h1,h2,h3⟩:=h
  have h4:=h3.le
  rcases List.mem_cons.1 hy with rfl | hy
  ·omega
  ·have:=H27 h3 y hy;omega
def m8 (ids:List (List Int)) (s:Loom) (p:Nat):Loom :=
 let file:=ids.getD (p+1) []
 let sc:=K1 file (ids.getD 0 [])
 (sc.foldl (L4 p) s.1,sc.foldl (L9 p file) s.2)
def i7 (ids:List (List Int)) (lines n p:Nat):Loom:=(List.range p).foldl (m8 ids) (q8 lines n)
theorem A94 (ids:List (List Int)) (lines n p:Nat):i7 ids lines n (p+1)=m8 ids (i7 ids lines n p) p:=by
 unfold i7;rw [J32,J34];rfl
def LowM (p:Nat) (ms:List Int):Prop:=∀v∈ms,0≤v∧v < ((2 ^ p:Nat):Int)
theorem B16 {p:Nat} (hp:p < 32):G8 (p:Int)=((2 ^ p:Nat):Int):=by
 have h2:2 ^ p < 2 ^ 32:=Nat.pow_lt_pow_right (by decide) hp
 unfold G8
 rw [G69 (n:=(p:Int)) (by omega),show min ((p:Int)).toNat IntKind.u32.bits=p by rw [I99];exact Nat.min_eq_left (by show p≤32;omega),Int.one_mul]
 rw [show (2:Int) ^ p=((2 ^ p:Nat):Int) by simp]
 exact y6 _ (by omega)
theorem or_low {m:Int} {p:Nat} (hp:p < 32) (h:0≤m∧m < ((2 ^ p:Nat):Int)):0≤I7 m (G8 p)∧I7 m (G8 p) < ((2 ^ (p+1):Nat):Int):=by
 have h2:2 ^ p < 2 ^ 32:=Nat.pow_lt_pow_right (by decide) hp
 obtain ⟨q,rfl⟩:∃q:Nat,m=q:=⟨m.toNat,by omega⟩
 have hq:q < 2 ^ p:=by omega
 rw [B16 hp]
 obtain ⟨h3,_⟩:=A86 q (2 ^ p) (by omega) (by omega)
 rw [h3]
 have h4:q ||| 2 ^ p < 2 ^ (p+1):=Nat.or_lt_two_pow (by rw [Nat.pow_succ];omega) (by rw [Nat.pow_succ];omega)
 omega
theorem H84 {ids:List (List Int)} {s:Loom} {p:Nat} {file base:List Int} (hf:file=ids.getD (p+1) []) (hb:base=ids.getD 0 []) (hp:p < 32) (hlow:LowM p s.1) (hlen:s.1.length=base.length) (hfl:file.length≤4096) (hbl:base.length≤4096) :
  m8 ids s p=K2 ids s p∧LowM (p+1) (m8 ids s p).1∧(m8 ids s p).1.length=base.length:=by
 have hasc:=S5 file base 0 0
 rw [Int.zero_add,Int.zero_add] at hasc
 have hsc:=B15 (m:=file.length) (n:=base.length) ⟨by omega,by omega⟩ ⟨by omega,by omega⟩ (F3 0 0 file base) 0 0 0 0 0 hasc (by omega) (by omega) (by omega) (by omega) (by omega)
 obtain ⟨_,hm⟩:=E63 _ 0 0 0 file.length base.length hsc (by omega) (by omega)
 have hmade:=F17 file base
 obtain ⟨sc,hscd⟩:∃sc,sc=K1 file base:=⟨_,rfl⟩
 have hsc2:L8 0 0 (F3 0 0 file base) file.length base.length=sc:=by rw [hscd];rfl
 rw [hsc2] at hm
 have e1:m8 ids s p=(sc.foldl (L4 p) s.1,sc.foldl (L9 p file) s.2):=by rw [hscd,hf,hb];rfl
 have e2:K2 ids s p=((R5 sc file.length).foldl (O7 p) (s.1.map (I7 · (G8 p))),sc.foldl (L9 p file) s.2):=by rw [hscd,hf,hb];rfl
 have hget:=D67 p sc s.1
 have hlen1:(sc.foldl (L4 p) s.1).length=s.1.length:=by
  have key:∀(cs:List Change) (ms:List Int),(cs.foldl (L4 p) ms).length=ms.length:=by
   intro cs
   induction cs with
   | nil=>intro ms;rfl
   | cons c r ih=>intro ms;rw [J19,ih,j9]
  exact key sc s.1
 refine ⟨?_,?_,by rw [e1];dsimp only;rw [hlen1,hlen]⟩
 ·rw [e1,e2,Prod.mk.injEq]
  refine ⟨?_,rfl⟩
  refine List.ext_getElem? fun k=>?_
  have hto:∀x∈R5 sc file.length,x.To.toNat < (s.1.map (I7 · (G8 p))).length:=by
   intro x hx
   rw [J13,hlen]
   rw [hscd,hmade] at hx
   have:=H27 hasc x hx
   omega
  rw [hget,E62 p _ _ k hto,J22,Option.map_map]
  cases hk:s.1[k]? with
  | none=>rfl
  | some v =>
   have hkl:k < base.length:=by have:=(List.getElem?_eq_some_iff.1 hk).1;omega
   have h3:=hm k (by omega) (by omega)
   have hv:=hlow v (J10 hk)
   show some (if O9 sc k=true then I7 v (G8 p) else v)=some (if A93 (R5 sc file.length) k=true then Z8 (I7 v (G8 p)) (G8 p) else I7 v (G8 p))
   have h3:A93 (R5 sc file.length) k=!O9 sc k:=h3
   rw [h3]
   cases O9 sc k
   ·obtain ⟨q,rfl⟩:∃q:Nat,v=q:=⟨v.toNat,by omega⟩
    rw [if_neg (by decide),if_pos (show (!false)=true from rfl),clr_or q p hp (by omega)]
   ·rw [if_pos rfl,if_neg (by decide)]
 ·rw [e1]
  intro v hv
  obtain ⟨k,hk,rfl⟩:=List.mem_iff_getElem.1 hv
  have hkl:k < s.1.length:=by rw [←hlen1];exact hk
  have h4:=hget k
  rw [I94 hk,I94 hkl] at h4
  have h4:(sc.foldl (L4 p) s.1)[k]=if O9 sc k=true then I7 s.1[k] (G8 p) else s.1[k]:=Option.some.inj h4
  show 0≤(sc.foldl (L4 p) s.1)[k]∧(sc.foldl (L4 p) s.1)[k] < _
  rw [h4]
  have hv:=hlow s.1[k] (J06 hkl)
  split
  ·exact or_low hp hv
  ·have:2 ^ p≤2 ^ (p+1):=Nat.pow_le_pow_right (by decide) (by omega)
   omega
theorem B17 {ids:List (List Int)} {base:List Int} {n:Nat} (hb:base=ids.getD 0 []) (hl:∀x∈ids,x.length≤4096) (hbl:base.length≤4096):∀p,p≤32→i7 ids base.length n p=M1 ids base.length n p∧LowM p (i7 ids base.length n p).1∧(i7 ids base.length n p).1.length=base.length
 | 0,_=>by
  refine ⟨rfl,fun v hv=>?_,by simp [i7,q8]⟩
  have:=List.eq_of_mem_replicate (show v∈List.replicate base.length 0 from hv)
  subst this;decide
 | p+1,hp=>by
  obtain ⟨h1,h2,h3⟩:=B17 (n:=n) hb hl hbl p (by omega)
  have hfl:(ids.getD (p+1) []).length≤4096:=by
   rw [I98]
   cases hx:ids[p+1]? with
   | none=>simp
   | some x=>exact hl x (J10 hx)
  obtain ⟨s1,s2,s3⟩:=H84 (ids:=ids) (s:=i7 ids base.length n p) (p:=p) rfl hb (by omega) h2 h3 hfl hbl
  rw [A94,A83,s1,h1]
  rw [s1,h1] at s2 s3
  exact ⟨rfl,s2,s3⟩
theorem G05 (p:Int) (ms:List Int) (a b d:Int):L4 p ms ⟨a,b,d,0⟩=ms:=by
 refine List.ext_getElem? fun k=>?_
 rw [w9]
 cases h:ms[k]? with
 | none=>rfl
 | some v=>simp only [Option.map_some];rw [if_neg (by omega)]
theorem G06 (p:Int) (ms:List Int) (a b:Int) (d t:Nat) (h:d+t < ms.length):(L4 p ms ⟨a,b,d,t⟩)[d+t]?=some (ms.getD (d+t) 0)∧(L4 p ms ⟨a,b,d,t⟩).set (d+t) (I7 (ms.getD (d+t) 0) (G8 p))=L4 p ms ⟨a,b,d,((t+1:Nat):Int)⟩:=by
 have hg:ms[d+t]?=some (ms.getD (d+t) 0):=by rw [I98,I94 h];rfl
 refine ⟨?_,?_⟩
 ·rw [w9,hg]
  simp only [Option.map_some,I99]
  rw [if_neg (by omega)]
 ·refine List.ext_getElem? fun k=>?_
  rw [List.getElem?_set,w9,w9,j9]
  simp only [I99]
  by_cases hk:d+t=k
  ·subst hk
   rw [if_pos rfl,if_pos h,hg]
   simp only [Option.map_some]
   rw [if_pos (by omega)]
  ·rw [if_neg hk]
   cases ms[k]? with
   | none=>rfl
   | some v =>
    simp only [Option.map_some]
    by_cases g:d≤k∧k < d+t
    ·rw [if_pos g,if_pos (by omega)]
    ·rw [if_neg g,if_neg (by omega)]
end Go.AL
namespace Go.AL
open Go
def GrX (l:List Change) (m ctx:Int):Nat→List Hunk→Nat→Prop
 | a,[],k=>a=k
 | a,h::r,k=>∃b,a < b∧opens l ctx a∧(∀c,a < c→c < b→¬opens l ctx c)∧h=mkH l m ctx a b∧GrX l m ctx b r k
theorem GrX.le {l:List Change} {m ctx:Int}:∀{hs:List Hunk} {a k:Nat},GrX l m ctx a hs k→a≤k
 | [],a,k,h=>Nat.le_of_eq h
 | _::_,a,k,⟨b,h1,_,_,_,h2⟩=>by have:=GrX.le h2;omega
theorem GrX.snoc {l:List Change} {m ctx:Int} {k n:Nat} (ho:opens l ctx k) (hk:k < n) (hno:∀c,k < c→c < n→¬opens l ctx c):∀{hs:List Hunk} {a:Nat},GrX l m ctx a hs k→GrX l m ctx a (hs++[mkH l m ctx k n]) n
 | [],a,h=>by
  obtain rfl:a=k:=h
  exact ⟨n,hk,ho,hno,rfl,rfl⟩
 | _::_,a,⟨b,h1,h2,h3,h4,h5⟩=>⟨b,h1,h2,h3,h4,GrX.snoc ho hk hno h5⟩
theorem GrX.last {l:List Change} {m ctx:Int} {k:Nat} (hno:¬opens l ctx k):∀{hs:List Hunk} {a:Nat},GrX l m ctx a hs k→hs≠[]→GrX l m ctx a (hs.set (hs.length - 1) (B93 l m ctx k (hs.getD (hs.length - 1) H22))) (k+1)
 | [],_,_,h0=>absurd rfl h0
 | [h],a,⟨b,h1,h2,h3,h4,h5⟩,_=>by
  obtain rfl:b=k:=h5
  subst h4
  refine ⟨b+1,by omega,h2,fun c hc1 hc2=>?_,rfl,rfl⟩
  by_cases hcb:c=b
  ·rw [hcb];exact hno
  ·exact h3 c hc1 (by omega)
 | h::h'::r,a,⟨b,h1,h2,h3,h4,h5⟩,_=>by
  have ih:=GrX.last hno h5 (by simp)
  refine ⟨b,h1,h2,h3,h4,?_⟩
  simpa using ih
theorem GrX.len {l:List Change} {m ctx:Int}:∀{hs:List Hunk} {a k:Nat},GrX l m ctx a hs k→hs.length≤k - a
 | [],_,_,_=>Nat.zero_le _
 | _::_,a,k,⟨b,h1,_,_,_,h2⟩=>by have:=GrX.len h2;have:=h2.le;simp only [I95];omega
end Go.AL
namespace Go.AL
open Go
def s5:List Str→Int→List (Str × Cell)
 | [],_=>[]
 | s::r,i=>(s,.v (.int .i64 i))::s5 r (i+1)
theorem E64 (s:Str):∀(l:List Str) (i:Int),s5 (l++[s]) i=s5 l i++[(s,.v (.int .i64 (i+l.length)))]
 | [],i=>by simp [s5]
 | x::r,i=>by
  simp only [J27,s5,E64 s r,I95]
  rw [show i+1+(r.length:Int)=i+((r.length+1:Nat):Int) by omega]
theorem E65 (s:Str):∀(l:List Str) (i:Int),s∈l→n6 (s5 l i) s=some (.v (.int .i64 (H2 l s i)))
 | [],_,h=>by simp at h
 | x::r,i,h=>by
  simp only [s5,n6,H2]
  by_cases he:x=s
  ·rw [if_pos he,if_pos he]
  ·rw [if_neg he,if_neg he]
   exact E65 s r (i+1) ((List.mem_cons.1 h).resolve_left (fun q=>he q.symm))
theorem D69 (s:Str):∀(l:List Str) (i:Int),s∉l→n6 (s5 l i) s=none
 | [],_,_=>rfl
 | x::r,i,h=>by
  simp only [s5,n6]
  rw [if_neg (fun q=>h (by simp [q]))]
  exact D69 s r (i+1) (fun q=>h (by simp [q]))
theorem A95 (s:Str) (r:List Str):∀(l:List Str) (i:Int),s∈l→H2 (l++r) s i=H2 l s i
 | [],_,h=>by simp at h
 | x::l,i,h=>by
  simp only [J27,H2]
  by_cases he:x=s
  ·rw [if_pos he,if_pos he]
  ·rw [if_neg he,if_neg he]
   exact A95 s r l (i+1) ((List.mem_cons.1 h).resolve_left (fun q=>he q.symm))
theorem C71 (s:Str):∀(l:List Str) (i:Int),s∉l→H2 (l++[s]) s i=i+l.length
 | [],i,_=>by simp [H2]
 | x::l,i,h=>by
  simp only [J27,H2,I95]
  rw [if_neg (fun q=>h (by simp [q])),C71 s l (i+1) (fun q=>h (by simp [q]))]
  omega
theorem C00:∀(l out:List Str),∃r,l.foldl J1 out=out++r
 | [],out=>⟨[],by simp⟩
 | s::l,out=>by
  obtain ⟨r,hr⟩:=C00 l (J1 out s)
  rw [J19,hr]
  unfold J1
  split
  ·exact ⟨r,rfl⟩
  ·exact ⟨s::r,by simp⟩
def L0 (files:List (List Str)) (k j:Nat):List Str:=((files.take k).flatten++(files.getD k []).take j).foldl J1 []
theorem G07 (files:List (List Str)) (k:Nat):L0 files (k+1) 0=L0 files k (files.getD k []).length:=by
 unfold L0
 rw [List.take_zero,J17,J21]
 by_cases h:k < files.length
 ·rw [y2 files k h]
  congr 2
  simp [h]
 ·rw [J25 (by omega),J25 (by omega)]
  have:files.getD k []=[]:=by simp [show files.length≤k by omega]
  rw [this,J17]
theorem F29 (files:List (List Str)) (k j:Nat) (s:Str) (h:(files.getD k [])[j]?=some s):L0 files k (j+1)=J1 (L0 files k j) s:=by
 unfold L0
 have hj:j < (files.getD k []).length:=(List.getElem?_eq_some_iff.1 h).1
 have he:=(List.getElem?_eq_some_iff.1 h).2
 rw [J02 hj,he,←J07,J34]
 rfl
theorem G08 (files:List (List Str)):L0 files files.length 0=H0 files:=by
 unfold L0 H0
 rw [J21];simp
theorem C72 (files:List (List Str)) (k j:Nat):∃r,H0 files=L0 files k j++r:=by
 have h:∃m,files.flatten=((files.take k).flatten++(files.getD k []).take j)++m:=by
  refine ⟨(files.getD k []).drop j++(files.drop (k+1)).flatten,?_⟩
  by_cases hk:k < files.length
  ·have e:files=files.take k++files.getD k []::files.drop (k+1):=by
    have:files.getD k []=files[k]:=by simp [hk]
    rw [this,List.getElem_cons_drop,J29]
   conv=>lhs;rw [e]
   rw [J14,J05,J07]
   congr 1
   rw [←J07,J29]
  ·have:files.getD k []=[]:=by simp [show files.length≤k by omega]
   rw [this,J25 (by omega:files.length≤k),J04 (by omega:files.length≤k+1)]
   simp
 obtain ⟨m,hm⟩:=h
 unfold H0 L0
 rw [hm,J34]
 obtain ⟨r,hr⟩:=C00 m (((files.take k).flatten++(files.getD k []).take j).foldl J1 [])
 exact ⟨r,hr⟩
theorem D70 (files:List (List Str)) (k j:Nat):(L0 files k j).length≤files.flatten.length:=by
 obtain ⟨r,hr⟩:=C72 files k j
 have:=D49 files
 rw [hr,I93] at this;omega
def L7 (files:List (List Str)) (k:Nat):List TC:=(List.range files.length).map fun r=>if r < k then .p (.list Int 1 G5 (M3 (H0 files) (files.getD r []))) else .p (.v (.slice none 0 0))
theorem H85 {files:List (List Str)} {k:Nat} (h:k < files.length):(L7 files k)[k]?=some (.p (.v (.slice none 0 0))):=by
 simp [L7,h]
theorem F30 (files:List (List Str)) (k m:Nat) (_h:k < files.length):((L7 files k).set k (.buf m Int 1 G5 (M3 (H0 files) (files.getD k [])))).map (TC.forget m)=L7 files (k+1):=by
 have e1:(L7 files k).map (TC.forget m)=L7 files k:=by
  unfold L7
  rw [J28]
  apply List.map_congr_left
  intro r _
  simp only [Function.comp]
  split<;>rfl
 rw [List.map_set,e1]
 have e2:(TC.buf m Int 1 G5 (M3 (H0 files) (files.getD k []))).forget m=.p (.list Int 1 G5 (M3 (H0 files) (files.getD k []))):=by simp [TC.forget]
 rw [e2]
 unfold L7
 refine B13 _ _ _ _ _ (fun _=>by simp) (fun q hq hne=>?_)
 simp only [show (q < k+1)=(q < k) from propext ⟨fun h=>by omega,fun h=>by omega⟩]
theorem G77 (files:List (List Str)):List.replicate files.length (TC.p (.v (.slice none 0 0)))=L7 files 0:=by
 unfold L7
 simp only [Nat.not_lt_zero,if_false,List.map_const',J41]
theorem G78 (files:List (List Str)):L7 files files.length=(files.map (M3 (H0 files))).map fun x=>TC.p (intsC x 0):=by
 unfold L7
 apply List.ext_getElem
 ·simp
 ·intro i h1 h2
  have hi:i < files.length:=by simpa using h1
  simp [hi,intsC]
end Go.AL
namespace Go.AL
open Go
theorem H28 (m n:Int):∀(l:List Change) (k0:Nat) (i j:Int),(∀k,k < l.length→K4 (cAt l k).Old∧K4 (cAt l k).OldLen∧K4 (cAt l k).New∧K4 (cAt l k).NewLen∧(cAt l k).OldLen+(cAt l k).NewLen≠0∧(cAt l k).Old - eoI i l k=(cAt l k).New - enI j l k∧eoI i l k≤(cAt l k).Old∧(0 < k0+k→eoI i l k < (cAt l k).Old)) →
  (m - eoI i l l.length=n - enI j l l.length∧eoI i l l.length≤m)→I8 k0 i j l m n=true
 | [],k0,i,j,_,h=>by
  have h1:m - i=n - j∧i≤m:=h
  simp only [I8,decide_eq_true_eq];omega
 | c::r,k0,i,j,h,he=>by
  simp only [I8,I96,decide_eq_true_eq]
  refine ⟨?_,H28 m n r (k0+1) _ _ (fun k hk=>?_) ?_⟩
  ·obtain ⟨h1,h2,h3,h4,h5,h6,h7,h8⟩:=h 0 (by simp)
   have h1:K4 c.Old:=h1
   have h2:K4 c.OldLen:=h2
   have h3:K4 c.New:=h3
   have h4:K4 c.NewLen:=h4
   have h5:c.OldLen+c.NewLen≠0:=h5
   have h6:c.Old - i=c.New - j:=h6
   have h7:i≤c.Old:=h7
   have h8:0 < k0+0→i < c.Old:=h8
   unfold F24
   rintro (((((((q | q) | q) | q) | q) | q) | q) | ⟨q,q2⟩)
   ·exact q h1
   ·exact q h2
   ·exact q h3
   ·exact q h4
   ·exact h5 q
   ·exact q h6
   ·omega
   ·have:=h8 (by omega);omega
  ·have:=h (k+1) (by simpa using hk)
   rw [B96,m6,m7] at this
   obtain ⟨e1,e2,e3,e4,e5,e6,e7,e8⟩:=this
   exact ⟨e1,e2,e3,e4,e5,e6,e7,fun h0=>e8 (by omega)⟩
  ·rw [I95,m6,m7] at he;exact he
theorem H29 (x y:List Str):∀(l:List Change) (i j:Int),(∀k,k < l.length→sub x (eoI i l k) (cAt l k).Old=sub y (enI j l k) (cAt l k).New)→sub x (eoI i l l.length) x.length=sub y (enI j l l.length) y.length→C35 x y i j l
 | [],_,_,_,h=>h
 | c::r,i,j,h,he=>by
  refine ⟨h 0 (by simp),H29 x y r _ _ (fun k hk=>?_) ?_⟩
  ·have:=h (k+1) (by simpa using hk)
   rw [B96,m6,m7] at this;exact this
  ·rw [I95,m6,m7] at he;exact he
theorem H30 {x:List Str} {p q:Int} {t:Nat} (h0:0≤p) (h:p+t < q):(sub x p q)[t]?=x[(p+t).toNat]?:=by
 unfold sub
 rw [List.getElem?_take,if_pos (by omega),J31]
 congr 1;omega
theorem F31 {x y:List Str} {p q p' q':Int} (h:sub x p q=sub y p' q') (h0:0≤p) (h0':0≤p') (hq:q≤x.length) (he:q - p=q' - p') {t:Nat} (ht:p+t < q):∃v,x[(p+t).toNat]?=some v∧y[(p'+t).toNat]?=some v:=by
 have h1:x[(p+t).toNat]?=some x[(p+t).toNat]:=I94 (by omega)
 refine ⟨_,h1,?_⟩
 rw [←H30 (q:=q') h0' (by omega),←h,H30 h0 ht];exact h1
theorem C73 {i j:Int} {n:Nat} {p:Span} (h:p∈N8 i j n):∃t:Nat,t < n∧p=⟨i+t,j+t⟩:=by
 unfold N8 at h
 obtain ⟨t,h1,h2⟩:=List.mem_map.1 h
 exact ⟨t,List.mem_range.1 h1,h2.symm⟩
theorem D71 {x y:List Str}:∀(l:List Change) (k0:Nat) (i j:Int),I8 k0 i j l x.length y.length=true→C35 x y i j l→0≤i→0≤j→∀p∈J2 i j l x.length,EqAt x y p
 | [],k0,i,j,hs,he,hi,hj,p,hp=>by
  simp only [I8,decide_eq_true_eq] at hs
  unfold J2 at hp
  obtain ⟨t,ht,rfl⟩:=C73 hp
  have he:sub x i x.length=sub y j y.length:=he
  exact ⟨by dsimp only;omega,by dsimp only;omega,F31 he hi hj (by omega) (by omega) (by omega)⟩
 | c::r,k0,i,j,hs,he,hi,hj,p,hp=>by
  have hok:=y7 _ _ _ _ _ _ hs
  have g:=w8 x.length y.length (c::r) k0 i j hs 0 (by simp)
  obtain ⟨g1,g2,g3,g4,g5,g6,g7,_⟩:=g
  have g1:K4 c.Old:=g1
  have g2:K4 c.OldLen:=g2
  have g3:K4 c.New:=g3
  have g4:K4 c.NewLen:=g4
  have g6:c.Old - i=c.New - j:=g6
  have g7:i≤c.Old:=g7
  simp only [I8,I96,decide_eq_true_eq] at hs
  unfold J2 at hp
  unfold K4 at g1 g2 g3 g4
  have hm:=hok.2.2.2.2.2.2.end_le
  rcases List.mem_append.1 hp with hp | hp
  ·obtain ⟨t,ht,rfl⟩:=C73 hp
   exact ⟨by dsimp only;omega,by dsimp only;omega,F31 he.1 hi hj (by omega) (by omega) (by omega)⟩
  ·rw [show max i c.Old+c.OldLen=c.Old+c.OldLen by omega,show j+((c.Old - i).toNat:Int)+c.NewLen=c.New+c.NewLen by omega] at hp
   exact D71 r (k0+1) _ _ hs.2 he.2 (by omega) (by omega) p hp
theorem ScFit.pairs {x y:List Str} {l:List Change} (h:ScFit x y l):∀p∈R5 l x.length,EqAt x y p:=D71 l 0 0 0 h.sc h.eq (Int.le_refl _) (Int.le_refl _)
def C39 (c:Change):Change:=⟨c.Old+1,c.OldLen,c.New+1,c.NewLen⟩
def A42 (l:List Change) (k:Nat):List Change:=l.set k (C39 (cAt l k))
def atI (t:List Int) (i:Int):Int:=t.getD i.toNat 0
def H31 (l:List Change) (k:Nat) (t:List Int) (f n:Int):Prop:=(f+n < t.length∧atI t f=atI t (f+n))∧(k+1=l.length∨(cAt l k).Old+(cAt l k).OldLen+1 < (cAt l (k+1)).Old)
instance (l:List Change) (k:Nat) (t:List Int) (f n:Int):Decidable (H31 l k t f n):=by unfold H31;exact inferInstance
def D00 (l:List Change) (a b:List Int) (k:Nat):Bool :=
 if (cAt l k).NewLen=0 then decide (H31 l k a (cAt l k).Old (cAt l k).OldLen) else if (cAt l k).OldLen=0 then decide (H31 l k b (cAt l k).New (cAt l k).NewLen) else false
theorem a6 (l:List Change) (k:Nat):(A42 l k).length=l.length:=by simp [A42]
theorem B18 (l:List Change) {k:Nat} (hk:k < l.length) (q:Nat):cAt (A42 l k) q=if q=k then C39 (cAt l k) else cAt l q:=by
 unfold A42
 by_cases h:q=k
 ·subst h
  have:∀z,cAt (l.set q z) q=z:=fun z=>by unfold cAt;simp [hk]
  rw [if_pos rfl,this]
 ·rw [if_neg h];unfold cAt
  simp only [I98]
  rw [List.getElem?_set_ne (Ne.symm h)]
theorem C01 (l:List Change) {k:Nat} (hk:k < l.length) (q:Nat):eoI 0 (A42 l k) q=eoI 0 l q+(if q=k+1 then 1 else 0):=by
 cases q with
 | zero=>simp [eoI]
 | succ q =>
  rw [A90,A90,B18 l hk]
  by_cases h:q=k
  ·subst h;rw [if_pos rfl,if_pos rfl];simp only [A58,C39];omega
  ·rw [if_neg h,if_neg (by omega)];omega
theorem C02 (l:List Change) {k:Nat} (hk:k < l.length) (q:Nat):enI 0 (A42 l k) q=enI 0 l q+(if q=k+1 then 1 else 0):=by
 cases q with
 | zero=>simp [enI]
 | succ q =>
  rw [A91,A91,B18 l hk]
  by_cases h:q=k
  ·subst h;rw [if_pos rfl,if_pos rfl];simp only [F26,C39];omega
  ·rw [if_neg h,if_neg (by omega)];omega
structure IdsOf (x:List Str) (a:List Int):Prop where
 len:a.length=x.length
 inj:∀(i j:Nat) (u v:Str) (z:Int),x[i]?=some u→x[j]?=some v→a[i]?=some z→a[j]?=some z→u=v
theorem ScFit.down {x y:List Str} {l:List Change} {a b:List Int} (h:ScFit x y l) (ha:IdsOf x a) (hb:IdsOf y b) {k:Nat} (hk:k < l.length) (hd:D00 l a b k=true):ScFit x y (A42 l k):=by
 have hlx:=h.lx
 have hly:=h.ly
 have hg:=w8 _ _ _ 0 0 0 h.sc
 have hge:=G73 _ _ _ 0 0 0 h.sc
 have hq:=F27 _ _ _ _ _ h.eq
 have hqe:=G74 _ _ _ _ _ h.eq
 have hok:=h.ok
 obtain ⟨c,hc⟩:∃c,c=cAt l k:=⟨_,rfl⟩
 obtain ⟨g1,g2,g3,g4,g5,g6,g7,g8⟩:=hg k hk
 have hb4:=hok.get k hk
 rw [←hc] at g1 g2 g3 g4 g5 g6 g7 g8 hb4
 unfold K4 at g1 g2 g3 g4
 have eo1:eoI 0 l (k+1)=c.Old+c.OldLen:=by rw [A90,←hc];rfl
 have en1:enI 0 l (k+1)=c.New+c.NewLen:=by rw [A91,←hc];rfl
 obtain ⟨E,E',hE1,hE2,hE3,hE4,hE5,hEn⟩:∃E E':Int,sub x (c.Old+c.OldLen) E=sub y (c.New+c.NewLen) E'∧E - (c.Old+c.OldLen)=E' - (c.New+c.NewLen)∧E≤x.length∧E'≤y.length∧(c.Old+c.OldLen < E)∧(k+1 < l.length→E=(cAt l (k+1)).Old∧E'=(cAt l (k+1)).New∧c.Old+c.OldLen+1 < E):=by
  by_cases hl:k+1=l.length
  ·rw [←hl,eo1,en1] at hge hqe
   refine ⟨x.length,y.length,hqe,by omega,by omega,by omega,?_,fun q=>absurd hl (by omega)⟩
   unfold D00 at hd
   rw [←hc] at hd
   split at hd
   ·have:=(A0 hd).1.1;rw [ha.len] at this;omega
   ·split at hd
    ·have:=(A0 hd).1.1;rw [hb.len] at this;omega
    ·cases hd
  ·have hl:k+1 < l.length:=by omega
   obtain ⟨f1,f2,f3,f4,f5,f6,f7,f8⟩:=hg (k+1) hl
   have f9:=hq (k+1) hl
   have f10:=hok.get (k+1) hl
   rw [eo1,en1] at f6 f9
   rw [eo1] at f7
   unfold K4 at f2 f4
   have hroom:c.Old+c.OldLen+1 < (cAt l (k+1)).Old:=by
    unfold D00 at hd
    rw [←hc] at hd
    split at hd
    ·have:=(A0 hd).2;rw [←hc] at this;omega
    ·split at hd
     ·have:=(A0 hd).2;rw [←hc] at this;omega
     ·cases hd
   exact ⟨_,_,f9,by omega,by omega,by omega,by omega,fun _=>⟨rfl,rfl,hroom⟩⟩
 have hv:∃v,x[c.Old.toNat]?=some v∧y[c.New.toNat]?=some v:=by
  obtain ⟨v,v1,v2⟩:=F31 (t:=0) hE1 (by omega) (by omega) (by omega) hE2 (by omega)
  simp only [Int.natCast_zero,Int.add_zero] at v1 v2
  unfold D00 at hd
  rw [←hc] at hd
  split at hd
  ·rename_i hn
   have:=(A0 hd).1.2
   rw [hn,Int.add_zero] at v2
   refine ⟨v,?_,v2⟩
   have l1:c.Old.toNat < a.length:=by rw [ha.len];omega
   have l2:(c.Old+c.OldLen).toNat < a.length:=by rw [ha.len];omega
   have hx:x[c.Old.toNat]?=some x[c.Old.toNat]:=I94 (by omega)
   have ea:a[c.Old.toNat]?=some (atI a c.Old):=by unfold atI;rw [I98,I94 l1];rfl
   have eb:a[(c.Old+c.OldLen).toNat]?=some (atI a (c.Old+c.OldLen)):=by unfold atI;rw [I98,I94 l2];rfl
   rw [←this] at eb
   have:=ha.inj _ _ _ _ _ hx v1 ea eb
   rw [hx,this]
  ·split at hd
   ·rename_i _ hn
    have:=(A0 hd).1.2
    rw [hn,Int.add_zero] at v1
    refine ⟨v,v1,?_⟩
    have l1:c.New.toNat < b.length:=by rw [hb.len];omega
    have l2:(c.New+c.NewLen).toNat < b.length:=by rw [hb.len];omega
    have hx:y[c.New.toNat]?=some y[c.New.toNat]:=I94 (by omega)
    have ea:b[c.New.toNat]?=some (atI b c.New):=by unfold atI;rw [I98,I94 l1];rfl
    have eb:b[(c.New+c.NewLen).toNat]?=some (atI b (c.New+c.NewLen)):=by unfold atI;rw [I98,I94 l2];rfl
    rw [←this] at eb
    have:=hb.inj _ _ _ _ _ hx v2 ea eb
    rw [hx,this]
   ·cases hd
 obtain ⟨v,v1,v2⟩:=hv
 have hen0:0≤eoI 0 l k∧0≤enI 0 l k:=by
  cases k with
  | zero=>simp [eoI,enI]
  | succ k =>
   obtain ⟨f1,f2,f3,f4,_⟩:=hg k (by omega)
   unfold K4 at f1 f2 f3 f4
   rw [A90,A91];unfold A58 F26;omega
 have htail:sub x (c.Old+c.OldLen+1) E=sub y (c.New+c.NewLen+1) E':=by
  have:=D59 (e:=E - (c.Old+c.OldLen) - 1) hE1 (by omega) (by omega) (by omega) (by omega) hE2
  rw [show E - (E - (c.Old+c.OldLen) - 1)=c.Old+c.OldLen+1 by omega,show E' - (E - (c.Old+c.OldLen) - 1)=c.New+c.NewLen+1 by omega] at this
  exact this
 refine ⟨hlx,hly,H28 _ _ _ 0 0 0 (fun q hql=>?_) ?_,H29 _ _ _ 0 0 (fun q hql=>?_) ?_⟩
 ·rw [a6] at hql
  rw [B18 l hk,C01 l hk,C02 l hk]
  by_cases e:q=k
  ·rw [if_pos e,if_neg (show ¬q=k+1 by omega),e,←hc]
   unfold K4
   simp only [C39]
   refine ⟨by omega,g2,by omega,g4,g5,by omega,by omega,fun _=>by omega⟩
  ·rw [if_neg e]
   obtain ⟨f1,f2,f3,f4,f5,f6,f7,f8⟩:=hg q hql
   refine ⟨f1,f2,f3,f4,f5,?_,?_,?_⟩
   ·by_cases e2:q=k+1
    ·rw [if_pos e2];omega
    ·rw [if_neg e2];omega
   ·by_cases e2:q=k+1
    ·rw [if_pos e2];have:=f8 (by omega);omega
    ·rw [if_neg e2];omega
   ·intro h0
    by_cases e2:q=k+1
    ·rw [if_pos e2,e2,eo1]
     have:=(hEn (by omega))
     omega
    ·rw [if_neg e2];have:=f8 h0;omega
 ·rw [a6,C01 l hk,C02 l hk]
  by_cases e2:l.length=k+1
  ·rw [if_pos e2,e2,eo1,en1]
   rw [e2,eo1,en1] at hge
   have h1:E≤x.length:=hE3
   omega
  ·rw [if_neg e2];omega
 ·rw [a6] at hql
  rw [B18 l hk,C01 l hk,C02 l hk]
  by_cases e:q=k
  ·rw [if_pos e,if_neg (show ¬q=k+1 by omega),e,←hc]
   simp only [C39,Int.add_zero]
   have:=hq k hk
   rw [←hc] at this
   rw [G01 hen0.1 g7 v1,G01 hen0.2 (by omega) v2,this]
  ·rw [if_neg e]
   by_cases e2:q=k+1
   ·rw [if_pos e2]
    subst e2
    obtain ⟨q1,q2,_⟩:=hEn hql
    rw [eo1,en1,←q1,←q2];exact htail
   ·rw [if_neg e2,Int.add_zero,Int.add_zero]
    exact hq q hql
 ·rw [a6,C01 l hk,C02 l hk]
  by_cases e2:l.length=k+1
  ·rw [if_pos e2]
   rw [e2,eo1,en1] at hqe hge ⊢
   have:=D59 (e:=x.length - (c.Old+c.OldLen) - 1) hqe (by omega) (by omega) (by omega) (by omega) (by omega)
   rw [show (x.length:Int) - (x.length - (c.Old+c.OldLen) - 1)=c.Old+c.OldLen+1 by omega,show (y.length:Int) - (x.length - (c.Old+c.OldLen) - 1)=c.New+c.NewLen+1 by omega] at this
   exact this
  ·rw [if_neg e2,Int.add_zero,Int.add_zero];exact hqe
section
variable {x y:List Str} {a b:List Int} (ha:IdsOf x a) (hb:IdsOf y b)
include ha hb
omit ha hb in
omit ha hb in
end
end Go.AL
namespace Go.AL
open Go
structure Made12 (on nn a b:Str) (l:List Change) (ctx:Int):Prop where
 chk:B95 ⟨on,nn,X3 l (B7 a) (B7 b) ctx⟩=0
 wr:(H23 ⟨on,nn,X3 l (B7 a) (B7 b) ctx⟩).length≤16777216
 fit:PFit ⟨on,nn,X3 l (B7 a) (B7 b) ctx⟩
 rg:∀h∈X3 l (B7 a) (B7 b) ctx,(-4611686018427387904≤h.Old∧h.Old≤4611686018427387904)∧(-4611686018427387904≤h.New∧h.New≤4611686018427387904)
 sz:szP (X3 l (B7 a) (B7 b) ctx)≤268435456
end Go.AL
namespace Go.AL
open Go
section
variable {x y:List Str} {l:List Change}
end
end Go.AL
namespace Go.AL
open Go
theorem A43:∀(y:List Str),(∀s∈y,H9 s=true)→N1 y=true→A81 y=true
 | [],_,_=>rfl
 | s::r,h,he=>by
  simp only [N1,I96] at he
  simp only [A81,I96]
  exact ⟨⟨h s (List.mem_cons_self ..),he.1⟩,A43 r (fun t ht=>h t (List.mem_cons_of_mem _ ht)) he.2⟩
end Go.AL
namespace Go.AL
open Go
def G79 (c:UInt8):Bool:=decide (48≤c.toNat∧c.toNat≤57)
def decV (ds:Str):Nat:=ds.foldl (fun n c=>10*n+(c.toNat - 48)) 0
theorem H86 (ds:Str) (c:UInt8):decV (ds++[c])=10*decV ds+(c.toNat - 48):=by
 unfold decV;rw [J34];rfl
theorem s9 (k:Nat) (h:k < 10):(UInt8.ofNat (48+k)).toNat=48+k:=by
 rw [UInt8.toNat_ofNat'];omega
theorem D72 (u:Nat):(∀c∈Lib.decDigits u,G79 c=true)∧decV (Lib.decDigits u)=u∧Lib.decDigits u≠[]∧((Lib.decDigits u).head?=some 48→u=0)∧(1 < (Lib.decDigits u).length→10≤u):=by
 induction u using Nat.strongRecOn with
 | _ u ih =>
  rw [Lib.decDigits]
  split
  ·rename_i h
   refine ⟨?_,?_,by simp,?_,by simp⟩
   ·intro c hc
    simp only [J20,J18,or_false] at hc
    subst hc;unfold G79;rw [s9 u h];simp;omega
   ·unfold decV;simp only [J19,List.foldl_nil];rw [s9 u h];omega
   ·intro h1
    simp only [List.head?_cons,Option.some.injEq] at h1
    have:=congrArg UInt8.toNat h1
    rw [s9 u h] at this
    have e:(48:UInt8).toNat=48:=rfl
    omega
  ·rename_i h
   obtain ⟨h1,h2,h3,h4,h5⟩:=ih (u / 10) (by omega)
   have h6:u % 10 < 10:=Nat.mod_lt _ (by omega)
   refine ⟨?_,?_,by simp,?_,fun _=>by omega⟩
   ·intro c hc
    rcases List.mem_append.1 hc with hc | hc
    ·exact h1 c hc
    ·simp only [J20,J18,or_false] at hc
     subst hc;unfold G79;rw [s9 _ h6];simp;omega
   ·rw [H86,h2,s9 _ h6];omega
   ·intro h7
    rw [List.head?_append] at h7
    cases hd:(Lib.decDigits (u / 10)).head? with
    | none=>exact absurd (List.head?_eq_none_iff.1 hd) h3
    | some x =>
     rw [hd] at h7
     have h7:x=48:=by simpa using h7
     have:=h4 (by rw [hd,h7])
     omega
theorem H32 {n:Int} (h0:0≤n) (h1:n≤2147483647):V8 n=Lib.decDigits n.toNat:=by
 unfold V8 Lib.itoa;rw [if_neg (by omega),if_neg (by omega)]
end Go.AL
namespace Go.AL
open Go
def U9 (ts:List Str):Str:=(ts.map fun t=>t++[10]).flatten
theorem H87 (a:Str):ended (a++[10])=true:=by unfold ended;simp
theorem ended_iff {s:Str}:ended s=true↔∃a,s=a++[10]:=by
 constructor
 ·intro h
  unfold ended at h
  have h:s.getLast?=some 10:=by simpa using h
  obtain ⟨ys,hy⟩:=List.getLast?_eq_some_iff.1 h
  exact ⟨ys,hy⟩
 ·rintro ⟨a,rfl⟩;exact H87 a
def noNl:Str:=[92,32,78,111,32,110,101,119,108,105,110,101,32,97,116,32,101,110,100,32,111,102,32,102,105,108,101]
theorem I36:markS=[10]++noNl++[10]:=rfl
theorem D73 (a b:List Str):U9 (a++b)=U9 a++U9 b:=by unfold U9;simp
theorem Y3 (a:Str) (b:List Str):U9 (a::b)=a++[10]++U9 b:=by unfold U9;simp
theorem H88 {n:Int} (h0:0≤n) (h1:n≤2147483647):(10:UInt8)∉V8 n:=by
 rw [H32 h0 h1]
 intro h
 have:=(D72 n.toNat).1 _ h
 revert this;decide
theorem I37 (n:Int):(10:UInt8)∉V8 n:=by
 by_cases h:n < 0∨2147483647 < n
 ·unfold V8;rw [if_pos h];simp
 ·exact H88 (by omega) (by omega)
theorem I38 (c:UInt8):(10:UInt8)∉w7 c:=by
 have hc:=c.toNat_lt
 have hn:∀{d:UInt8},d.toNat≠10→(10:UInt8)≠d:=fun h e=>h (by rw [←e];rfl)
 unfold w7
 split
 ·rename_i h;simp only [J20,J18,or_false,not_or];exact ⟨by decide,hn (by omega)⟩
 ·split
  ·decide
  ·split
   ·decide
   ·split
    ·rw [C64]
     have t:∀k,k < 8→(10:UInt8)≠UInt8.ofNat (48+k):=fun k hk=>hn (by rw [s9 k (by omega)];omega)
     simp only [J20,J18,or_false,not_or]
     exact ⟨by decide,t _ (by omega),t _ (by omega),t _ (by omega)⟩
    ·simp only [J20,J18,or_false];exact hn (by omega)
theorem G80 (w:Str):(10:UInt8)∉Q5 w:=by
 unfold Q5
 split
 ·rename_i h
  intro hm
  have:=List.all_eq_true.1 h.2 _ hm
  revert this;decide
 ·simp only [J20,J46,List.mem_flatten,List.mem_map,J18,or_false,not_or,not_exists,not_and]
  refine ⟨by decide,?_,by decide⟩
  rintro l ⟨x,_,rfl⟩
  exact I38 x
theorem check12_good {p:Patch} (h:B95 p=0):C34 p.Hunks=true:=by
 unfold B95 at h
 split at h
 ·cases h
 ·split at h
  ·cases h
  ·rename_i h1;simpa using h1
end Go.AL
namespace Go.AL
open Go
structure CHunk where
 At:List Int
 Rows:List Row
 deriving DecidableEq
structure Comb where
 Path:Str
 Dense:Bool
 Parents:Int
 Hunks:List CHunk
 deriving DecidableEq
def O1:CHunk→Nat→Cell:=fun h j=>match j with
 | 0=>.list Int 1 G5 h.At
 | _=>.list Row 3 rowC h.Rows
abbrev F32 (h:CHunk):PV:=.agg [.list Int 1 G5 h.At,.list Row 3 rowC h.Rows]
abbrev V0 (c:Comb):PV:=.agg [.v (.string ⟨c.Path.toArray⟩),.v (.bool c.Dense),.v (.int .i64 c.Parents),.list CHunk 2 O1 c.Hunks]
def comb0:Comb:=⟨[],false,0,[]⟩
def p5 (n k:Nat):Int:=if k=n then -1 else k
def L1 (rows:List Row) (n k:Nat):Int:=(K6 rows (p5 n k)).length
def E8 (rows:List Row) (n:Nat):List Int:=(List.range (n+1)).map (L1 rows n)
def atS (n:Nat):Str:=List.replicate n 64
def sgnB (n k:Nat):UInt8:=if k=n then 43 else 45
def C74 (n:Nat) (h:CHunk) (k:Nat):Str:=[32,sgnB n k]++Q6 (h.At.getD k 0) (L1 h.Rows n k)
def V1 (n:Nat) (h:CHunk) (k:Nat):Str:=((List.range k).map (C74 n h)).flatten
def Y4 (n:Nat) (h:CHunk):Str:=atS (n+1)++V1 n h (n+1)++[32]++atS (n+1)
def A16 (r:Row) (p:Nat):UInt8:=if T3 r.Marks p=false then 32 else if r.Lost then 45 else 43
def P5 (n:Nat) (r:Row):Str:=(List.range n).map (A16 r)
def C03 (n:Nat) (r:Row):List Str:=if ended r.Text=true then [P5 n r++r.Text.dropLast] else [P5 n r++r.Text,noNl]
def q9 (n:Nat) (r:Row):List Str:=if ended r.Text=true then [P5 n r++r.Text] else [P5 n r++r.Text,markS]
def B19 (n:Nat) (h:CHunk):List Str:=Y4 n h::(h.Rows.map (C03 n)).flatten
def U1 (n:Nat) (h:CHunk):List Str:=(Y4 n h++[10])::(h.Rows.map (q9 n)).flatten
def ccS:Str:=[100,105,102,102,32,45,45,99,99,32]
def combS:Str:=[100,105,102,102,32,45,45,99,111,109,98,105,110,101,100,32]
def parS:Str:=[112,97,114,101,110,116,115,32]
def A96 (d:Bool):Str:=if d=true then ccS else combS
def D74 (c:Comb):List Str:=(A96 c.Dense++Q5 c.Path)::(parS++V8 c.Parents)::(c.Hunks.map (B19 c.Parents.toNat)).flatten
def G81 (c:Comb):List Str:=(A96 c.Dense++Q5 c.Path++[10])::(parS++V8 c.Parents++[10])::(c.Hunks.map (U1 c.Parents.toNat)).flatten
def V9 (c:Comb):Str:=(G81 c).flatten
theorem G82 (n:Nat) (r:Row):U9 (C03 n r)=(q9 n r).flatten:=by
 unfold C03 q9
 by_cases h:ended r.Text=true
 ·rw [if_pos h,if_pos h]
  obtain ⟨a,ha⟩:=ended_iff.1 h
  rw [ha];unfold U9;simp
 ·rw [if_neg h,if_neg h,I36];unfold U9;simp
theorem G09 (n:Nat) (rs:List Row):U9 ((rs.map (C03 n)).flatten)=((rs.map (q9 n)).flatten).flatten:=by
 induction rs with
 | nil=>rfl
 | cons x r ih=>simp only [J01,J05,D73,ih,G82,J14]
theorem F33 (n:Nat) (h:CHunk):U9 (B19 n h)=(U1 n h).flatten:=by
 unfold B19 U1
 rw [Y3,G09,J05]
theorem C75 (c:Comb):U9 (D74 c)=V9 c:=by
 unfold D74 V9 G81
 rw [Y3,Y3]
 have h:∀(n:Nat) (hs:List CHunk),U9 ((hs.map (B19 n)).flatten)=((hs.map (U1 n)).flatten).flatten:=by
  intro n hs
  induction hs with
  | nil=>rfl
  | cons x r ih=>simp only [J01,J05,D73,ih,F33,J14]
 rw [h];simp
def B58 (n:Nat) (ends:List Int) (h:CHunk):Bool:=decide (h.At.length=n+1∧h.Rows≠[])&&(List.range (n+1)).all fun k=>decide ((ends.getD k 0≤h.At.getD k 0∧h.At.getD k 0≤4096)∧h.At.getD k 0+L1 h.Rows n k≤4096)
def R7 (n:Nat) (h:CHunk):List Int:=(List.range (n+1)).map fun k=>h.At.getD k 0+L1 h.Rows n k
def W5 (n:Nat) (ends:List Int):List CHunk→Bool
 | []=>true
 | h::r=>B58 n ends h&&W5 n (R7 n h) r
def H7 (hs:List CHunk):List Row:=(hs.map (·.Rows)).flatten
def Q7 (n:Nat) (hs:List CHunk):Bool:=W5 n (List.replicate (n+1) 0) hs&&V6 (H7 hs) n
def a7 (n:Nat) (hs:List CHunk):Bool:=hs.all fun h=>N2 h.Rows n
def I4 (c:Comb):Int:=if O8 c.Path=false then 120 else if c.Parents < 1∨32 < c.Parents then 2 else if a7 c.Parents.toNat c.Hunks=false then 180 else if Q7 c.Parents.toNat c.Hunks=false then 121 else if 16777216 < (V9 c).length then 1 else 0
theorem C04 {n:Nat} {r:Row} (h:R0 n r=true):0≤r.Marks∧r.Marks < 2 ^ n∧(r.Lost=true→r.Marks≠0):=by
 unfold R0 at h
 simp only [I96,beq_iff_eq,Bool.not_eq_true',Bool.and_eq_false_iff,beq_eq_false_iff_ne] at h
 obtain ⟨h1,h2⟩:=h
 have hp:(0:Int) < 2 ^ n:=Int.pow_pos (by decide)
 have h3:=Int.emod_add_mul_ediv r.Marks (2 ^ n)
 have h4:=Int.emod_nonneg r.Marks (Int.ne_of_gt hp)
 have h5:=Int.emod_lt_of_pos r.Marks hp
 rw [h1,Int.mul_zero,Int.add_zero] at h3
 rw [h3] at h4 h5
 refine ⟨h4,h5,fun hl=>?_⟩
 rcases h2 with h2 | h2
 ·rw [hl] at h2;cases h2
 ·exact h2
theorem pow32 {n:Nat} (h:n≤32):(2:Int) ^ n≤4294967296:=by
 have h1:(2:Nat) ^ n≤2 ^ 32:=Nat.pow_le_pow_right (by omega) h
 have h2:((2 ^ n:Nat):Int)=2 ^ n:=by simp
 have h3:(2:Nat) ^ 32=4294967296:=rfl
 omega
theorem I39 {n:Nat} (hn:n≤32) {rows:List Row} (h:N2 rows n=true):J6 rows:=by
 intro r hr
 have h1:=C04 (List.all_eq_true.1 h r hr)
 have:=pow32 hn
 omega
def V2 (n:Nat) (ends:List Int) (h:CHunk):Bool:=decide (h.At.length=n+1∧h.Rows≠[])&&(List.range (n+1)).all fun k=>decide (ends.getD k 0≤h.At.getD k 0∧h.At.getD k 0≤4096)
def a8 (res:Bool) (rows:List Row):Bool:=rows.foldl A87 res
def b8 (par:Int) (rows:List Row):Int:=rows.foldl A88 par
def b9 (n:Nat) (ends:List Int) (res:Bool) (par:Int):List CHunk→Bool
 | []=>decide (∀e∈ends,e≤4096)
 | h::r=>V2 n ends h&&(N9 res par h.Rows&&b9 n (R7 n h) (a8 res h.Rows) (b8 par h.Rows) r)
theorem D75:∀(a b:List Row) (res:Bool) (par:Int),N9 res par (a++b)=(N9 res par a&&N9 (a8 res a) (b8 par a) b)
 | [],b,res,par=>by simp [N9,a8,b8]
 | x::a,b,res,par=>by
  rw [J27,N9,N9,D75 a b]
  simp only [a8,b8,J19,Bool.and_assoc]
theorem x1 (f:Nat→Int) (n k:Nat) (h:k < n):((List.range n).map f).getD k 0=f k:=by
 rw [I98,J22,J33 h];rfl
theorem D76 {n:Nat} {ends:List Int} (hl:ends.length=n+1):(∀e∈ends,e≤4096)↔∀k,k < n+1→ends.getD k 0≤4096:=by
 constructor
 ·intro h k hk
  rw [I98,I94 (by omega)]
  exact h _ (J06 _)
 ·intro h e he
  obtain ⟨k,hk,rfl⟩:=List.getElem_of_mem he
  have:=h k (by omega)
  rwa [I98,I94 hk] at this
theorem B59 (n:Nat) (h:CHunk):(R7 n h).length=n+1:=by unfold R7;simp
theorem C76 (n:Nat):∀(hs:List CHunk) (ends:List Int) (res:Bool) (par:Int),ends.length=n+1 →
  b9 n ends res par hs=(decide (∀e∈ends,e≤4096)&&W5 n ends hs&&N9 res par (H7 hs))
 | [],ends,res,par,_=>by simp [b9,W5,H7,N9]
 | h::r,ends,res,par,hl=>by
  have ih:=C76 n r (R7 n h) (a8 res h.Rows) (b8 par h.Rows) (B59 n h)
  have e1:H7 (h::r)=h.Rows++H7 r:=by simp [H7]
  rw [b9,ih,W5,e1,D75]
  have e2:(V2 n ends h&&decide (∀e∈R7 n h,e≤4096))=(decide (∀e∈ends,e≤4096)&&B58 n ends h):=by
   rw [Bool.eq_iff_iff]
   unfold V2 B58
   simp only [I96,decide_eq_true_eq,List.all_eq_true,List.mem_range]
   rw [D76 hl,D76 (B59 n h)]
   have e3:∀k,k < n+1→(R7 n h).getD k 0=h.At.getD k 0+L1 h.Rows n k:=fun k hk=>x1 _ _ _ hk
   constructor
   ·rintro ⟨⟨h1,h2⟩,h3⟩
    exact ⟨fun k hk=>by have:=h2 k hk;omega,h1,fun k hk=>⟨h2 k hk,by have:=h3 k hk;rwa [e3 k hk] at this⟩⟩
   ·rintro ⟨_,h2,h3⟩
    exact ⟨⟨h2,fun k hk=>(h3 k hk).1⟩,fun k hk=>by rw [e3 k hk];exact (h3 k hk).2⟩
  generalize V2 n ends h=A at e2 ⊢
  generalize decide (∀e∈R7 n h,e≤4096)=B at e2 ⊢
  generalize decide (∀e∈ends,e≤4096)=C at e2 ⊢
  generalize B58 n ends h=D at e2 ⊢
  generalize N9 res par h.Rows=E
  generalize W5 n (R7 n h) r=F
  generalize N9 (a8 res h.Rows) (b8 par h.Rows) (H7 r)=G
  cases A<;>cases B<;>cases C<;>cases D<;>first | (cases e2;done) | (cases E<;>cases F<;>cases G<;>rfl)
theorem E66 {n:Nat} {hs:List CHunk} (h:a7 n hs=true):N2 (H7 hs) n=true:=by
 unfold N2 H7
 rw [List.all_eq_true]
 intro r hr
 obtain ⟨l,h1,h2⟩:=List.mem_flatten.1 hr
 obtain ⟨x,hx,rfl⟩:=List.mem_map.1 h1
 exact List.all_eq_true.1 (List.all_eq_true.1 h x hx) r h2
theorem G10 {n:Nat} (hn:n≤32) {hs:List CHunk} (h:a7 n hs=true):b9 n (List.replicate (n+1) 0) false 0 hs=Q7 n hs:=by
 rw [C76 n hs _ _ _ (List.length_replicate ..),D56 _ n hn (E66 h) (I39 hn (E66 h))]
 have:∀L:List Int,(∀e∈L,e≤4096)→decide (∀e∈L,e≤4096)=true:=fun L h=>decide_eq_true h
 rw [this _ (fun e he=>by have:=(List.mem_replicate.1 he).2;omega)];rfl
theorem C40 {n:Nat}:∀(hs:List CHunk) (ends:List Int),(∀k,k < n+1→0≤ends.getD k 0)→W5 n ends hs=true→∀h∈hs,h.At.length=n+1∧h.Rows≠[]∧∀k,k < n+1→0≤h.At.getD k 0∧h.At.getD k 0+L1 h.Rows n k≤4096
 | [],_,_,_,h,hm=>by cases hm
 | x::r,ends,he,hg,h,hm=>by
  rw [W5,I96] at hg
  obtain ⟨h1,h2⟩:=hg
  unfold B58 at h1
  simp only [I96,decide_eq_true_eq,List.all_eq_true,List.mem_range] at h1
  obtain ⟨⟨h3,h4⟩,h5⟩:=h1
  have hx:∀k,k < n+1→0≤x.At.getD k 0∧x.At.getD k 0+L1 x.Rows n k≤4096:=fun k hk=>by have:=h5 k hk;have:=he k hk;omega
  rcases List.mem_cons.1 hm with rfl | hm
  ·exact ⟨h3,h4,hx⟩
  ·refine C40 r _ (fun k hk=>?_) h2 h hm
   rw [show (R7 n x).getD k 0=x.At.getD k 0+L1 x.Rows n k from x1 _ _ _ hk]
   have:=hx k hk
   have:0≤L1 x.Rows n k:=by unfold L1;omega
   omega
structure CRead (n:Nat) (h:CHunk):Prop where
 len:h.At.length=n+1
 ne:h.Rows≠[]
 at0:∀k,k < n+1→0≤h.At.getD k 0∧h.At.getD k 0+L1 h.Rows n k≤4096
 rows:∀r∈h.Rows,R0 n r=true∧H9 r.Text=true
theorem D77 {c:Comb} (h:I4 c=0):(1≤c.Parents.toNat∧c.Parents.toNat≤32)∧c.Parents=(c.Parents.toNat:Int)∧(∀x∈c.Hunks,CRead c.Parents.toNat x)∧(V9 c).length≤16777216∧O8 c.Path=true:=by
 unfold I4 at h
 split at h
 ·cases h
 ·rename_i h0
  split at h
  ·cases h
  ·rename_i h1
   split at h
   ·cases h
   ·rename_i h2
    split at h
    ·cases h
    ·rename_i h3
     split at h
     ·cases h
     ·rename_i h4
      refine ⟨by omega,by omega,?_,by omega,by simpa using h0⟩
      intro x hx
      have h2:a7 c.Parents.toNat c.Hunks=true:=by simpa using h2
      have h3:Q7 c.Parents.toNat c.Hunks=true:=by simpa using h3
      unfold Q7 at h3
      rw [I96] at h3
      obtain ⟨a1,a2,a3⟩:=C40 c.Hunks _ (fun k hk=>by rw [I98,List.getElem?_replicate_of_lt hk];exact Int.le_refl _) h3.1 x hx
      refine ⟨a1,a2,a3,fun r hr=>⟨List.all_eq_true.1 (List.all_eq_true.1 h2 x hx) r hr,?_⟩⟩
      have h5:=h3.2
      unfold V6 at h5
      rw [I96] at h5
      exact List.all_eq_true.1 h5.1 r (List.mem_flatten.2 ⟨x.Rows,List.mem_map.2 ⟨x,hx,rfl⟩,hr⟩)
def signB (c:UInt8):Bool:=decide (c=32∨c=43∨c=45)
theorem B20 (n:Nat) (r:Row):(P5 n r).length=n:=by simp [P5]
theorem G83 (n:Nat) (r:Row):(P5 n r).all signB=true:=by
 rw [List.all_eq_true]
 intro c hc
 obtain ⟨p,_,rfl⟩:=List.mem_map.1 hc
 unfold A16
 split
 ·rfl
 ·split<;>rfl
theorem I40 {d:UInt8} (hd:d=10∨d=32) (a n:Int):d∉Q6 a n:=by
 have hf:∀n:Int,d∉V8 n:=by
  intro n
  by_cases h:n < 0∨2147483647 < n
  ·unfold V8;rw [if_pos h];simp
  ·rw [H32 (by omega) (by omega)]
   intro h
   have:=(D72 n.toNat).1 _ h
   rcases hd with rfl | rfl<;>(revert this;decide)
 have h1:=hf a;have h2:=hf (a+1);have h3:=hf n
 have h4:d≠44:=by rcases hd with rfl | rfl<;>decide
 have h5:d≠48:=by rcases hd with rfl | rfl<;>decide
 unfold Q6
 split
 ·simp
 ·split
  ·simp [h1,h4,h5]
  ·split
   ·exact h2
   ·simp [h2,h3,h4]
theorem sgn_ne (n k:Nat):(32:UInt8)≠sgnB n k∧(10:UInt8)≠sgnB n k:=by unfold sgnB;split<;>decide
theorem F34 (n:Nat):(atS n).length=n:=by simp [atS]
end Go.AL
namespace Go.AL
open Go
theorem G11 (r:Row) (p:Nat):A16 r p≠64∧A16 r p≠92∧A16 r p≠10:=by unfold A16;split;decide;split<;>decide
theorem I41 (n:Nat) (h:CHunk):(Y4 n h).take 1=[64]:=by
 unfold Y4 atS
 rw [List.replicate_succ];rfl
theorem H89 (n:Nat) (h:CHunk):(10:UInt8)∉Y4 n h:=by
 have hw:(10:UInt8)∉V1 n h (n+1):=by
  unfold V1
  intro hm
  obtain ⟨l,h1,h2⟩:=List.mem_flatten.1 hm
  obtain ⟨k,_,rfl⟩:=List.mem_map.1 h1
  unfold C74 at h2
  simp only [J27,J23,J20] at h2
  rcases h2 with h2 | h2 | h2
  ·revert h2;decide
  ·exact (sgn_ne n k).2 h2
  ·exact I40 (.inl rfl) _ _ h2
 have ha:(10:UInt8)∉atS (n+1):=by unfold atS;intro h;have:=(List.mem_replicate.1 h).2;revert this;decide
 unfold Y4
 simp [hw,ha]
theorem I42 {n:Nat} {r:Row} (hl:H9 r.Text=true):∀t∈C03 n r,(10:UInt8)∉t:=by
 have hm:(10:UInt8)∉P5 n r:=by
  intro h
  have:=List.all_eq_true.1 (G83 n r) _ h
  revert this;decide
 obtain ⟨hne,hd⟩:=(D54 _).1 hl
 intro t ht
 unfold C03 at ht
 split at ht
 ·simp only [J20,J18,or_false] at ht
  subst ht
  simp [hm,hd]
 ·rename_i he
  simp only [J20,J18,or_false] at ht
  rcases ht with rfl | rfl
  ·simp only [J46,not_or]
   refine ⟨hm,fun h10=>?_⟩
   rw [←List.dropLast_concat_getLast hne] at h10
   rcases List.mem_append.1 h10 with h10 | h10
   ·exact hd h10
   ·simp only [J20,J18,or_false] at h10
    refine he (ended_iff.2 ⟨r.Text.dropLast,?_⟩)
    conv=>lhs;rw [←List.dropLast_concat_getLast hne]
    rw [h10]
  ·decide
theorem H90 {c:Comb} (h:I4 c=0):∀t∈D74 c,(10:UInt8)∉t:=by
 obtain ⟨h1,h2,h3,_⟩:=D77 h
 intro t ht
 unfold D74 at ht
 rcases List.mem_cons.1 ht with rfl | ht
 ·have:=G80 c.Path
  have hk:(10:UInt8)∉A96 c.Dense:=by cases c.Dense<;>decide
  simp [this,hk]
 ·rcases List.mem_cons.1 ht with rfl | ht
  ·have:=I37 c.Parents
   have hk:(10:UInt8)∉parS:=by decide
   simp [this,hk]
  ·obtain ⟨l,hl1,hl2⟩:=List.mem_flatten.1 ht
   obtain ⟨x,hx,rfl⟩:=List.mem_map.1 hl1
   unfold B19 at hl2
   rcases List.mem_cons.1 hl2 with rfl | hl2
   ·exact H89 _ _
   ·obtain ⟨l2,h4,h5⟩:=List.mem_flatten.1 hl2
    obtain ⟨y,hy,rfl⟩:=List.mem_map.1 h4
    exact I42 ((h3 x hx).rows y hy).2 t h5
end Go.AL
namespace Go.AL
open Go
def T5 (r:Row):Nat:=r.Text.length+96
def C88 (h:CHunk):Nat:=2048+h.At.length+(h.Rows.map T5).sum
def szC (hs:List CHunk):Nat:=(hs.map C88).sum
theorem i8 (rows:List Row):rows.length*96≤(rows.map T5).sum:=by
 induction rows with
 | nil=>simp
 | cons x r ih=>simp only [J01,J26,I95,T5] at ih ⊢;omega
theorem B60 (rows:List Row):T4 rows≤(rows.map T5).sum:=by
 unfold T4
 induction rows with
 | nil=>simp
 | cons x r ih=>simp only [J01,J05,I93,J26,T5] at ih ⊢;omega
theorem E67 {rows:List Row} {r:Row} (h:r∈rows):T5 r≤(rows.map T5).sum:=by
 induction rows with
 | nil=>cases h
 | cons x l ih =>
  simp only [J01,J26]
  rcases List.mem_cons.1 h with rfl | h
  ·omega
  ·have:=ih h;omega
theorem D01 {hs:List CHunk} {h:CHunk} (hm:h∈hs):C88 h≤szC hs:=by
 unfold szC
 induction hs with
 | nil=>cases hm
 | cons x l ih =>
  simp only [J01,J26]
  rcases List.mem_cons.1 hm with rfl | hm
  ·omega
  ·have:=ih hm;omega
theorem C05 (hs:List CHunk):hs.length*2048≤szC hs:=by
 unfold szC
 induction hs with
 | nil=>simp
 | cons x l ih =>
  have h2:2048≤C88 x:=by unfold C88;exact Nat.le_trans (Nat.le_add_right _ _) (Nat.le_add_right _ _)
  rw [J01,J26,I95,J11,Nat.one_mul,Nat.add_comm]
  exact Nat.add_le_add h2 ih
theorem G84 (rows:List Row) (k:Nat):((rows.take k).map T5).sum≤(rows.map T5).sum:=by
 conv=>rhs;rw [←J29 k rows,J08,J44]
 omega
theorem I43 (hs:List CHunk) (k:Nat):szC (hs.take k)≤szC hs:=by
 unfold szC
 conv=>rhs;rw [←J29 k hs,J08,J44]
 omega
theorem getI {l:List Int} {i:Nat} (h:i < l.length):l[i]?=some (l.getD i 0):=by simp [h]
theorem D78 (rows:List Row) (n k:Nat):0≤L1 rows n k∧L1 rows n k≤rows.length:=by
 have:=C29 rows (p5 n k)
 unfold L1;omega
theorem I44 (rows:List Row) (n k i:Nat) (h:i < rows.length):L1 (rows.take (i+1)) n k=L1 (rows.take i) n k+if X9 rows[i] (p5 n k)=true then 1 else 0:=by
 unfold L1 K6
 rw [J02 h,J40,J08,I93]
 by_cases hv:X9 rows[i] (p5 n k)=true<;>simp [hv]
def c8 (rows:List Row) (n i p:Nat):List Int:=(List.range (n+1)).map fun k=>L1 (rows.take (if k < p then i+1 else i)) n k
theorem H91 (rows:List Row) (n i p:Nat):(c8 rows n i p).length=n+1:=by unfold c8;simp
theorem G85 (rows:List Row) (n:Nat):c8 rows n 0 0=List.replicate (n+1) 0:=by
 unfold c8
 refine List.ext_getElem (by simp) fun k h1 h2=>?_
 simp [L1,K6]
theorem H92 (rows:List Row) (n i p:Nat) (hp:p≤n):(c8 rows n i p)[p]?=some (L1 (rows.take i) n p):=by
 unfold c8
 rw [J22,J33 (by omega)];simp
theorem D79 (f:Nat→Int) (n p:Nat) (v:Int):((List.range n).map f).set p v=(List.range n).map (fun k=>if k=p then v else f k):=by
 refine List.ext_getElem (by simp) fun k h1 h2=>?_
 rw [List.getElem_set,List.getElem_map,List.getElem_map,List.getElem_range]
 by_cases e:p=k
 ·rw [if_pos e,if_pos e.symm]
 ·rw [if_neg e,if_neg (fun h=>e h.symm)]
theorem G86 (rows:List Row) (n i p:Nat) (hi:i < rows.length) (hp:p≤n):c8 rows n i (p+1)=if X9 rows[i] (p5 n p)=true then (c8 rows n i p).set p (L1 (rows.take i) n p+1) else c8 rows n i p:=by
 have hs:=I44 rows n p i hi
 by_cases hv:X9 rows[i] (p5 n p)=true
 ·rw [if_pos hv] at hs ⊢
  unfold c8
  rw [D79]
  refine List.map_congr_left fun k hk=>?_
  by_cases e:k=p
  ·subst e;rw [if_pos rfl,if_pos (by omega),hs]
  ·rw [if_neg e]
   by_cases h3:k < p
   ·rw [if_pos (by omega),if_pos h3]
   ·rw [if_neg (by omega),if_neg h3]
 ·rw [if_neg hv] at hs ⊢
  unfold c8
  refine List.map_congr_left fun k hk=>?_
  by_cases e:k=p
  ·subst e;rw [if_pos (by omega),if_neg (by omega),hs];omega
  ·by_cases h3:k < p
   ·rw [if_pos (by omega),if_pos h3]
   ·rw [if_neg (by omega),if_neg h3]
theorem G87 (rows:List Row) (n i:Nat):c8 rows n i (n+1)=c8 rows n (i+1) 0:=by
 unfold c8
 refine List.map_congr_left fun k hk=>?_
 rw [if_pos (List.mem_range.1 hk),if_neg (by omega)]
theorem G88 (rows:List Row) (n:Nat):c8 rows n rows.length 0=E8 rows n:=by
 unfold c8 E8
 refine List.map_congr_left fun k hk=>?_
 rw [if_neg (by omega),J21]
theorem D80 (rows:List Row) (n:Nat):(E8 rows n).length=n+1:=by unfold E8;simp
theorem G89 (rows:List Row) (n k:Nat) (h:k < n+1):(E8 rows n)[k]?=some (L1 rows n k):=by
 unfold E8
 rw [J22,J33 h];rfl
def p6 (n:Nat) (h:CHunk) (k:Nat):List Int:=(List.range (n+1)).map fun j=>if j < k then h.At.getD j 0+L1 h.Rows n j else L1 h.Rows n j
theorem G90 (n:Nat) (h:CHunk) (k:Nat):(p6 n h k).length=n+1:=by unfold p6;simp
theorem G12 (n:Nat) (h:CHunk):p6 n h 0=E8 h.Rows n:=by
 unfold p6 E8
 refine List.map_congr_left fun k hk=>?_
 rw [if_neg (by omega)]
theorem G91 (n:Nat) (h:CHunk) (k:Nat) (hk:k < n+1):(p6 n h k)[k]?=some (L1 h.Rows n k):=by
 unfold p6
 rw [J22,J33 hk];simp
theorem G92 (n:Nat) (h:CHunk) (k:Nat):(p6 n h k).set k (L1 h.Rows n k+h.At.getD k 0)=p6 n h (k+1):=by
 unfold p6
 rw [D79]
 refine List.map_congr_left fun j hj=>?_
 by_cases e:j=k
 ·subst e;rw [if_pos rfl,if_pos (by omega)];omega
 ·rw [if_neg e]
  by_cases h3:j < k
  ·rw [if_pos h3,if_pos (by omega)]
  ·rw [if_neg h3,if_neg (by omega)]
theorem G13 (n:Nat) (h:CHunk):p6 n h (n+1)=R7 n h:=by
 unfold p6 R7
 refine List.map_congr_left fun k hk=>?_
 rw [if_pos (List.mem_range.1 hk)]
theorem C77 (n:Nat) (ends:List Int) (h:CHunk):V2 n ends h=true↔(h.At.length=n+1∧h.Rows≠[])∧∀k,k < n+1→ends.getD k 0≤h.At.getD k 0∧h.At.getD k 0≤4096:=by
 unfold V2
 simp only [I96,decide_eq_true_eq,List.all_eq_true,List.mem_range]
theorem H93 (n:Nat) (h:CHunk) (k:Nat):(C74 n h k).length≤26:=by
 have:=A89 (h.At.getD k 0) (L1 h.Rows n k)
 unfold C74;simp only [I93,I95,I97];omega
theorem A97 (n:Nat) (h:CHunk) (k:Nat):V1 n h (k+1)=V1 n h k++C74 n h k:=by
 unfold V1
 rw [J32,J08,J14];simp
theorem A44 (n:Nat) (h:CHunk):∀k,(V1 n h k).length≤26*k
 | 0=>by simp [V1]
 | k+1=>by
  have:=A44 n h k
  have:=H93 n h k
  rw [A97,I93];omega
theorem C41 {n:Nat} (hn:n≤32) (h:CHunk):(Y4 n h).length≤925:=by
 have:=A44 n h (n+1)
 unfold Y4
 simp only [I93,F34,I95,I97];omega
theorem E68 {n:Nat} (hn:n≤32) (r:Row):(q9 n r).flatten.length≤T5 r:=by
 have hm:markS.length=29:=rfl
 unfold q9 T5
 split<;>simp only [J05,J42,I93,B20,I97]<;>omega
theorem D81 {n:Nat} (hn:n≤32) (rs:List Row):((rs.map (q9 n)).flatten).flatten.length≤(rs.map T5).sum:=by
 induction rs with
 | nil=>simp
 | cons x r ih =>
  have:=E68 hn x
  simp only [J01,J05,J14,I93,J26];omega
theorem G14 {n:Nat} (hn:n≤32) (h:CHunk):(U1 n h).flatten.length≤C88 h:=by
 have h1:=C41 hn h
 have h2:=D81 hn h.Rows
 unfold U1 C88
 simp only [J05,I93,I95,I97];omega
theorem F35 {n:Nat} (hn:n≤32) (hs:List CHunk):((hs.map (U1 n)).flatten).flatten.length≤szC hs:=by
 unfold szC
 induction hs with
 | nil=>simp
 | cons x r ih =>
  have:=G14 hn x
  simp only [J01,J05,J14,I93,J26];omega
def A45 (c:Comb):Str:=A96 c.Dense++Q5 c.Path++[10]++(parS++V8 c.Parents++[10])
def cTo (c:Comb) (k:Nat):Str:=A45 c++(((c.Hunks.take k).map (U1 c.Parents.toNat)).flatten).flatten
theorem D82 (c:Comb):cTo c 0=A45 c:=by simp [cTo]
theorem G15 (c:Comb) (k:Nat) (h:k < c.Hunks.length):cTo c (k+1)=cTo c k++(U1 c.Parents.toNat c.Hunks[k]).flatten:=by
 unfold cTo
 rw [J02 h];simp only [J08,J01,J36,J14,J05,J42,J17,J07]
theorem D83 (c:Comb):cTo c c.Hunks.length=V9 c:=by
 unfold cTo A45 V9 G81
 rw [J21];simp
def rTo (n:Nat) (rs:List Row) (k:Nat):Str:=(((rs.take k).map (q9 n)).flatten).flatten
theorem G16 (n:Nat) (rs:List Row):rTo n rs 0=[]:=by simp [rTo]
theorem G17 (n:Nat) (rs:List Row) (k:Nat) (h:k < rs.length):rTo n rs (k+1)=rTo n rs k++(q9 n rs[k]).flatten:=by
 unfold rTo
 rw [J02 h];simp only [J08,J01,J36,J14,J05,J42,J17,J07]
theorem H33 {n:Nat} (hn:n≤32) (rs:List Row) (k:Nat):(rTo n rs k).length≤(rs.map T5).sum:=by
 have:=D81 hn (rs.take k)
 have:=G84 rs k
 unfold rTo;omega
theorem E69 (n:Nat) (h:CHunk):(U1 n h).flatten=Y4 n h++[10]++rTo n h.Rows h.Rows.length:=by
 unfold U1 rTo
 rw [J21];simp
theorem D84 (p:Str):(Q5 p).length≤4*p.length+2:=F94 p
theorem H34 (n:Int):(V8 n).length≤10:=i6 n
theorem D85 (c:Comb):(A45 c).length≤4*c.Path.length+48:=by
 have h1:=D84 c.Path
 have h2:=H34 c.Parents
 have h3:(A96 c.Dense).length≤16:=by cases c.Dense<;>decide
 have h4:parS.length=8:=rfl
 unfold A45
 simp only [I93,I95,I97];omega
theorem H35 (c:Comb) (hn:c.Parents.toNat≤32) (k:Nat):(cTo c k).length≤4*c.Path.length+48+szC c.Hunks:=by
 have h1:=D85 c
 have h2:=F35 hn (c.Hunks.take k)
 have h3:=I43 c.Hunks k
 unfold cTo
 rw [I93];omega
theorem G18 (n:Nat) (r:Row):P5 (n+1) r=P5 n r++[A16 r n]:=by
 unfold P5
 rw [J32,J08];rfl
theorem D86 (n:Nat) (r:Row):(q9 n r).flatten=P5 n r++r.Text++(if ended r.Text=true then [] else markS):=by
 unfold q9
 split<;>simp
end Go.AL
namespace Go.AL
open Go
end Go.AL
namespace Go.AL
open Go
abbrev C06:Bool→Nat→Cell:=fun b _=>.v (.bool b)
def W6 (n:Nat) (rows:List Row):Int→List CHunk→List Span→Option (List CHunk)
 | _,hs,[]=>some hs
 | e,hs,s::r=>if s.From < e∨s.To≤s.From∨(rows.length:Int) < s.To then none else W6 n rows s.To (hs++[⟨E8 (rows.take s.From.toNat) n,(rows.drop s.From.toNat).take (s.To.toNat - s.From.toNat)⟩]) r
def U2 (path:Str) (t:Table) (sp:List Span) (d:Bool):Comb × Int :=
 if O8 path=false then (comb0,120) else if H3 t≠0 then (comb0,H3 t) else match W6 t.Parents.toNat t.Rows 0 [] sp with
  | none=>(comb0,3)
  | some hs=>if I4 ⟨path,d,t.Parents,hs⟩≠0 then (comb0,I4 ⟨path,d,t.Parents,hs⟩) else (⟨path,d,t.Parents,hs⟩,0)
theorem D02 (f:Row→Nat) (c n:Nat) (rows:List Row):∀(sp:List Span) (e:Int) (hs hs':List CHunk),0≤e→W6 n rows e hs sp=some hs'→(hs.map fun h=>c+(h.Rows.map f).sum).sum≤c*hs.length+((rows.take e.toNat).map f).sum→hs.length≤e.toNat →
  (hs'.map fun h=>c+(h.Rows.map f).sum).sum≤c*hs'.length+(rows.map f).sum∧hs'.length≤max rows.length hs.length
 | [],e,hs,hs',he,h,hw,hl=>by
  cases h
  refine ⟨?_,by omega⟩
  have:((rows.take e.toNat).map f).sum≤(rows.map f).sum:=by
   conv=>rhs;rw [←J29 e.toNat rows,J08,J44]
   omega
  omega
 | s :: r,e,hs,hs',he,h,hw,hl=>by
  rw [W6] at h
  split at h
  ·cases h
  ·rename_i hc
   simp only [not_or,Int.not_lt,Int.not_le] at hc
   obtain ⟨c1,c2,c3⟩:=hc
   have ih:=D02 f c n rows r s.To _ hs' (by omega) h
   have hsum:((rows.take e.toNat).map f).sum+(((rows.drop s.From.toNat).take (s.To.toNat - s.From.toNat)).map f).sum≤((rows.take s.To.toNat).map f).sum:=by
    have e1:rows.take s.To.toNat=rows.take s.From.toNat++(rows.drop s.From.toNat).take (s.To.toNat - s.From.toNat):=by
     have:=List.take_add (l:=rows) (i:=s.From.toNat) (j:=s.To.toNat - s.From.toNat)
     rw [show s.From.toNat+(s.To.toNat - s.From.toNat)=s.To.toNat by omega] at this
     exact this
    have e2:rows.take s.From.toNat=rows.take e.toNat++(rows.drop e.toNat).take (s.From.toNat - e.toNat):=by
     have:=List.take_add (l:=rows) (i:=e.toNat) (j:=s.From.toNat - e.toNat)
     rw [show e.toNat+(s.From.toNat - e.toNat)=s.From.toNat by omega] at this
     exact this
    rw [e1,J08,J44]
    conv=>rhs;rw [e2,J08,J44]
    omega
   have hih:=ih (by
    rw [J08,J44,I93]
    simp only [J01,J36,J26,List.sum_nil,I95,I97,Nat.mul_add,Nat.mul_one,Nat.mul_zero]
    omega) (by rw [I93];simp;omega)
   refine ⟨hih.1,?_⟩
   have:=hih.2
   rw [I93] at this
   simp only [I95,I97] at this
   have h3:hs.length+1≤rows.length:=by omega
   omega
def CInvA (n:Nat) (hs:List CHunk):Prop:=∀h∈hs,h.At.length=n+1∧J6 h.Rows
theorem D87 {n:Nat} {rows:List Row} (hr:J6 rows):∀(sp:List Span) (e:Int) (hs hs':List CHunk),W6 n rows e hs sp=some hs'→CInvA n hs→CInvA n hs'
 | [],e,hs,hs',h,hi=>by cases h;exact hi
 | s::r,e,hs,hs',h,hi=>by
  rw [W6] at h
  split at h
  ·cases h
  ·refine D87 hr r _ _ hs' h ?_
   intro x hx
   rcases List.mem_append.1 hx with hx | hx
   ·exact hi x hx
   ·simp only [J20,J18,or_false] at hx
    rw [hx]
    exact ⟨D80 _ _,fun y hy=>hr y (List.mem_of_mem_drop (List.mem_of_mem_take hy))⟩
def C07 (n:Nat) (r:Row):Nat:=r.Text.length+n+29
theorem headC_w (n:Nat) (h:CHunk):(Y4 n h).length≤28*(n+1)+1:=by
 have:=A44 n h (n+1)
 unfold Y4
 simp only [I93,F34,I95,I97];omega
theorem I45 (n:Nat) (rs:List Row):((rs.map (q9 n)).flatten).flatten.length≤(rs.map (C07 n)).sum:=by
 have hm:markS.length=29:=rfl
 induction rs with
 | nil=>simp
 | cons x r ih =>
  have:(q9 n x).flatten.length≤C07 n x:=by
   unfold q9 C07
   split<;>simp only [J05,J42,I93,B20,I97]<;>omega
  simp only [J01,J05,J14,I93,J26];omega
theorem G93 (n:Nat) (hs:List CHunk):((hs.map (U1 n)).flatten).flatten.length≤(hs.map fun h=>(28*(n+1)+2)+(h.Rows.map (C07 n)).sum).sum:=by
 induction hs with
 | nil=>simp
 | cons x r ih =>
  have h1:=headC_w n x
  have h2:=I45 n x.Rows
  have h3:(U1 n x).flatten.length≤(28*(n+1)+2)+(x.Rows.map (C07 n)).sum:=by
   unfold U1
   simp only [J05,I93,I95,I97];omega
  rw [J01,J05,J14,I93,J01,J26]
  exact Nat.add_le_add h3 ih
theorem D88 (c:Comb):(V9 c).length≤4*c.Path.length+48+(c.Hunks.map fun h=>(28*(c.Parents.toNat+1)+2)+(h.Rows.map (C07 c.Parents.toNat)).sum).sum:=by
 have h1:=D85 c
 have h2:=G93 c.Parents.toNat c.Hunks
 rw [←D83]
 unfold cTo
 rw [J21,I93];omega
theorem A46:∀(s cur:Str),(F4 cur s).length≤s.count 10+1
 | [],cur=>by unfold F4;split<;>simp
 | c::r,cur=>by
  rw [j8]
  split
  ·rename_i h
   have:=A46 r []
   rw [I95,List.count_cons,h];simp;omega
  ·have:=A46 r (cur++[c])
   rw [List.count_cons];omega
theorem C78 (s:Str):(B7 s).length≤s.count 10+1:=A46 s []
theorem C08 (result:Str) (parents:List Str) (L B:Nat) (h0:(B7 result).length≤L∧result.length≤B) (h1:∀b∈parents,(B7 b).length≤L∧b.length≤B) :
  J6 (D9 result parents).1.Rows∧(D9 result parents).1.Rows.length≤(L+1)*(parents.length*L+1)∧∀r∈(D9 result parents).1.Rows,r.Text.length≤B:=by
 have hnil:J6 []∧([]:List Row).length≤(L+1)*(parents.length*L+1)∧∀r∈([]:List Row),r.Text.length≤B:=⟨fun r hr=>(by cases hr),(by simp),fun r hr=>(by cases hr)⟩
 by_cases hn:parents.length < 1∨32 < parents.length
 ·rw [D9,if_pos hn];exact hnil
 obtain ⟨fs,hfs⟩:∃fs,fs=B7 result::parents.map B7:=⟨_,rfl⟩
 obtain ⟨names,hnames⟩:∃names,names=H0 fs:=⟨_,rfl⟩
 obtain ⟨s,hs⟩:∃s,s=M1 (fs.map (M3 names)) (B7 result).length parents.length parents.length:=⟨_,rfl⟩
 have hm:D9 result parents=if ∃k,k < (B7 result).length+1∧(E9 (s.2 k)).2≠0 then (⟨0,[]⟩,1) else (⟨parents.length,S7 names (B7 result) s ((B7 result).length+1)⟩,0):=by
  rw [D9,if_neg hn,hs,hnames,hfs]
 rw [hm]
 split
 ·exact hnil
 have hfB:∀f∈fs,f.length≤L∧∀t∈f,t.length≤B:=by
  intro f hf
  rw [hfs] at hf
  rcases List.mem_cons.1 hf with rfl | hf
  ·exact ⟨h0.1,fun t ht=>by have:=F99 _ _ ht;omega⟩
  ·obtain ⟨b,hb,rfl⟩:=List.mem_map.1 hf
   have:=h1 b hb
   exact ⟨this.1,fun t ht=>by have:=F99 _ _ ht;omega⟩
 have hnB:∀t∈names,t.length≤B:=by
  intro t ht
  rw [hnames] at ht
  obtain ⟨f,hf,h2⟩:=List.mem_flatten.1 (C62 fs t ht)
  exact (hfB f hf).2 t h2
 have hid:∀x∈fs.map (M3 names),x.length≤L∧∀v∈x,(fun _:Int=>True) v:=by
  intro x hx
  obtain ⟨f,hf,rfl⟩:=List.mem_map.1 hx
  exact ⟨by rw [M3,J13];exact (hfB f hf).1,fun _ _=>trivial⟩
 have hok:LoomOk (fun _=>True) L (B7 result).length parents.length s:=by rw [hs];exact A14 hid _
 have hL:(B7 result).length≤L:=h0.1
 have hcs:∀k,(E9 (s.2 k)).1.length≤parents.length*L∧∀m∈(E9 (s.2 k)).1,0≤m.Parents∧m.Parents < 4294967296:=fun k=>by
  have h2:=hok.gaps k
  have h3:=A06 (fun _=>True) L (s.2 k) h2.2
  rw [h2.1] at h3
  exact ⟨h3.1,fun m hmem=>(h3.2 m hmem).1⟩
 have hgetD:∀(l:List Str) (k:Nat),(∀t∈l,t.length≤B)→(l.getD k []).length≤B:=by
  intro l k hl
  rw [I98]
  cases h:l[k]? with
  | none=>simp
  | some t=>exact hl t (J10 h)
 have key:∀k,k≤(B7 result).length+1→J6 (S7 names (B7 result) s k)∧(S7 names (B7 result) s k).length≤k*(parents.length*L+1)∧∀r∈S7 names (B7 result) s k,r.Text.length≤B:=by
  intro k
  induction k with
  | zero=>intro _;simp only [S7,List.range_zero,J36,J42];exact ⟨fun r hr=>(by cases hr),by simp,fun r hr=>(by cases hr)⟩
  | succ k ih =>
   intro hk
   obtain ⟨i1,i2,i3⟩:=ih (by omega)
   have hc:=hcs k
   have hgap:∀r∈N3 names (B7 result) s k,(0≤r.Marks∧r.Marks < 4294967296)∧r.Text.length≤B:=by
    intro r hr
    unfold N3 at hr
    rcases List.mem_append.1 hr with h | h
    ·obtain ⟨m,hmem,rfl⟩:=List.mem_map.1 h
     exact ⟨hc.2 m hmem,hgetD _ _ hnB⟩
    ·split at h
     ·rename_i hkl
      simp only [List.mem_singleton] at h
      subst h
      refine ⟨?_,hgetD _ _ (hfB _ (by rw [hfs];simp)).2⟩
      have:k < s.1.length:=by rw [hok.len];exact hkl
      show 0≤s.1.getD k 0∧s.1.getD k 0 < 4294967296
      rw [I98,I94 this]
      exact hok.marks _ (J06 this)
     ·cases h
   have hgl:(N3 names (B7 result) s k).length≤parents.length*L+1:=by
    unfold N3
    rw [I93,J13]
    have:=hc.1
    split<;>simp<;>omega
   rw [l9]
   refine ⟨fun r hr=>?_,by rw [I93,J11,Nat.one_mul];omega,fun r hr=>?_⟩
   ·rcases List.mem_append.1 hr with h | h
    ·exact i1 r h
    ·exact (hgap r h).1
   ·rcases List.mem_append.1 hr with h | h
    ·exact i3 r h
    ·exact (hgap r h).2
 obtain ⟨k1,k2,k3⟩:=key _ (Nat.le_refl _)
 have:((B7 result).length+1)*(parents.length*L+1)≤(L+1)*(parents.length*L+1):=J03 _ (by omega)
 exact ⟨k1,by simp only;omega,k3⟩
end Go.AL
namespace Go.AL
open Go
def j4 (r:Row):Bool:=!r.Lost&&decide (r.Marks=0)
def m9 (out:List Span) (v:Int):List Span:=match out.getLast? with
 | some s=>out.dropLast++[⟨s.From,v⟩]
 | none=>out
def C09:List Bool→Nat→Bool→List Span→List Span
 | [],_,_,out=>out
 | b::r,i,p,out=>C09 r (i+1) b (if b=true then m9 (if p=true then out else out++[⟨i,i⟩]) ((i:Int)+1) else out)
def U3 (l:List Bool):List Span:=C09 l 0 false []
def B61 (n:Nat) (out:List Span):Prop:=out.length≤n∧∀s∈out,(0≤s.From∧s.From≤n)∧(0≤s.To∧s.To≤n)
theorem E70 {n:Nat} {out:List Span} (h:B61 n out):B61 (n+1) out:=⟨by have:=h.1;omega,fun s hs=>by have:=h.2 s hs;omega⟩
theorem I46 {n:Nat} {out:List Span} (h:B61 n out):B61 (n+1) (out++[⟨n,n⟩]):=by
 refine ⟨by rw [I93];have:=h.1;simp;omega,fun x hx=>?_⟩
 rcases List.mem_append.1 hx with hx | hx
 ·have:=h.2 x hx;omega
 ·simp only [J20,J18,or_false] at hx
  rw [hx];dsimp only;omega
theorem D89 {n:Nat} {out:List Span} {v:Int} (h:B61 n out) (hv:0≤v∧v≤(n:Int)):B61 n (m9 out v):=by
 unfold m9
 cases hl:out.getLast? with
 | none=>dsimp only;exact h
 | some s =>
  dsimp only
  have hm:=h.2 s (List.mem_of_getLast? hl)
  have hne:out≠[]:=fun e=>by rw [e] at hl;cases hl
  have hp:=List.length_pos_iff.2 hne
  refine ⟨by rw [I93,List.length_dropLast];have:=h.1;simp;omega,fun x hx=>?_⟩
  rcases List.mem_append.1 hx with hx | hx
  ·exact h.2 x ((List.dropLast_sublist _).subset hx)
  ·simp only [J20,J18,or_false] at hx
   rw [hx];dsimp only;omega
theorem H36 {i:Nat} {out:List Span} (b p:Bool) (h:B61 i out):B61 (i+1) (if b=true then m9 (if p=true then out else out++[⟨i,i⟩]) ((i:Int)+1) else out):=by
 split
 ·split
  ·exact D89 (E70 h) (by omega)
  ·exact D89 (I46 h) (by omega)
 ·exact E70 h
theorem H37:∀(l:List Bool) (i:Nat) (p:Bool) (out:List Span),B61 i out→B61 (i+l.length) (C09 l i p out)
 | [],i,p,out,h=>h
 | b::r,i,p,out,h=>by
  rw [C09,I95,show i+(r.length+1)=(i+1)+r.length by omega]
  exact H37 r (i+1) b _ (H36 b p h)
theorem D90 (l:List Bool):B61 l.length (U3 l):=by
 have:=H37 l 0 false [] ⟨Nat.le_refl _,fun s hs=>by cases hs⟩
 rwa [Nat.zero_add] at this
def p7 (t:Table):List Span × Int:=if H3 t≠0 then ([],H3 t) else (U3 (t.Rows.map fun r=>!j4 r),0)
def C79 (rows:List Row):Int:=rows.foldl (fun a r=>I7 a r.Marks) 0
def z6 (t:Table) (s:Span):Bool:=(List.range t.Parents.toNat).all fun p=>!decide (C79 ((t.Rows.drop s.From.toNat).take (s.To.toNat - s.From.toNat)) / 2 ^ p % 2=0)
def F9 (t:Table) (d:Bool):List Span × Int:=if (p7 t).2≠0 then ([],(p7 t).2) else ((p7 t).1.filter fun s=>!d||z6 t s,0)
def P6 (l:List Span) (ctx:Int) (k:Nat):Bool:=l.any fun s=>decide (s.From - ctx≤k∧(k:Int) < s.To+ctx)
def K7 (t:Table) (ctx:Int) (d:Bool):List Span × Int :=
 if (F9 t d).2≠0 then ([],(F9 t d).2) else if ctx < 0∨1048576 < ctx then ([],3)
 else (U3 ((List.range t.Rows.length).map (P6 (F9 t d).1 ctx)),0)
theorem runs_in (t:Table):B61 t.Rows.length (p7 t).1:=by
 unfold p7
 split
 ·exact ⟨Nat.zero_le _,fun s hs=>by cases hs⟩
 ·have:=D90 (t.Rows.map fun r=>!j4 r)
  rwa [J13] at this
theorem D91 (t:Table) (d:Bool):B61 t.Rows.length (F9 t d).1:=by
 have h:=runs_in t
 unfold F9
 split
 ·exact ⟨Nat.zero_le _,fun s hs=>by cases hs⟩
 ·refine ⟨?_,fun s hs=>h.2 s (List.mem_filter.1 hs).1⟩
  have:=List.length_filter_le (fun s=>!d||z6 t s) (p7 t).1
  have:=h.1
  dsimp only;omega
theorem I47 (t:Table) (ctx:Int) (d:Bool):B61 t.Rows.length (K7 t ctx d).1:=by
 unfold K7
 split
 ·exact ⟨Nat.zero_le _,fun s hs=>by cases hs⟩
 ·split
  ·exact ⟨Nat.zero_le _,fun s hs=>by cases hs⟩
  ·have:=D90 ((List.range t.Rows.length).map (P6 (F9 t d).1 ctx))
   rwa [J13,J41] at this
def C80 (l:List Bool) (i:Nat):Bool:=if i=0 then false else l.getD (i - 1) false
theorem H94 {l:List Bool} {i:Nat} {p:Bool} {out:List Span} (h:i < l.length):C09 (l.drop i) i p out=C09 (l.drop (i+1)) (i+1) (l.getD i false) (if l.getD i false=true then m9 (if p=true then out else out++[⟨i,i⟩]) ((i:Int)+1) else out):=by
 rw [J00 h,C09,I98,I94 h];rfl
end Go.AL
namespace Go.AL
open Go
theorem t6 (out:List Span) (a b v:Int):m9 (out++[⟨a,b⟩]) v=out++[⟨a,v⟩]:=by unfold m9;simp
def SpUp (n:Int) (out:List Span):Prop:=(∀s∈out,s.From≤n)∧out.Pairwise fun a b=>a.From≤b.From
theorem I48 {n:Int} {out:List Span} (h:SpUp n out) (v:Int):SpUp n (out++[⟨n,v⟩]):=by
 refine ⟨fun s hs=>?_,?_⟩
 ·rcases List.mem_append.1 hs with hs | hs
  ·exact h.1 s hs
  ·simp only [J20,J18,or_false] at hs
   rw [hs];exact Int.le_refl _
 ·rw [List.pairwise_append]
  refine ⟨h.2,List.pairwise_singleton _ _,fun a ha b hb=>?_⟩
  simp only [J20,J18,or_false] at hb
  rw [hb];exact h.1 a ha
theorem I49 {n:Int} {out:List Span} (h:SpUp n out) (v:Int):SpUp n (m9 out v):=by
 unfold m9
 cases hl:out.getLast? with
 | none=>exact h
 | some s =>
  dsimp only
  have e:out=out.dropLast++[s]:=by
   have hne:out≠[]:=fun e=>by rw [e] at hl;cases hl
   have h2:=List.dropLast_concat_getLast hne
   rw [List.getLast?_eq_some_getLast hne] at hl
   cases hl
   exact h2.symm
  rw [e] at h
  obtain ⟨h1,h2⟩:=h
  rw [List.pairwise_append] at h2
  refine ⟨fun x hx=>?_,?_⟩
  ·rcases List.mem_append.1 hx with hx | hx
   ·exact h1 x (List.mem_append.2 (.inl hx))
   ·simp only [J20,J18,or_false] at hx
    rw [hx];exact h1 s (by simp)
  ·rw [List.pairwise_append]
   refine ⟨h2.1,List.pairwise_singleton _ _,fun a ha b hb=>?_⟩
   simp only [J20,J18,or_false] at hb
   rw [hb];exact h2.2.2 a ha s (by simp)
theorem H95 {n m:Int} {out:List Span} (h:SpUp n out) (hm:n≤m):SpUp m out:=⟨fun s hs=>Int.le_trans (h.1 s hs) hm,h.2⟩
theorem H38:∀(l:List Bool) (i:Nat) (p:Bool) (out:List Span),SpUp i out→∃m,SpUp m (C09 l i p out)
 | [],i,p,out,h=>⟨_,h⟩
 | b::r,i,p,out,h=>by
  rw [C09]
  refine H38 r (i+1) b _ (H95 (n:=(i:Int)) ?_ (by omega))
  split
  ·split
   ·exact I49 h _
   ·rw [t6];exact I48 h _
  ·exact h
theorem I50 (l:List Bool):(U3 l).Pairwise fun a b=>a.From≤b.From:=by
 obtain ⟨m,h⟩:=H38 l 0 false [] ⟨fun s hs=>(by cases hs),List.Pairwise.nil⟩
 exact h.2
theorem D92 (t:Table) (d:Bool):(F9 t d).1.Pairwise fun a b=>a.From≤b.From:=by
 unfold F9 p7
 split
 ·exact List.Pairwise.nil
 ·dsimp only
  split
  ·exact List.Pairwise.nil
  ·exact List.Pairwise.sublist List.filter_sublist (I50 _)
theorem up_get {L:List Span} (h:L.Pairwise fun a b=>a.From≤b.From) {k:Nat} (hk:k+1 < L.length):L[k].From≤L[k+1].From:=(List.pairwise_iff_getElem.1 h) k (k+1) (by omega) hk (by omega)
theorem I51 {n:Int} {out:List Span} (h:∀s∈out,s.From≤s.To∧s.From≤n) (v:Int) (hv:n≤v):∀s∈m9 out v,s.From≤s.To∧s.From≤n:=by
 unfold m9
 cases hl:out.getLast? with
 | none=>exact h
 | some x =>
  dsimp only
  intro s hs
  rcases List.mem_append.1 hs with hs | hs
  ·exact h s ((List.dropLast_sublist _).subset hs)
  ·simp only [J20,J18,or_false] at hs
   rw [hs]
   have:=h x (List.mem_of_getLast? hl)
   exact ⟨by dsimp only;omega,this.2⟩
theorem H39:∀(l:List Bool) (i:Nat) (p:Bool) (out:List Span),(∀s∈out,s.From≤s.To∧s.From≤(i:Int))→∀s∈C09 l i p out,s.From≤s.To
 | [],i,p,out,h=>fun s hs=>(h s hs).1
 | b :: r,i,p,out,h=>by
  rw [C09]
  refine H39 r (i+1) b _ ?_
  have hmore:∀q:List Span,(∀s∈q,s.From≤s.To∧s.From≤(i:Int))→∀s∈q,s.From≤s.To∧s.From≤((i+1:Nat):Int):=fun q hq s hs=>by have:=hq s hs;omega
  split
  ·refine hmore _ (I51 ?_ _ (by omega))
   split
   ·exact h
   ·intro s hs
    rcases List.mem_append.1 hs with hs | hs
    ·exact h s hs
    ·simp only [J20,J18,or_false] at hs
     rw [hs];exact ⟨Int.le_refl _,Int.le_refl _⟩
  ·exact hmore _ h
theorem I52 (l:List Bool):∀s∈U3 l,s.From≤s.To:=H39 l 0 false [] (fun s hs=>by cases hs)
theorem F36 (L:List Span) (ctx:Int) (k:Nat) (h:k < L.length) (i:Nat):P6 (L.take (k+1)) ctx i=(P6 (L.take k) ctx i||decide (L[k].From - ctx≤i∧(i:Int) < L[k].To+ctx)):=by
 unfold P6
 rw [J02 h,List.any_append];simp
theorem E71 {n:Nat} (hn:n≤32):∀(rows:List Row) (a:Int),(0≤a∧a < ((2 ^ n:Nat):Int))→(∀r∈rows,0≤r.Marks∧r.Marks < ((2 ^ n:Nat):Int))→0≤rows.foldl (fun a r=>I7 a r.Marks) a∧rows.foldl (fun a r=>I7 a r.Marks) a < ((2 ^ n:Nat):Int)
 | [],a,h,_=>h
 | x::r,a,h,hr=>by
  have hx:=hr x (by simp)
  have h32:2 ^ n≤2 ^ 32:=Nat.pow_le_pow_right (by decide) hn
  rw [J19]
  refine E71 hn r _ ?_ fun y hy=>hr y (by simp [hy])
  obtain ⟨q,rfl⟩:∃q:Nat,a=q:=⟨a.toNat,by omega⟩
  obtain ⟨m,hm⟩:∃m:Nat,x.Marks=m:=⟨x.Marks.toNat,by omega⟩
  rw [hm] at hx ⊢
  obtain ⟨h3,_⟩:=A86 q m (by omega) (by omega)
  rw [h3]
  have:=Nat.or_lt_two_pow (n:=n) (x:=q) (y:=m) (by omega) (by omega)
  omega
theorem I53 (n A:Nat) (hA:A < 2 ^ n):A=2 ^ n - 1↔((List.range n).all fun p=>!decide ((A:Int) / 2 ^ p % 2=0))=true:=by
 have hbit:∀p,decide ((A:Int) / 2 ^ p % 2=0)=!A.testBit p:=by
  intro p
  have e1:(A:Int) / 2 ^ p % 2=((A / 2 ^ p % 2:Nat):Int):=by simp
  rw [e1,Nat.testBit_eq_decide_div_mod_eq]
  have h2:A / 2 ^ p % 2=0∨A / 2 ^ p % 2=1:=by omega
  rcases h2 with h2 | h2<;>rw [h2]<;>rfl
 rw [List.all_eq_true]
 constructor
 ·rintro rfl p hp
  rw [hbit,Bool.not_not,Nat.testBit_two_pow_sub_one]
  exact decide_eq_true (List.mem_range.1 hp)
 ·intro h
  refine Nat.eq_of_testBit_eq fun p=>?_
  rw [Nat.testBit_two_pow_sub_one]
  by_cases hp:p < n
  ·have:=h p (List.mem_range.2 hp)
   rw [hbit,Bool.not_not] at this
   rw [this,decide_eq_true hp]
  ·rw [decide_eq_false hp]
   exact Nat.testBit_lt_two_pow (Nat.lt_of_lt_of_le hA (Nat.pow_le_pow_right (by decide) (by omega)))
theorem I54 {t:Table} {s:Span} {n:Nat} (hn:t.Parents=n) (hn2:1≤n∧n≤32) (hm:∀r∈t.Rows,0≤r.Marks∧r.Marks < ((2 ^ n:Nat):Int)) (F T:Nat) (hs:s=⟨F,T⟩) :
  decide (C79 ((t.Rows.drop F).take (T - F))=((2 ^ n - 1:Nat):Int))=z6 t s:=by
 obtain ⟨A,hA⟩:∃A,A=C79 ((t.Rows.drop F).take (T - F)):=⟨_,rfl⟩
 have hlow:0≤A∧A < ((2 ^ n:Nat):Int):=by
  rw [hA]
  refine E71 hn2.2 _ 0 ⟨Int.le_refl _,by have:=Nat.pow_pos (n:=n) (show 0 < 2 by decide);omega⟩ fun r hr=>hm r (List.mem_of_mem_drop (List.mem_of_mem_take hr))
 obtain ⟨q,rfl⟩:∃q:Nat,A=q:=⟨A.toNat,by omega⟩
 have hD:z6 t s=(List.range n).all fun p=>!decide ((q:Int) / 2 ^ p % 2=0):=by
  unfold z6;rw [hs,hn];dsimp only;rw [I99,I99,I99,←hA]
 rw [←hA,hD,Bool.eq_iff_iff,decide_eq_true_eq,←I53 n q (by omega)]
 omega
theorem H96 {rows:List Row} {n:Nat} (hr:J6 rows) (h:N2 rows n=true):∀r∈rows,0≤r.Marks∧r.Marks < ((2 ^ n:Nat):Int):=by
 intro r hm
 have h1:=List.all_eq_true.1 h r hm
 unfold R0 at h1
 simp only [I96,beq_iff_eq] at h1
 refine ⟨(hr r hm).1,?_⟩
 have e:(2:Int) ^ n=((2 ^ n:Nat):Int):=by simp
 have h2:=h1.1
 rw [e] at h2
 have hp:(0:Int) < ((2 ^ n:Nat):Int):=by have:=Nat.pow_pos (n:=n) (show 0 < 2 by decide);omega
 have h3:=Int.emod_lt_of_pos r.Marks hp
 have h4:=Int.mul_ediv_add_emod r.Marks ((2 ^ n:Nat):Int)
 rw [h2,Int.mul_zero,Int.zero_add] at h4
 omega
theorem I55 (n:Nat) (hn:1≤n∧n≤32):(4294967295:Int).fdiv (2 ^ (min (32 - (n:Int)).toNat IntKind.u32.bits))=((2 ^ n - 1:Nat):Int):=by
 have h1:min (32 - (n:Int)).toNat IntKind.u32.bits=32 - n:=by
  rw [show (32 - (n:Int)).toNat=32 - n by omega];exact Nat.min_eq_left (by show 32 - n≤32;omega)
 rw [h1,Int.fdiv_eq_ediv_of_nonneg _ (Int.pow_nonneg (by decide))]
 have key:∀k:Fin 33,1≤k.val→(4294967295:Int) / 2 ^ (32 - k.val)=((2 ^ k.val - 1:Nat):Int):=by decide
 exact key ⟨n,by omega⟩ hn.1
end Go.AL
namespace Go.AL
open Go
theorem C10 {p:Nat} (hp:p < 32):2 ^ p < 4294967296:=Nat.pow_lt_pow_right (a:=2) (by decide) hp
theorem C11 {m:Int} {p q:Nat} (hm:0≤m∧m < 4294967296) (hp:p < 32):T3 (I7 m (G8 p)) q=(T3 m q||decide (p=q)):=by
 obtain ⟨k,rfl⟩:∃k:Nat,m=k:=⟨m.toNat,by omega⟩
 have:=C10 hp
 rw [B16 hp,(A86 k (2 ^ p) (by omega) (by omega)).1,g9,g9,Nat.testBit_or,Nat.testBit_two_pow]
theorem E72 {p q:Nat} (hp:p < 32):T3 (G8 p) q=decide (p=q):=by
 rw [B16 hp,g9,Nat.testBit_two_pow]
theorem E73 {m:Int} {p q:Nat} (h:0≤m∧m < ((2 ^ p:Nat):Int)) (hq:p≤q):T3 m q=false:=by
 obtain ⟨k,rfl⟩:∃k:Nat,m=k:=⟨m.toNat,by omega⟩
 rw [g9]
 exact Nat.testBit_lt_two_pow (Nat.lt_of_lt_of_le (by omega) (Nat.pow_le_pow_right (by decide) hq))
def c5 (q:Nat) (l:List Merged):List Int:=G4 (l.filter fun m=>T3 m.Parents q)
theorem W7 (q:Nat) (a b:List Merged):c5 q (a++b)=c5 q a++c5 q b:=by unfold c5 G4;rw [J40,J08]
theorem C42 {q:Nat} {l:List Merged} (h:∀m∈l,T3 m.Parents q=false):c5 q l=[]:=by
 unfold c5
 rw [List.filter_eq_nil_iff.2 (fun m hm=>by rw [h m hm];decide)];rfl
theorem C12 {p q:Nat} (hp:p < 32) (l:List Int):c5 q (l.map fun v=>(⟨v,G8 p⟩:Merged))=if p=q then l else []:=by
 by_cases h:p=q
 ·rw [if_pos h]
  unfold c5 G4
  rw [List.filter_eq_self.2 (fun m hm=>by obtain ⟨v,_,rfl⟩:=List.mem_map.1 hm;rw [E72 hp];exact decide_eq_true h),J28]
  exact List.map_id _
 ·rw [if_neg h]
  exact C42 fun m hm=>by obtain ⟨v,_,rfl⟩:=List.mem_map.1 hm;rw [E72 hp];exact decide_eq_false h
def LowP (p:Nat) (l:List Merged):Prop:=∀m∈l,0 < m.Parents∧m.Parents < ((2 ^ p:Nat):Int)
theorem LowP.sub {p:Nat} {l l':List Merged} (h:LowP p l) (hs:∀m∈l',m∈l):LowP p l':=fun m hm=>h m (hs m hm)
theorem LowP.up {p:Nat} {l:List Merged} (h:LowP p l):LowP (p+1) l:=fun m hm=>by
 have:=h m hm
 have:2 ^ p≤2 ^ (p+1):=Nat.pow_le_pow_right (by decide) (by omega)
 omega
theorem C13 {p:Nat} {a b:List Merged} (ha:LowP p a) (hb:LowP p b):LowP p (a++b):=fun m hm=>by
 rcases List.mem_append.1 hm with h | h
 ·exact ha m h
 ·exact hb m h
theorem G19 {p:Nat} (hp:p < 32) (l:List Int):LowP (p+1) (l.map fun v=>(⟨v,G8 p⟩:Merged)):=fun m hm=>by
 obtain ⟨v,_,rfl⟩:=List.mem_map.1 hm
 have h1:0 < 2 ^ p:=Nat.pow_pos (by decide)
 have h2:2 ^ (p+1)=2*2 ^ p:=by rw [Nat.pow_succ];omega
 show 0 < G8 p∧G8 p < _
 rw [B16 hp];omega
theorem or_pos {m:Int} {p:Nat} (hp:p < 32) (h:0 < m∧m < ((2 ^ p:Nat):Int)):0 < I7 m (G8 p)∧I7 m (G8 p) < ((2 ^ (p+1):Nat):Int):=by
 have h1:=or_low hp (m:=m) (by omega)
 refine ⟨?_,h1.2⟩
 have h2:=C10 hp
 have h3:=C11 (m:=m) (q:=p) (by omega) hp
 rw [decide_eq_true rfl,Bool.or_true] at h3
 have:I7 m (G8 p)≠0:=fun e=>by rw [e] at h3;simp [T3] at h3
 omega
theorem x2 {α:Type} (l:List α) {a b:Nat} (h:a≤b):l.drop a=(l.drop a).take (b - a)++l.drop b:=by
 have:=J29 (b - a) (l.drop a)
 rw [List.drop_drop,show a+(b - a)=b by omega] at this
 exact this.symm
theorem E74 {l:List Merged} {list:List Int} {p:Nat} (hp:p < 32) (hl:LowP p l):∀(ps:List Span) (i j:Nat),Asc l.length list.length i j ps→(∀x∈ps,(G4 l)[x.From.toNat]?=list[x.To.toNat]?) →
  c5 p (S6 l list (G8 p) i j ps)=list.drop j∧(∀q,q≠p→c5 q (S6 l list (G8 p) i j ps)=c5 q (l.drop i))∧LowP (p+1) (S6 l list (G8 p) i j ps)
 | [],i,j,ha,_=>by
  have e1:(l.drop i).take (l.length - i)=l.drop i:=J25 (by simp)
  have e2:(list.drop j).take (list.length - j)=list.drop j:=J25 (by simp)
  unfold S6
  rw [e1,e2]
  refine ⟨?_,fun q hq=>?_,C13 ((hl.sub fun m hm=>List.mem_of_mem_drop hm).up) (G19 hp _)⟩
  ·rw [W7,C12 hp,if_pos rfl,C42 fun m hm=>E73 (p:=p) (by have:=hl m (List.mem_of_mem_drop hm);omega) (Nat.le_refl _)];rfl
  ·rw [W7,C12 hp,if_neg (Ne.symm hq),J17]
 | x :: r,i,j,ha,hx=>by
  obtain ⟨h1,h2,h3⟩:=ha
  have h4:=h3.le
  have e1:((x.From.toNat+1:Nat):Int)=x.From+1:=by omega
  have e2:((x.To.toNat+1:Nat):Int)=x.To+1:=by omega
  obtain ⟨i1,i2,i3⟩:=E74 hp hl r (x.From.toNat+1) (x.To.toNat+1) (by rw [e1,e2];exact h3) (fun y hy=>hx y (List.mem_cons_of_mem _ hy))
  have hF:x.From.toNat < l.length:=by omega
  have hT:x.To.toNat < list.length:=by omega
  have hy:=hl l[x.From.toNat] (J06 hF)
  have hline:l[x.From.toNat].Line=list[x.To.toNat]:=by
   have:=hx x (by simp)
   rw [I94 hT] at this
   unfold G4 at this
   rw [J22,I94 hF] at this
   exact Option.some.inj this
  have h2p:=C10 hp
  have d1:l.drop i=(l.drop i).take (x.From.toNat - i)++l[x.From.toNat]::l.drop (x.From.toNat+1):=by
   rw [←J00 hF];exact x2 l (by omega)
  have d2:list.drop j=(list.drop j).take (x.To.toNat - j)++list[x.To.toNat]::list.drop (x.To.toNat+1):=by
   rw [←J00 hT];exact x2 list (by omega)
  have hM:(l[x.From.toNat]?.map fun y=>(⟨y.Line,I7 y.Parents (G8 p)⟩:Merged)).toList=[⟨l[x.From.toNat].Line,I7 l[x.From.toNat].Parents (G8 p)⟩]:=by rw [I94 hF];rfl
  have hbit:=fun q=>C11 (m:=l[x.From.toNat].Parents) (p:=p) (q:=q) (by omega) hp
  have hA:LowP p ((l.drop i).take (x.From.toNat - i)):=hl.sub fun m hm=>T8 hm
  unfold S6
  rw [hM]
  generalize ha':(l.drop i).take (x.From.toNat - i)=A at hA d1 ⊢
  generalize hb':(list.drop j).take (x.To.toNat - j)=A2 at d2 ⊢
  refine ⟨?_,fun q hq=>?_,?_⟩
  ·rw [W7,W7,W7,i1,C12 hp,if_pos rfl,C42 (l:=A) fun m hm=>E73 (p:=p) (by have:=hA m hm;omega) (Nat.le_refl _),J23,d2]
   have:c5 p [(⟨l[x.From.toNat].Line,I7 l[x.From.toNat].Parents (G8 p)⟩:Merged)]=[list[x.To.toNat]]:=by
    unfold c5
    rw [List.filter_cons_of_pos (by rw [hbit,decide_eq_true rfl,Bool.or_true])]
    show [l[x.From.toNat].Line]=_
    rw [hline]
   rw [this]
   simp
  ·have d3:c5 q (l.drop i)=c5 q A++(c5 q [l[x.From.toNat]]++c5 q (l.drop (x.From.toNat+1))):=by
    rw [d1,←W7,←W7];rfl
   rw [W7,W7,W7,i2 q hq,C12 hp,if_neg (Ne.symm hq),J17,d3]
   have:c5 q [(⟨l[x.From.toNat].Line,I7 l[x.From.toNat].Parents (G8 p)⟩:Merged)]=c5 q [l[x.From.toNat]]:=by
    unfold c5
    have hb:T3 (I7 l[x.From.toNat].Parents (G8 p)) q=T3 l[x.From.toNat].Parents q:=by rw [hbit,decide_eq_false (Ne.symm hq),Bool.or_false]
    cases hc:T3 l[x.From.toNat].Parents q
    ·rw [List.filter_cons_of_neg (by rw [hb,hc];decide),List.filter_cons_of_neg (by rw [hc];decide)]
    ·rw [List.filter_cons_of_pos (by rw [hb,hc]),List.filter_cons_of_pos (by rw [hc])]
     rfl
   rw [this]
  ·refine C13 (C13 hA.up (G19 hp _)) (C13 ?_ i3)
   intro m hm
   rw [List.mem_singleton.1 hm]
   exact or_pos hp hy
theorem G20 {l:List Merged} {list:List Int} {p:Nat} (hp:p < 32) (hl:LowP p l) :
  c5 p (R6 l list p)=list∧(∀q,q≠p→c5 q (R6 l list p)=c5 q l)∧LowP (p+1) (R6 l list p):=by
 have hasc:=S5 (G4 l) list 0 0
 rw [Int.zero_add,Int.zero_add,show (G4 l).length=l.length by simp [G4]] at hasc
 have:=E74 (list:=list) hp hl (F3 0 0 (G4 l) list) 0 0 hasc (fun x hx=>by
  obtain ⟨_,_,v,h1,h2⟩:=E60 (G4 l) list 0 0 x hx
  rw [Int.sub_zero] at h1 h2
  rw [h1,h2])
 exact this
theorem B41:∀(ls:List (List Int)) (acc:List Merged) (p:Nat),p+ls.length≤32→LowP p acc→(F7 acc p ls).2=0 →
  LowP (p+ls.length) (F7 acc p ls).1∧(∀q,q < p→c5 q (F7 acc p ls).1=c5 q acc)∧∀t,t < ls.length→c5 (p+t) (F7 acc p ls).1=ls.getD t []
 | [],acc,p,_,ha,_=>⟨ha,fun _ _=>rfl,fun t ht=>absurd ht (Nat.not_lt_zero _)⟩
 | x :: r,acc,p,hp,ha,h=>by
  rw [I95] at hp
  unfold F7 at h ⊢
  split at h
  ·cases h
  ·rename_i hc
   rw [if_neg hc]
   obtain ⟨j1,j2,j3⟩:=G20 (list:=x) (p:=p) (by omega) ha
   obtain ⟨i1,i2,i3⟩:=B41 r (R6 acc x p) (p+1) (by omega) j3 h
   refine ⟨?_,fun q hq=>?_,fun t ht=>?_⟩
   ·rw [I95,show p+(r.length+1)=p+1+r.length by omega];exact i1
   ·exact (i2 q (by omega)).trans (j2 q (by omega))
   ·cases t with
    | zero=>exact (i2 p (by omega)).trans j1
    | succ t =>
     have:=i3 t (by rw [I95] at ht;omega)
     rw [show p+1+t=p+(t+1) by omega] at this
     exact this
theorem C89 {ls:List (List Int)} (h:(E9 ls).2=0):LowP ls.length (E9 ls).1∧∀q,q < ls.length→c5 q (E9 ls).1=ls.getD q []:=by
 unfold E9 at h ⊢
 split at h
 ·cases h
 ·rename_i hc
  rw [if_neg hc]
  obtain ⟨h1,_,h3⟩:=B41 ls [] 0 (by omega) (fun m hm=>by cases hm) h
  rw [Nat.zero_add] at h1
  exact ⟨h1,fun q hq=>by have:=h3 q hq;rwa [Nat.zero_add] at this⟩
theorem B42 (B:Nat):∀(ls:List (List Int)) (acc:List Merged) (p:Nat),(∀x∈ls,x.length≤B)→acc.length+ls.length*B≤4096→(F7 acc p ls).2=0
 | [],acc,p,_,_=>rfl
 | x::r,acc,p,hl,h=>by
  have hx:=hl x (by simp)
  have hj:=y4 acc x p
  rw [I95,J11,Nat.one_mul] at h
  unfold F7
  rw [if_neg (by omega)]
  exact B42 B r (R6 acc x p) (p+1) (fun y hy=>hl y (List.mem_cons_of_mem _ hy)) (by omega)
theorem C90 {B:Nat} {ls:List (List Int)} (hl:∀x∈ls,x.length≤B) (hn:ls.length≤32) (h:ls.length*B≤4096):(E9 ls).2=0:=by
 unfold E9
 rw [if_neg (by omega)]
 exact B42 B ls [] 0 hl (by simpa using h)
end Go.AL
namespace Go.AL
open Go
def j5 {α:Type} (G:Nat→List α) (a b:Nat):List α:=((List.range (b - a)).map fun t=>G (a+t)).flatten
theorem x3 {α:Type} (G:Nat→List α) {a b c:Nat} (h1:a≤b) (h2:b≤c):j5 G a c=j5 G a b++j5 G b c:=by
 unfold j5
 rw [show c - a=(b - a)+(c - b) by omega,List.range_add,J08,J14,J28]
 congr 3
 funext t
 show G (a+(b - a+t))=G (b+t)
 rw [show a+(b - a+t)=b+t by omega]
theorem A98 {α:Type} (G:Nat→List α) (a:Nat):j5 G a (a+1)=G a:=by
 unfold j5
 rw [show a+1 - a=1 by omega]
 simp [J32]
theorem E75 {α:Type} (G:Nat→List α) (a:Nat):j5 G a a=[]:=by unfold j5;simp
theorem A47 {α:Type} {G G':Nat→List α} {a b:Nat} (h:∀k,a≤k→k < b→G k=G' k):j5 G a b=j5 G' a b:=by
 unfold j5
 congr 1
 exact List.map_congr_left fun t ht=>h _ (by omega) (by have:=List.mem_range.1 ht;omega)
theorem D93 {α:Type} {G:Nat→List α} {a b:Nat} (h:∀k,a≤k→k < b→G k=[]):j5 G a b=[]:=by
 rw [A47 (G':=fun _=>[]) h]
 unfold j5
 exact List.flatten_eq_nil_iff.2 fun l hl=>by obtain ⟨t,_,rfl⟩:=List.mem_map.1 hl;rfl
theorem I56 {α β:Type} (f:α→β) (G:Nat→List α) (a b:Nat):j5 (fun k=>(G k).map f) a b=(j5 G a b).map f:=by
 unfold j5
 rw [List.map_flatten,J28];rfl
theorem G21 {α:Type} (l:List α):∀d i,i+d=l.length→j5 (fun k=>(l[k]?).toList) i (l.length+1)=l.drop i
 | 0,i,h=>by
  rw [show l.length+1=i+1 by omega,A98,J24 (by omega),List.drop_of_length_le (by omega)];rfl
 | d+1,i,h=>by
  have hi:i < l.length:=by omega
  rw [x3 _ (show i≤i+1 by omega) (show i+1≤l.length+1 by omega),A98,G21 l d (i+1) (by omega),I94 hi,J00 hi];rfl
def piece (file:List Int) (c:Change):List Int:=(file.drop c.Old.toNat).take ((c.Old+c.OldLen).toNat - c.Old.toNat)
def z7 (file:List Int) (cs:List Change) (k:Nat) (a:List Int):List Int:=cs.foldl (fun a c=>if k=c.New.toNat then piece file c else a) a
theorem E76 {file:List Int} {k:Nat}:∀{cs:List Change} {a:List Int},(∀c∈cs,k≠c.New.toNat)→z7 file cs k a=a
 | [],_,_=>rfl
 | c::r,a,h=>by
  unfold z7
  rw [J19,if_neg (h c (by simp))]
  exact E76 (fun d hd=>h d (List.mem_cons_of_mem _ hd))
theorem E77 (file:List Int) (a b:List Change) (k:Nat) (z:List Int):z7 file (a++b) k z=z7 file b k (z7 file a k z):=by unfold z7;rw [J34]
theorem G22 (p:Nat) (file:List Int) (k:Nat):∀(cs:List Change) (g:Nat→List (List Int)),cs.foldl (L9 p file) g k=(g k).set p (z7 file cs k ((g k).getD p []))
 | [],g=>by
  refine List.ext_getElem? fun q=>?_
  show (g k)[q]?=((g k).set p ((g k).getD p []))[q]?
  rw [List.getElem?_set]
  split
  ·rename_i h;subst h
   split
   ·rename_i h;rw [I98,I94 h];rfl
   ·rename_i h;exact J24 (by omega)
  ·rfl
 | c::r,g=>by
  rw [J19,G22 p file k r]
  have e:L9 p file g c k=if k=c.New.toNat then (g k).set p (piece file c) else g k:=rfl
  rw [e]
  show _=(g k).set p (z7 file r k (if k=c.New.toNat then piece file c else (g k).getD p []))
  split
  ·rw [List.set_set]
   by_cases hp:p < (g k).length
   ·rw [I98,List.getElem?_set_self hp];rfl
   ·rw [List.set_eq_of_length_le (by omega),List.set_eq_of_length_le (by omega)]
  ·rfl
theorem E78 (a b:List Change) (k:Nat):O9 (a++b) k=(O9 a k||O9 b k):=by unfold O9;rw [List.any_append]
theorem H97 {cs:List Change} {k:Nat} (h:∀c∈cs,(k:Int) < c.New):O9 cs k=false:=by
 unfold O9
 rw [List.any_eq_false]
 intro c hc
 have:=h c hc
 rw [decide_eq_true_eq];omega
def D94 (file base:List Int) (cs:List Change) (k:Nat):List Int:=z7 file cs k []++(if O9 cs k=true then [] else (base[k]?).toList)
theorem G23 {file base:List Int}:∀(ps:List Span) (i j:Nat),Asc file.length base.length i j ps→(∀x∈ps,file[x.From.toNat]?=base[x.To.toNat]?) →
  j5 (D94 file base (L8 i j ps file.length base.length)) j (base.length+1)=file.drop i
 | [],i,j,ha,_=>by
  have h1:(i:Int)≤file.length∧(j:Int)≤base.length:=ha
  unfold L8
  rw [x3 _ (show j≤j+1 by omega) (show j+1≤base.length+1 by omega),A98]
  by_cases h:(file.length:Int) > i∨(base.length:Int) > j
  ·rw [if_pos h]
   have e1:∀k,z7 file [⟨i,(file.length:Int) - i,j,(base.length:Int) - j⟩] k []=if k=j then file.drop i else []:=by
    intro k
    show (if k=(j:Int).toNat then piece file _ else [])=_
    rw [I99]
    have e2:piece file ⟨i,(file.length:Int) - i,j,(base.length:Int) - j⟩=file.drop i:=by
     unfold piece
     dsimp only
     rw [I99,J25 (by rw [J15];omega)]
    rw [e2]
   have e3:∀k,j≤k→(if O9 [⟨i,(file.length:Int) - i,j,(base.length:Int) - j⟩] k=true then [] else (base[k]?).toList)=([]:List Int):=by
    intro k hk
    by_cases hk2:k < base.length
    ·rw [if_pos]
     unfold O9
     simp only [List.any_cons,List.any_nil,Bool.or_false,decide_eq_true_eq,I99]
     omega
    ·rw [J24 (by omega)]
     split<;>rfl
   rw [D93 (fun k hk _=>by unfold D94;rw [e1,e3 k (by omega),if_neg (by omega)];rfl)]
   unfold D94
   rw [e1,e3 j (Nat.le_refl _),if_pos rfl];simp
  ·rw [if_neg h,D93 (fun k hk hk2=>by omega)]
   unfold D94
   rw [J24 (by omega),List.drop_of_length_le (by omega)]
   rfl
 | x :: r,i,j,ha,hx=>by
  obtain ⟨h1,h2,h3⟩:=ha
  have h4:=h3.le
  have e1:((x.From.toNat+1:Nat):Int)=x.From+1:=by omega
  have e2:((x.To.toNat+1:Nat):Int)=x.To+1:=by omega
  have ih:=G23 r (x.From.toNat+1) (x.To.toNat+1) (by rw [e1,e2];exact h3) (fun y hy=>hx y (List.mem_cons_of_mem _ hy))
  rw [e1,e2] at ih
  have hbd:=h3.made
  have hv:=hx x (by simp)
  have hF:x.From.toNat < file.length:=by omega
  have hT:x.To.toNat < base.length:=by omega
  have hd:file.drop i=(file.drop i).take (x.From.toNat - i)++(base[x.To.toNat]?.toList++file.drop (x.From.toNat+1)):=by
   rw [←hv,I94 hF]
   show _=_++(file[x.From.toNat]::file.drop (x.From.toNat+1))
   rw [←J00 hF];exact x2 file (by omega)
  unfold L8
  obtain ⟨R,hR⟩:∃R,R=L8 (x.From+1) (x.To+1) r file.length base.length:=⟨_,rfl⟩
  rw [←hR] at hbd ih ⊢
  have outR:∀k:Nat,(k:Int)≤x.To→∀z,z7 file R k z=z:=fun k hk z=>E76 fun c hc=>by have:=hbd c hc;omega
  have outN:∀k:Nat,(k:Int)≤x.To→O9 R k=false:=fun k hk=>H97 fun c hc=>by have:=hbd c hc;omega
  rw [x3 _ (show j≤x.To.toNat by omega) (show x.To.toNat≤base.length+1 by omega),x3 _ (show x.To.toNat≤x.To.toNat+1 by omega) (show x.To.toNat+1≤base.length+1 by omega),A98]
  by_cases h:x.From > i∨x.To > j
  ·rw [if_pos h]
   have l1:∀k,z7 file [⟨i,x.From - i,j,x.To - j⟩] k []=if k=j then (file.drop i).take (x.From.toNat - i) else []:=by
    intro k
    show (if k=(j:Int).toNat then piece file _ else [])=_
    rw [I99]
    have e3:piece file ⟨i,x.From - i,j,x.To - j⟩=(file.drop i).take (x.From.toNat - i):=by
     unfold piece
     dsimp only
     rw [I99,show ((i:Int)+(x.From - i)).toNat=x.From.toNat by omega]
    rw [e3]
   have l2:∀k,O9 [⟨i,x.From - i,j,x.To - j⟩] k=decide (j≤k∧k < x.To.toNat):=by
    intro k
    unfold O9
    simp only [List.any_cons,List.any_nil,Bool.or_false,I99]
    refine decide_eq_decide.2 ?_
    omega
   have hlow:∀k:Nat,(k:Int)≤x.To→D94 file base ([⟨i,x.From - i,j,x.To - j⟩]++R) k=(if k=j then (file.drop i).take (x.From.toNat - i) else [])++(if j≤k∧k < x.To.toNat then [] else (base[k]?).toList):=by
    intro k hk
    unfold D94
    rw [E77,outR k hk,l1,E78,outN k hk,l2,Bool.or_false]
    by_cases hq:j≤k∧k < x.To.toNat
    ·rw [decide_eq_true hq,if_pos (show true=true from rfl),if_pos hq]
    ·rw [decide_eq_false hq,if_neg (show ¬false=true by decide),if_neg hq]
   have hhigh:j5 (D94 file base ([⟨i,x.From - i,j,x.To - j⟩]++R)) (x.To.toNat+1) (base.length+1)=file.drop (x.From.toNat+1):=by
    rw [←ih]
    refine A47 fun k hk hk2=>?_
    unfold D94
    rw [E77,l1,if_neg (by omega),E78,l2,decide_eq_false (by omega),Bool.false_or]
   rw [hhigh,hlow _ (by omega),if_neg (show ¬(j≤x.To.toNat∧x.To.toNat < x.To.toNat) by omega)]
   conv=>rhs;rw [hd]
   by_cases hj:x.To.toNat=j
   ·rw [if_pos hj,hj,E75];simp
   ·rw [if_neg hj,x3 _ (show j≤j+1 by omega) (show j+1≤x.To.toNat by omega),A98,D93 (fun k hk hk2=>by rw [hlow k (by omega),if_neg (by omega),if_pos (by omega)];rfl),hlow j (by omega),if_pos rfl,if_pos (by omega)]
    simp
  ·rw [if_neg h,J23,ih]
   have e3:x.From.toNat=i:=by omega
   have e4:x.To.toNat=j:=by omega
   conv=>rhs;rw [hd]
   rw [e3,e4,E75]
   unfold D94
   rw [outR j (by omega),outN j (by omega),if_neg (by decide)]
   simp
theorem I57 (file base:List Int):j5 (D94 file base (K1 file base)) 0 (base.length+1)=file:=by
 have hasc:=S5 file base 0 0
 rw [Int.zero_add,Int.zero_add] at hasc
 have:=G23 (F3 0 0 file base) 0 0 hasc (fun x hx=>by
  obtain ⟨_,_,v,h1,h2⟩:=E60 file base 0 0 x hx
  rw [Int.sub_zero] at h1 h2
  rw [h1,h2])
 exact this
theorem G24 (ids:List (List Int)) (lines n:Nat):∀p,p≤n→∀k,((M1 ids lines n p).2 k).length=n∧∀q,((M1 ids lines n p).2 k).getD q []=if q < p then z7 (ids.getD (q+1) []) (K1 (ids.getD (q+1) []) (ids.getD 0 [])) k [] else []
 | 0,_,k=>by
  refine ⟨by simp [M1,q8],fun q=>?_⟩
  rw [if_neg (by omega)]
  show (List.replicate n []).getD q []=[]
  rw [I98,List.getElem?_replicate]
  split<;>rfl
 | p+1,hp,k=>by
  obtain ⟨h1,h2⟩:=G24 ids lines n p (by omega) k
  rw [A83]
  have e:(K2 ids (M1 ids lines n p) p).2 k=((M1 ids lines n p).2 k).set p (z7 (ids.getD (p+1) []) (K1 (ids.getD (p+1) []) (ids.getD 0 [])) k (((M1 ids lines n p).2 k).getD p [])):=G22 p _ k _ _
  rw [e,h2 p,if_neg (by omega)]
  refine ⟨by rw [J45,h1],fun q=>?_⟩
  rw [I98,List.getElem?_set]
  by_cases hq:p=q
  ·subst hq
   rw [if_pos rfl,if_pos (by omega),if_pos (by omega)];rfl
  ·rw [if_neg hq,←I98,h2 q]
   by_cases hq2:q < p
   ·rw [if_pos hq2,if_pos (by omega)]
   ·rw [if_neg hq2,if_neg (by omega)]
theorem E79 {ids:List (List Int)} {base:List Int} {n:Nat} (hb:base=ids.getD 0 []) (hl:∀x∈ids,x.length≤4096) (hbl:base.length≤4096):∀p,p≤32→∀(q k:Nat) (v:Int),(i7 ids base.length n p).1[k]?=some v→T3 v q=(decide (q < p)&&O9 (K1 (ids.getD (q+1) []) base) k)
 | 0,_,q,k,v,h=>by
  have:=List.eq_of_mem_replicate (show v∈List.replicate base.length 0 from J10 h)
  subst this
  rw [decide_eq_false (by omega),Bool.false_and]
  simp [T3]
 | p+1,hp,q,k,v,h=>by
  obtain ⟨h1,h2,h3⟩:=B17 (n:=n) hb hl hbl p (by omega)
  rw [A94] at h
  have e:(m8 ids (i7 ids base.length n p) p).1=(K1 (ids.getD (p+1) []) (ids.getD 0 [])).foldl (L4 p) (i7 ids base.length n p).1:=rfl
  rw [e,D67,←hb] at h
  cases hw:(i7 ids base.length n p).1[k]? with
  | none=>rw [hw] at h;cases h
  | some w =>
   rw [hw] at h
   have ih:=E79 (n:=n) hb hl hbl p (by omega) q k w hw
   have hlow:=h2 w (J10 hw)
   have h2p:=C10 (p:=p) (by omega)
   have h:(if O9 (K1 (ids.getD (p+1) []) base) k=true then I7 w (G8 p) else w)=v:=Option.some.inj h
   rw [←h]
   by_cases hq:p=q
   ·subst hq
    rw [decide_eq_false (Nat.lt_irrefl _),Bool.false_and] at ih
    rw [decide_eq_true (by omega),Bool.true_and]
    cases O9 (K1 (ids.getD (p+1) []) base) k
    ·rw [if_neg (by decide),ih]
    ·rw [if_pos rfl,C11 (by omega) (by omega),decide_eq_true rfl,Bool.or_true]
   ·have e2:decide (q < p+1)=decide (q < p):=by by_cases h:q < p<;>simp [h]<;>omega
    rw [e2,←ih]
    split
    ·rw [C11 (by omega) (by omega),decide_eq_false hq,Bool.or_false]
    ·rfl
end Go.AL
namespace Go.AL
open Go
theorem G25 (s:Str):∀(l:List Str) (k:Int),0≤k→s∈l→l[(H2 l s k - k).toNat]?=some s
 | [],_,_,h=>(by cases h)
 | x::r,k,hk,h=>by
  unfold H2
  by_cases hx:x=s
  ·rw [if_pos hx,Int.sub_self,hx];rfl
  ·rw [if_neg hx]
   have hm:s∈r:=by rcases List.mem_cons.1 h with rfl | h;exact absurd rfl hx;exact h
   have h1:=A31 r s (k+1) (by omega) hm
   have h2:=G25 s r (k+1) (by omega) hm
   rw [show (H2 r s (k+1) - k).toNat=(H2 r s (k+1) - (k+1)).toNat+1 by omega,List.getElem?_cons_succ]
   exact h2
def A99 (names:List Str) (v:Int):Str:=names.getD v.toNat []
theorem H40 {names:List Str} {s:Str} (h:s∈names):A99 names (H2 names s 0)=s:=by
 have:=G25 s names 0 (Int.le_refl _) h
 rw [Int.sub_zero] at this
 unfold A99
 rw [I98,this];rfl
theorem G94 {names f:List Str} (h:∀s∈f,s∈names):(M3 names f).map (A99 names)=f:=by
 unfold M3
 rw [J28]
 conv=>rhs;rw [←List.map_id f]
 exact List.map_congr_left fun s hs=>H40 (h s hs)
theorem E80 (G:Nat→List Row) (a b:Nat) (c:Int):K6 (j5 G a b) c=j5 (fun k=>K6 (G k) c) a b:=by
 unfold K6 j5
 rw [List.filter_flatten,List.map_flatten,J28,J28];rfl
theorem C43 (a b:List Row) (c:Int):K6 (a++b) c=K6 a c++K6 b c:=by unfold K6;rw [J40,J08]
theorem D95 (w:Row) {q:Nat} (hq:q < 32):X9 w q=(T3 w.Marks q == w.Lost):=by
 rw [X9,if_neg (by omega),if_neg (by omega),I99]
theorem G26 (f:Int→Str) {q:Nat} (hq:q < 32):∀l:List Merged,K6 (l.map fun m=>(⟨true,m.Parents,f m.Line⟩:Row)) q=(c5 q l).map f
 | []=>rfl
 | m::r=>by
  have ih:=G26 f hq r
  unfold K6 c5 G4 at ih ⊢
  rw [J01,J30,J30,D95 _ hq]
  dsimp only
  rw [show (T3 m.Parents q == true)=T3 m.Parents q by simp]
  cases T3 m.Parents q
  ·rw [if_neg (by decide),if_neg (by decide)];exact ih
  ·rw [if_pos rfl,if_pos rfl,J01,J01,J01,ih]
theorem H98 (f:Int→Str) (l:List Merged):K6 (l.map fun m=>(⟨true,m.Parents,f m.Line⟩:Row)) (-1)=[]:=by
 unfold K6
 rw [List.filter_eq_nil_iff.2]
 ·rfl
 ·intro w hw
  obtain ⟨m,_,rfl⟩:=List.mem_map.1 hw
  simp [X9]
structure Made16 (x:Str) (r:List Str) (rows:List Row):Prop where
 res:K6 rows (-1)=B7 x
 par:∀q,q < r.length→K6 rows q=B7 (r.getD q [])
 marks:N2 rows r.length=true
 texts:∀w∈rows,H9 w.Text=true
theorem C81 {x:Str} {r:List Str} (hx:(B7 x).length≤4096) (hr:∀b∈r,(B7 b).length≤4096) (h:(D9 x r).2=0) :
  (1≤r.length∧r.length≤32)∧(D9 x r).1.Parents=r.length∧Made16 x r (D9 x r).1.Rows:=by
 by_cases hn:r.length < 1∨32 < r.length
 ·rw [D9,if_pos hn] at h;cases h
 obtain ⟨F,hF⟩:∃F,F=B7 x:=⟨_,rfl⟩
 obtain ⟨N,hN⟩:∃N,N=H0 (F::r.map B7):=⟨_,rfl⟩
 obtain ⟨ids,hids⟩:∃ids,ids=(F::r.map B7).map (M3 N):=⟨_,rfl⟩
 obtain ⟨s,hs⟩:∃s,s=M1 ids F.length r.length r.length:=⟨_,rfl⟩
 have hm:D9 x r=if ∃k,k < F.length+1∧(E9 (s.2 k)).2≠0 then (⟨0,[]⟩,1) else (⟨r.length,S7 N F s (F.length+1)⟩,0):=by
  rw [D9,if_neg hn,hs,hids,hN,hF]
 rw [hm] at h ⊢
 split at h
 ·cases h
 rename_i hno
 rw [if_neg hno]
 have hz:∀k,k < F.length+1→(E9 (s.2 k)).2=0:=fun k hk=>Classical.byContradiction fun hc=>hno ⟨k,hk,hc⟩
 refine ⟨by omega,rfl,?_⟩
 dsimp only
 have hrun:S7 N F s (F.length+1)=j5 (N3 N F s) 0 (F.length+1):=by
  unfold S7 j5
  rw [Nat.sub_zero]
  congr 1
  exact List.map_congr_left fun t _=>by rw [Nat.zero_add]
 rw [hrun]
 have hmem:∀f∈F::r.map B7,∀t∈f,t∈N:=fun f hf t ht=>by rw [hN];exact A84 _ t f hf ht
 have hlok:∀f∈F::r.map B7,f.length≤4096∧∀t∈f,H9 t=true:=by
  intro f hf
  rcases List.mem_cons.1 hf with rfl | hf
  ·rw [hF];exact ⟨hx,(A40 x).1⟩
  ·obtain ⟨b,hb,rfl⟩:=List.mem_map.1 hf
   exact ⟨hr b hb,(A40 b).1⟩
 have hil:∀z∈ids,z.length≤4096:=by
  intro z hz
  rw [hids] at hz
  obtain ⟨f,hf,rfl⟩:=List.mem_map.1 hz
  rw [M3,J13];exact (hlok f hf).1
 obtain ⟨base,hb⟩:∃base,base=M3 N F:=⟨_,rfl⟩
 have hb0:base=ids.getD 0 []:=by rw [hb,hids];rfl
 have hbl:base.length=F.length:=by rw [hb,M3,J13]
 have hFl:F.length≤4096:=(hlok F (by simp)).1
 obtain ⟨p1,p2,p3⟩:=B17 (n:=r.length) hb0 hil (by omega) r.length (by omega)
 rw [hbl] at p1 p2 p3
 rw [←hs] at p1
 rw [p1] at p2 p3
 have hmark:=E79 (n:=r.length) hb0 hil (by omega) r.length (by omega)
 rw [hbl,p1] at hmark
 have hgap:=G24 ids F.length r.length r.length (Nat.le_refl _)
 rw [←hs] at hgap
 have hco:=fun k hk=>C89 (hz k hk)
 have hspec:LoomOk (fun v=>0≤v∧v < (N.length:Int)) 4096 F.length r.length s:=by
  rw [hs]
  refine A14 (fun z hz=>⟨hil z hz,fun v hv=>?_⟩) _
  rw [hids,hN] at hz
  rw [hN]
  exact ids_in _ z hz v hv
 have hkeep:∀k,k < F.length→∃v,s.1[k]?=some v∧s.1.getD k 0=v∧0≤v∧v < ((2 ^ r.length:Nat):Int):=by
  intro k hk
  refine ⟨s.1[k]'(by omega),I94 _,?_,p2 _ (J06 _)⟩
  rw [I98,I94 (by omega)];rfl
 have hrow:∀w∈j5 (N3 N F s) 0 (F.length+1),R0 r.length w=true∧H9 w.Text=true:=by
  intro w hw
  unfold j5 at hw
  obtain ⟨l,hl,hwl⟩:=List.mem_flatten.1 hw
  obtain ⟨k,hk,rfl⟩:=List.mem_map.1 hl
  have hk:=List.mem_range.1 hk
  rw [Nat.zero_add] at hwl
  have hpw:((2 ^ r.length:Nat):Int)=2 ^ r.length:=by simp
  unfold N3 at hwl
  rcases List.mem_append.1 hwl with hwl | hwl
  ·obtain ⟨m,hmm,rfl⟩:=List.mem_map.1 hwl
   have h1:=(hco k (by omega)).1 m hmm
   rw [(hgap k).1] at h1
   have h2:=((A06 _ 4096 (s.2 k) (hspec.gaps k).2).2 m hmm).2
   refine ⟨?_,?_⟩
   ·unfold R0
    dsimp only
    rw [Int.ediv_eq_zero_of_lt (by omega) (by omega)]
    have:(m.Parents == 0)=false:=by rw [beq_eq_false_iff_ne];omega
    rw [this];decide
   ·show H9 (N.getD m.Line.toNat [])=true
    have h3:m.Line.toNat < N.length:=by omega
    rw [I98,I94 h3]
    have h4:N[m.Line.toNat]∈H0 (F::r.map B7):=by rw [←hN];exact J06 h3
    obtain ⟨f,hf,ht⟩:=List.mem_flatten.1 (C62 _ _ h4)
    exact (hlok f hf).2 _ ht
  ·split at hwl
   ·rename_i hkF
    rw [List.mem_singleton] at hwl
    subst hwl
    obtain ⟨v,_,g2,g3,g4⟩:=hkeep k hkF
    refine ⟨?_,?_⟩
    ·unfold R0
     dsimp only
     rw [g2,Int.ediv_eq_zero_of_lt g3 (by omega)];rfl
    ·show H9 (F.getD k [])=true
     rw [I98,I94 hkF]
     exact (hlok F (by simp)).2 _ (J06 hkF)
   ·cases hwl
 have hid:∀(z:List Str) (k:Nat) (h:k < z.length),z.getD k []=z[k]:=fun z k h=>by rw [I98,I94 h];rfl
 refine ⟨?_,fun q hq=>?_,List.all_eq_true.2 fun w hw=>(hrow w hw).1,fun w hw=>(hrow w hw).2⟩
 ·rw [E80,←hF]
  have:=G21 F F.length 0 (by omega)
  rw [List.drop_zero] at this
  conv=>rhs;rw [←this]
  refine A47 fun k _ hk=>?_
  unfold N3
  rw [C43,show (fun m:Merged=>(⟨true,m.Parents,N.getD m.Line.toNat []⟩:Row))=fun m=>⟨true,m.Parents,A99 N m.Line⟩ from rfl,H98,J23]
  by_cases hkF:k < F.length
  ·rw [if_pos hkF,I94 hkF,hid F k hkF];rfl
  ·rw [if_neg hkF,J24 (by omega)];rfl
 ·obtain ⟨file,hfile⟩:∃file,file=ids.getD (q+1) []:=⟨_,rfl⟩
  have hfq:file=M3 N (B7 (r.getD q [])):=by
   rw [hfile,hids,hid r q hq,I98,J01,List.getElem?_cons_succ,J22,J22,I94 hq];rfl
  have hback:file.map (A99 N)=B7 (r.getD q []):=by
   rw [hfq]
   refine G94 fun t ht=>hmem _ (List.mem_cons_of_mem _ (List.mem_map_of_mem ?_)) t ht
   rw [hid r q hq];exact J06 hq
  have hcol:=I57 file base
  rw [E80,←hback]
  conv=>rhs;rw [←hcol,←I56,hbl]
  refine A47 fun k _ hk=>?_
  have hgk:=(hgap k).2 q
  rw [if_pos hq,←hfile,←hb0] at hgk
  have hck:=(hco k hk).2 q (by rw [(hgap k).1];exact hq)
  unfold N3 D94
  rw [C43,show (fun m:Merged=>(⟨true,m.Parents,N.getD m.Line.toNat []⟩:Row))=fun m=>⟨true,m.Parents,A99 N m.Line⟩ from rfl,G26 (A99 N) (by omega),hck,hgk,J08]
  congr 1
  by_cases hkF:k < F.length
  ·obtain ⟨v,g1,g2,_⟩:=hkeep k hkF
   have hmk:=hmark q k v g1
   rw [decide_eq_true hq,Bool.true_and,←hfile] at hmk
   rw [if_pos hkF,g2]
   unfold K6
   rw [J30,D95 _ (by omega)]
   dsimp only
   rw [hmk]
   cases O9 (K1 file base) k
   ·rw [if_pos (show (false == false)=true from rfl),if_neg (show ¬false=true by decide)]
    have hbk:base[k]?=some (H2 N F[k] 0):=by rw [hb,M3,J22,I94 hkF];rfl
    rw [hbk,hid F k hkF]
    show [F[k]]=[A99 N (H2 N F[k] 0)]
    rw [H40 (hmem F (by simp) _ (J06 hkF))]
   ·rw [if_neg (show ¬(true == false)=true by decide),if_pos (show true=true from rfl)];rfl
  ·rw [if_neg hkF,J24 (by omega)]
   split<;>rfl
theorem Made16.texts16 {x:Str} {r:List Str} {rows:List Row} (h:Made16 x r rows):V6 rows r.length=true:=by
 unfold V6
 rw [I96]
 refine ⟨List.all_eq_true.2 h.texts,List.all_eq_true.2 fun k hk=>?_⟩
 have hk:=List.mem_range.1 hk
 have hl:=fun b=>A43 (B7 b) (A40 b).1 (A40 b).2
 cases k with
 | zero=>rw [show ((0:Nat):Int) - 1 = -1 from rfl,h.res];exact hl x
 | succ q =>
  rw [show ((q+1:Nat):Int) - 1=(q:Int) by omega,h.par q (by omega)];exact hl _
theorem F37 {x:Str} {r:List Str} (hx:(B7 x).length≤4096) (hr:∀b∈r,(B7 b).length≤4096) (h:(D9 x r).2=0):H3 (D9 x r).1=0:=by
 obtain ⟨h1,h2,h3⟩:=C81 hx hr h
 unfold H3
 rw [h2,if_neg (by omega),I99,h3.marks,if_neg (by decide),h3.texts16,if_neg (by decide)]
theorem G27 {x:Str} {r:List Str} {B:Nat} (hn:1≤r.length∧r.length≤32) (hx:(B7 x).length≤B) (hr:∀b∈r,(B7 b).length≤B) (h:r.length*B≤4096):(D9 x r).2=0:=by
 unfold D9
 rw [if_neg (by omega)]
 dsimp only
 rw [if_neg]
 rintro ⟨k,_,hk⟩
 refine hk ?_
 have hok:=(A14 (Q:=fun _=>True) (B:=B) (lines:=(B7 x).length) (n:=r.length) (ids:=(B7 x::r.map B7).map (M3 (H0 (B7 x::r.map B7)))) (fun z hz=>by
  obtain ⟨f,hf,rfl⟩:=List.mem_map.1 hz
  refine ⟨?_,fun _ _=>trivial⟩
  rw [M3,J13]
  rcases List.mem_cons.1 hf with rfl | hf
  ·exact hx
  ·obtain ⟨b,hb,rfl⟩:=List.mem_map.1 hf
   exact hr b hb) r.length).gaps k
 exact C90 (B:=B) (fun z hz=>(hok.2 z hz).1) (by rw [hok.1];exact hn.2) (by rw [hok.1];exact h)
end Go.AL
namespace Go.AL
open Go
def CutSp (m:Nat):Int→List Span→Prop
 | _,[]=>True
 | e,s::r=>e≤s.From∧s.From < s.To∧s.To≤m∧CutSp m s.To r
def endOf (e:Int):List Span→Int
 | []=>e
 | s::r=>endOf s.To r
theorem CutSp.mono {m m':Nat} (hm:m≤m'):∀{sp:List Span} {e:Int},CutSp m e sp→CutSp m' e sp
 | [],_,_=>trivial
 | s::r,e,h=>⟨h.1,h.2.1,by have:=h.2.2.1;omega,CutSp.mono hm h.2.2.2⟩
theorem CutSp.end_le {m:Nat}:∀{sp:List Span} {e:Int},CutSp m e sp→e≤m→endOf e sp≤m
 | [],_,_,he=>he
 | s::r,_,h,_=>CutSp.end_le (sp:=r) (e:=s.To) h.2.2.2 h.2.2.1
theorem cutSp_snoc {m:Nat} {s:Span}:∀{sp:List Span} {e:Int},CutSp m e (sp++[s])↔CutSp m e sp∧endOf e sp≤s.From∧s.From < s.To∧s.To≤m
 | [],e=>⟨fun h=>⟨trivial,h.1,h.2.1,h.2.2.1⟩,fun h=>⟨h.2.1,h.2.2.1,h.2.2.2,trivial⟩⟩
 | x::r,e=>by
  have ih:=cutSp_snoc (m:=m) (s:=s) (sp:=r) (e:=x.To)
  constructor
  ·intro h
   obtain ⟨h1,h2⟩:=ih.1 h.2.2.2
   exact ⟨⟨h.1,h.2.1,h.2.2.1,h1⟩,h2⟩
  ·rintro ⟨h1,h2⟩
   exact ⟨h1.1,h1.2.1,h1.2.2.1,ih.2 ⟨h1.2.2.2,h2⟩⟩
theorem G28:∀(l:List Bool) (i:Nat) (p:Bool) (out:List Span),CutSp i 0 out→(p=true→∃o a,out=o++[⟨a,i⟩])→CutSp (i+l.length) 0 (C09 l i p out)
 | [],i,p,out,h,_=>h
 | b :: r,i,p,out,h,hp=>by
  rw [C09,I95,show i+(r.length+1)=i+1+r.length by omega]
  have key:(b=true→∃o a,(if b=true then m9 (if p=true then out else out++[⟨i,i⟩]) ((i:Int)+1) else out)=o++[⟨a,((i+1:Nat):Int)⟩])∧CutSp (i+1) 0 (if b=true then m9 (if p=true then out else out++[⟨i,i⟩]) ((i:Int)+1) else out):=by
   cases b
   ·exact ⟨fun hb=>(by cases hb),h.mono (by omega)⟩
   ·rw [if_pos rfl]
    cases p
    ·rw [if_neg (by decide),t6]
     refine ⟨fun _=>⟨out,i,by rw [show ((i+1:Nat):Int)=(i:Int)+1 by omega]⟩,?_⟩
     have:=h.end_le (by omega)
     exact cutSp_snoc.2 ⟨h.mono (by omega),this,by dsimp only;omega,by dsimp only;omega⟩
    ·obtain ⟨o,a,rfl⟩:=hp rfl
     rw [if_pos rfl,t6]
     refine ⟨fun _=>⟨o,a,by rw [show ((i+1:Nat):Int)=(i:Int)+1 by omega]⟩,?_⟩
     obtain ⟨h1,h2,h3,h4⟩:=cutSp_snoc.1 h
     dsimp only at h2 h3 h4
     exact cutSp_snoc.2 ⟨h1.mono (by omega),h2,by dsimp only;omega,by dsimp only;omega⟩
  exact G28 r (i+1) b _ key.2 key.1
theorem H99 (l:List Bool):CutSp l.length 0 (U3 l):=by
 have:=G28 l 0 false [] trivial (fun h=>by cases h)
 rwa [Nat.zero_add] at this
def cutH (n:Nat) (rows:List Row) (s:Span):CHunk:=⟨E8 (rows.take s.From.toNat) n,(rows.drop s.From.toNat).take (s.To.toNat - s.From.toNat)⟩
def W8 (n:Nat) (rows:List Row) (sp:List Span):List CHunk:=sp.map (cutH n rows)
theorem D96 (n:Nat) (rows:List Row):∀(sp:List Span) (e:Int) (hs:List CHunk),CutSp rows.length e sp→W6 n rows e hs sp=some (hs++W8 n rows sp)
 | [],_,hs,_=>by simp [W6,W8]
 | s::r,e,hs,h=>by
  obtain ⟨h1,h2,h3,h4⟩:=h
  rw [W6,if_neg (by omega),D96 n rows r _ _ h4]
  simp [W8,cutH]
theorem D97 (a b:List Row) (n k:Nat):L1 (a++b) n k=L1 a n k+L1 b n k:=by
 unfold L1;rw [C43,I93];omega
theorem F38 (a:List Row) (n k:Nat):0≤L1 a n k∧L1 a n k≤a.length:=by
 have:=C29 a (p5 n k)
 unfold L1;omega
theorem C44 (rows:List Row) (n k:Nat) (h:k < n+1):(E8 rows n).getD k 0=L1 rows n k:=x1 _ _ _ h
theorem B62 {α:Type} (rows:List α) {a b:Nat} (h:a≤b):rows.take b=rows.take a++(rows.drop a).take (b - a):=by
 have:=List.take_add (l:=rows) (i:=a) (j:=b - a)
 rwa [show a+(b - a)=b by omega] at this
theorem I58 (n:Nat) (rows:List Row) {s:Span} (h1:0≤s.From) (h2:s.From < s.To):R7 n (cutH n rows s)=E8 (rows.take s.To.toNat) n:=by
 unfold R7 E8
 refine List.map_congr_left fun k hk=>?_
 have hk:=List.mem_range.1 hk
 show (E8 (rows.take s.From.toNat) n).getD k 0+L1 ((rows.drop s.From.toNat).take (s.To.toNat - s.From.toNat)) n k=_
 rw [C44 _ _ _ hk,←D97,←B62 rows (by omega)]
theorem D98 (n:Nat) {rows:List Row} (hl:rows.length≤4096):∀(sp:List Span) (e:Int),0≤e→CutSp rows.length e sp→W5 n (E8 (rows.take e.toNat) n) (W8 n rows sp)=true
 | [],_,_,_=>rfl
 | s::r,e,he,h=>by
  obtain ⟨h1,h2,h3,h4⟩:=h
  show (B58 n (E8 (rows.take e.toNat) n) (cutH n rows s)&&W5 n (R7 n (cutH n rows s)) (W8 n rows r))=true
  rw [I58 n rows (by omega) h2,D98 n hl r s.To (by omega) h4,Bool.and_true]
  unfold B58
  rw [I96]
  refine ⟨decide_eq_true ⟨D80 _ _,fun hc=>?_⟩,List.all_eq_true.2 fun k hk=>decide_eq_true ?_⟩
  ·have:((rows.drop s.From.toNat).take (s.To.toNat - s.From.toNat)).length=0:=by
    rw [show (rows.drop s.From.toNat).take (s.To.toNat - s.From.toNat)=[] from hc];rfl
   rw [J12,J15] at this
   omega
  ·have hk:=List.mem_range.1 hk
   show ((E8 (rows.take e.toNat) n).getD k 0≤(E8 (rows.take s.From.toNat) n).getD k 0∧(E8 (rows.take s.From.toNat) n).getD k 0≤4096)∧(E8 (rows.take s.From.toNat) n).getD k 0+L1 ((rows.drop s.From.toNat).take (s.To.toNat - s.From.toNat)) n k≤4096
   rw [C44 _ _ _ hk,C44 _ _ _ hk,←D97,←B62 rows (by omega)]
   have g1:=D97 (rows.take e.toNat) ((rows.drop e.toNat).take (s.From.toNat - e.toNat)) n k
   rw [←B62 rows (by omega)] at g1
   have g2:=F38 ((rows.drop e.toNat).take (s.From.toNat - e.toNat)) n k
   have g3:=F38 (rows.take s.From.toNat) n k
   have g4:=F38 (rows.take s.To.toNat) n k
   rw [J12] at g3 g4
   omega
theorem C82 (n:Nat) (rows:List Row):∀(sp:List Span) (e:Int),0≤e→CutSp rows.length e sp→(H7 (W8 n rows sp)).Sublist (rows.drop e.toNat)
 | [],_,_,_=>List.nil_sublist _
 | s::r,e,he,h=>by
  obtain ⟨h1,h2,h3,h4⟩:=h
  have ih:=C82 n rows r s.To (by omega) h4
  show ((rows.drop s.From.toNat).take (s.To.toNat - s.From.toNat)++H7 (W8 n rows r)).Sublist _
  have e1:rows.drop e.toNat=(rows.drop e.toNat).take (s.From.toNat - e.toNat)++((rows.drop s.From.toNat).take (s.To.toNat - s.From.toNat)++rows.drop s.To.toNat):=by
   rw [←x2 rows (show s.From.toNat≤s.To.toNat by omega)]
   exact x2 rows (by omega)
  rw [e1]
  exact (List.Sublist.append (List.Sublist.refl _) ih).trans (List.sublist_append_right _ _)
theorem B63:∀{l:List Str},A81 l=true→(∀s∈l,H9 s=true)∧N1 l=true
 | [],_=>⟨fun s hs=>(by cases hs),rfl⟩
 | x::r,h=>by
  rw [C63,I96,I96] at h
  obtain ⟨⟨h1,h2⟩,h3⟩:=h
  obtain ⟨i1,i2⟩:=B63 h3
  refine ⟨fun s hs=>?_,?_⟩
  ·rcases List.mem_cons.1 hs with rfl | hs
   ·exact h1
   ·exact i1 s hs
  ·show ((r.isEmpty||ended x)&&N1 r)=true
   rw [h2,i2];rfl
theorem I00 {a b:List Row} {n:Nat} (hs:a.Sublist b) (h:V6 b n=true):V6 a n=true:=by
 unfold V6 at h ⊢
 rw [I96] at h ⊢
 obtain ⟨h1,h2⟩:=h
 refine ⟨List.all_eq_true.2 fun r hr=>List.all_eq_true.1 h1 r (hs.subset hr),List.all_eq_true.2 fun k hk=>?_⟩
 have h3:=B63 (List.all_eq_true.1 h2 k hk)
 have h4:(K6 a ((k:Int) - 1)).Sublist (K6 b ((k:Int) - 1)):=by unfold K6;exact (hs.filter _).map _
 exact A43 _ (fun s hs=>h3.1 s (h4.subset hs)) (A39 h4 h3.2)
theorem E29 {t:Table} (h:H3 t=0):(1≤t.Parents∧t.Parents≤32)∧N2 t.Rows t.Parents.toNat=true∧V6 t.Rows t.Parents.toNat=true:=by
 unfold H3 at h
 split at h
 ·cases h
 ·rename_i h1
  split at h
  ·cases h
  ·rename_i h2
   split at h
   ·cases h
   ·rename_i h3
    exact ⟨by omega,by simpa using h2,by simpa using h3⟩
theorem G95 {path:Str} {t:Table} {sp:List Span} {d:Bool} (hn:O8 path=true) (hc:H3 t=0) (hl:t.Rows.length≤4096) (hsp:CutSp t.Rows.length 0 sp)
  (hW:4*path.length+48+926*t.Rows.length+(t.Rows.map (C07 t.Parents.toNat)).sum≤16777216) :
  U2 path t sp d=(⟨path,d,t.Parents,W8 t.Parents.toNat t.Rows sp⟩,0)∧I4 ⟨path,d,t.Parents,W8 t.Parents.toNat t.Rows sp⟩=0∧(V9 ⟨path,d,t.Parents,W8 t.Parents.toNat t.Rows sp⟩).length≤4*path.length+48+926*t.Rows.length+(t.Rows.map (C07 t.Parents.toNat)).sum:=by
 obtain ⟨h1,h2,h3⟩:=E29 hc
 have hgo:=D96 t.Parents.toNat t.Rows sp 0 [] hsp
 rw [J23] at hgo
 have hsub:=C82 t.Parents.toNat t.Rows sp 0 (Int.le_refl _) hsp
 rw [show (0:Int).toNat=0 from rfl,List.drop_zero] at hsub
 have hw:=D88 ⟨path,d,t.Parents,W8 t.Parents.toNat t.Rows sp⟩
 have hg:=D02 (C07 t.Parents.toNat) (28*(t.Parents.toNat+1)+2) t.Parents.toNat t.Rows sp 0 [] _ (Int.le_refl _) hgo (by simp) (by simp)
 have hlen:(W8 t.Parents.toNat t.Rows sp).length≤t.Rows.length:=by have:=hg.2;simpa using this
 have hmul:(28*(t.Parents.toNat+1)+2)*(W8 t.Parents.toNat t.Rows sp).length≤926*t.Rows.length:=Nat.mul_le_mul (by omega) hlen
 have hsz:(V9 ⟨path,d,t.Parents,W8 t.Parents.toNat t.Rows sp⟩).length≤4*path.length+48+926*t.Rows.length+(t.Rows.map (C07 t.Parents.toNat)).sum:=by
  have:=hg.1
  dsimp only at hw
  omega
 have hck:I4 ⟨path,d,t.Parents,W8 t.Parents.toNat t.Rows sp⟩=0:=by
  unfold I4
  dsimp only
  have m1:a7 t.Parents.toNat (W8 t.Parents.toNat t.Rows sp)=true:=by
   unfold a7
   refine List.all_eq_true.2 fun h hh=>List.all_eq_true.2 fun r hr=>List.all_eq_true.1 h2 r (hsub.subset ?_)
   exact List.mem_flatten.2 ⟨h.Rows,List.mem_map_of_mem hh,hr⟩
  have m2:Q7 t.Parents.toNat (W8 t.Parents.toNat t.Rows sp)=true:=by
   unfold Q7
   have e0:List.replicate (t.Parents.toNat+1) 0=E8 (t.Rows.take (0:Int).toNat) t.Parents.toNat:=by
    unfold E8
    refine List.ext_getElem (by simp) fun k h1 h2=>?_
    simp [L1,K6]
   rw [e0,D98 _ hl sp 0 (Int.le_refl _) hsp,I00 hsub h3];rfl
  rw [if_neg (by rw [hn];decide),if_neg (by omega),m1,if_neg (by decide),m2,if_neg (by decide),if_neg (by omega)]
 refine ⟨?_,hck,hsz⟩
 unfold U2
 rw [if_neg (by rw [hn];decide),hc,if_neg (by decide),hgo]
 dsimp only
 rw [hck,if_neg (by decide)]
theorem F39 {t:Table} {ctx:Int} (d:Bool) (hc:H3 t=0) (h:0≤ctx∧ctx≤1048576):(K7 t ctx d).2=0∧CutSp t.Rows.length 0 (K7 t ctx d).1:=by
 have hi:(F9 t d).2=0:=by
  unfold F9 p7
  rw [hc,if_neg (show ¬(0:Int)≠0 by decide)]
  rfl
 unfold K7
 rw [hi,if_neg (by decide),if_neg (by omega)]
 refine ⟨rfl,?_⟩
 have:=H99 ((List.range t.Rows.length).map (P6 (F9 t d).1 ctx))
 rwa [J13,J41] at this
end Go.AL
namespace Go.AL
open Go
end Go.AL
namespace Go.AL
open Go
def j6 (c:UInt8):Bool:=c == 32||c == 43||c == 45
abbrev B26:=Nat × Nat × Nat
def c7 (a b:B26):B26:=(a.1+b.1,a.2.1+b.2.1,a.2.2+b.2.2)
def M4 (n:Nat) (l:Str):B26:=if l.head?=some 64 then (1,0,0) else if l.head?=some 92 then (0,0,1) else if n≤l.length∧(l.take n).all j6=true then (0,1,0) else (0,0,0)
def A54 (n:Nat):Str→Str→B26→B26
 | [],_,z=>z
 | c::r,cur,z=>if c=10 then A54 n r [] (c7 z (M4 n cur)) else A54 n r (cur++[c]) z
def F40 (n:Nat):List Str→B26→B26
 | [],z=>z
 | l::r,z=>F40 n r (c7 z (M4 n l))
theorem E81 (n:Nat) (rest:Str):∀(a cur:Str) (z:B26),10∉a→A54 n (a++10::rest) cur z=A54 n rest [] (c7 z (M4 n (cur++a)))
 | [],cur,z,_=>by rw [J23,A54,if_pos rfl,J17]
 | c::r,cur,z,h=>by
  rw [J27,A54,if_neg (fun e=>h (by rw [e];simp)),E81 n rest r _ z (fun hm=>h (List.mem_cons_of_mem _ hm))]
  rw [J07];rfl
theorem D99 (n:Nat):∀(L:List Str) (z:B26),(∀l∈L,(10:UInt8)∉l)→A54 n (U9 L) [] z=F40 n L z
 | [],z,_=>rfl
 | l::r,z,h=>by
  rw [Y3,J07,J27,J23,E81 n _ l [] z (h l (by simp)),J23,D99 n r _ fun x hx=>h x (List.mem_cons_of_mem _ hx)]
  rfl
theorem x4 (a b c:B26):c7 (c7 a b) c=c7 a (c7 b c):=by unfold c7;simp only [Nat.add_assoc]
theorem E00 (n:Nat):∀(a b:List Str) (z:B26),F40 n (a++b) z=F40 n b (F40 n a z)
 | [],_,_=>rfl
 | _::a,b,_=>E00 n a b _
theorem G96 (r:Row) (p:Nat):j6 (A16 r p)=true:=by
 unfold A16
 split
 ·rfl
 ·split<;>rfl
theorem G97 {n:Nat} (hn:1≤n) (r:Row) (t:Str):∃c u,P5 n r++t=c::u∧c≠64∧c≠92:=by
 obtain ⟨m,rfl⟩:∃m,n=m+1:=⟨n - 1,by omega⟩
 unfold P5
 rw [List.range_succ_eq_map,J01,J27]
 exact ⟨_,_,rfl,(G11 r 0).1,(G11 r 0).2.1⟩
theorem E82 {n:Nat} (hn:1≤n) (r:Row) (t:Str):M4 n (P5 n r++t)=(0,1,0):=by
 have hl:(P5 n r).length=n:=by simp [P5]
 obtain ⟨c,u,h1,h2,h3⟩:=G97 hn r t
 unfold M4
 have e:(P5 n r++t).head?=some c:=by rw [h1];rfl
 rw [e,if_neg (fun h=>h2 (Option.some.inj h)),if_neg (fun h=>h3 (Option.some.inj h)),if_pos]
 refine ⟨by rw [I93];omega,?_⟩
 rw [List.take_append_of_le_length (by omega),J25 (by omega)]
 refine List.all_eq_true.2 fun c hc=>?_
 obtain ⟨p,_,rfl⟩:=List.mem_map.1 hc
 exact G96 r p
theorem G98 (n:Nat):M4 n noNl=(0,0,1):=by unfold M4;rw [if_neg (by decide),if_pos (by decide)]
theorem G99 (n m:Nat) (h:CHunk):M4 n (Y4 m h)=(1,0,0):=by
 have h1:=I41 m h
 unfold M4
 have:(Y4 m h).head?=some 64:=by
  cases hh:Y4 m h with
  | nil=>rw [hh] at h1;cases h1
  | cons c u=>rw [hh] at h1;simp at h1;rw [h1];rfl
 rw [this,if_pos rfl]
theorem E01 {n:Nat} (hn:1≤n) {c:UInt8} {t:Str} (h1:c≠64) (h2:c≠92) (h3:j6 c=false):M4 n (c::t)=(0,0,0):=by
 unfold M4
 rw [List.head?_cons,if_neg (fun h=>h1 (Option.some.inj h)),if_neg (fun h=>h2 (Option.some.inj h)),if_neg]
 rintro ⟨_,h⟩
 obtain ⟨m,rfl⟩:∃m,n=m+1:=⟨n - 1,by omega⟩
 rw [List.take_succ_cons,List.all_cons,h3] at h
 cases h
def X4 (rows:List Row):Nat:=(rows.filter fun r=>!ended r.Text).length
theorem E83 {n:Nat} (hn:1≤n):∀(rows:List Row) (z:B26),F40 n ((rows.map (C03 n)).flatten) z=c7 z (0,rows.length,X4 rows)
 | [],z=>rfl
 | r::rs,z=>by
  rw [J01,J05,E00,E83 hn rs]
  unfold C03 X4
  rw [J30]
  by_cases h:ended r.Text=true
  ·rw [if_pos h,h,if_neg (by decide)]
   show c7 (c7 z (M4 n (P5 n r++r.Text.dropLast))) _=_
   rw [E82 hn,x4]
   unfold c7
   simp only [I95,Nat.zero_add,Nat.add_comm 1]
  ·have h2:ended r.Text=false:=by simpa using h
   rw [if_neg h,h2,if_pos (by decide)]
   show c7 (c7 (c7 z (M4 n (P5 n r++r.Text))) (M4 n noNl)) _=_
   rw [E82 hn,G98,x4,x4]
   unfold c7
   simp only [I95,Nat.zero_add,Nat.add_comm 1]
theorem C14 (h:CHunk) (hs:List CHunk):H7 (h::hs)=h.Rows++H7 hs:=by simp [H7]
theorem I01 (a b:List Row):X4 (a++b)=X4 a+X4 b:=by unfold X4;rw [J40,I93]
theorem C83 {n:Nat} (hn:1≤n):∀(hs:List CHunk) (z:B26),F40 n ((hs.map (B19 n)).flatten) z=c7 z (hs.length,(H7 hs).length,X4 (H7 hs))
 | [],z=>rfl
 | h::r,z=>by
  rw [J01,J05,E00,C83 hn r,C14,I01]
  show c7 (F40 n ((h.Rows.map (C03 n)).flatten) (c7 z (M4 n (Y4 n h)))) _=_
  rw [E83 hn,G99,x4,x4]
  unfold c7
  simp only [I95,I93,Nat.zero_add,Nat.add_zero,Nat.add_comm 1]
theorem F41 {c:Comb} (h:I4 c=0) (hp:1≤c.Parents∧c.Parents≤32):A54 c.Parents.toNat (V9 c) [] (0,0,0)=(c.Hunks.length,(H7 c.Hunks).length,X4 (H7 c.Hunks)):=by
 rw [←C75,D99 _ _ _ (H90 h)]
 unfold D74
 have e1:M4 c.Parents.toNat (A96 c.Dense++Q5 c.Path)=(0,0,0):=by
  have:∃t,A96 c.Dense++Q5 c.Path=100::t:=by
   unfold A96 ccS combS
   split
   ·exact ⟨_,rfl⟩
   ·exact ⟨_,rfl⟩
  obtain ⟨t,ht⟩:=this
  rw [ht];exact E01 (by omega) (by decide) (by decide) (by decide)
 have e2:M4 c.Parents.toNat (parS++V8 c.Parents)=(0,0,0):=by
  show M4 c.Parents.toNat (112::_)=_
  exact E01 (by omega) (by decide) (by decide) (by decide)
 show F40 _ _ (c7 (c7 (0,0,0) (M4 c.Parents.toNat (A96 c.Dense++Q5 c.Path))) (M4 c.Parents.toNat (parS++V8 c.Parents)))=_
 rw [e1,e2,C83 (by omega)]
 unfold c7
 simp only [Nat.zero_add]
theorem H41:∀{l:List Str},N1 l=true→(l.filter fun s=>!ended s).length≤1
 | [],_=>Nat.zero_le _
 | x::r,h=>by
  have h:((r.isEmpty||ended x)&&N1 r)=true:=h
  rw [I96] at h
  have ih:=H41 h.2
  rw [J30]
  cases r with
  | nil=>split<;>simp
  | cons y r =>
   have hx:ended x=true:=by simpa using h.1
   rw [hx,if_neg (by decide)];exact ih
def r5 (f:Nat→Nat):Nat→Nat
 | 0=>0
 | m+1=>r5 f m+f m
theorem G29 {f:Nat→Nat}:∀{m:Nat},(∀k,k < m→f k≤1)→r5 f m≤m
 | 0,_=>Nat.le_refl _
 | m+1,h=>by
  have h1:=G29 (f:=f) (m:=m) fun k hk=>h k (by omega)
  have h2:=h m (by omega)
  show r5 f m+f m≤m+1
  omega
theorem B64 {f g:Nat→Nat}:∀{m:Nat},(∀k,f k≤g k)→r5 f m≤r5 g m
 | 0,_=>Nat.le_refl _
 | m+1,h=>by
  have h1:=B64 (f:=f) (g:=g) (m:=m) h
  have h2:=h m
  show r5 f m+f m≤r5 g m+g m
  omega
theorem C45 {f g:Nat→Nat} {k0:Nat} (h:∀k,f k≤g k) (h0:f k0+1≤g k0):∀{m:Nat},k0 < m→r5 f m+1≤r5 g m
 | 0,hm=>absurd hm (Nat.not_lt_zero _)
 | m+1,hm=>by
  show r5 f m+f m+1≤r5 g m+g m
  by_cases hk:k0=m
  ·subst hk
   have:=B64 (f:=f) (g:=g) (m:=k0) h
   omega
  ·have h1:=C45 h h0 (m:=m) (by omega)
   have h2:=h m
   omega
def s6 (rows:List Row) (k:Nat):Nat:=(rows.filter fun r=>X9 r ((k:Int) - 1)&&!ended r.Text).length
theorem H00 (rows:List Row) (k:Nat):s6 rows k=((K6 rows ((k:Int) - 1)).filter fun s=>!ended s).length:=by
 unfold s6 K6
 rw [List.filter_map,J13,List.filter_filter]
 congr 2
 funext r
 exact Bool.and_comm _ _
theorem E84 {n:Nat} (hn:n≤32) {r:Row} (h:R0 n r=true):∃k,k < n+1∧X9 r ((k:Int) - 1)=true:=by
 obtain ⟨h1,h2,h3⟩:=C04 h
 cases hl:r.Lost
 ·exact ⟨0,by omega,by rw [show ((0:Nat):Int) - 1 = -1 from rfl,X9,if_pos rfl,hl];rfl⟩
 ·have h4:=h3 hl
  obtain ⟨m,hm⟩:∃m:Nat,r.Marks=m:=⟨r.Marks.toNat,by omega⟩
  have h5:((2 ^ n:Nat):Int)=2 ^ n:=by simp
  have hm0:m≠0:=by omega
  obtain ⟨q,hq⟩:=Nat.exists_testBit_of_ne_zero hm0
  have hqn:q < n:=by
   refine Classical.byContradiction fun hc=>?_
   have:m < 2 ^ n:=by omega
   rw [Nat.testBit_lt_two_pow (Nat.lt_of_lt_of_le this (Nat.pow_le_pow_right (by decide) (by omega)))] at hq
   cases hq
  refine ⟨q+1,by omega,?_⟩
  rw [show ((q+1:Nat):Int) - 1=(q:Int) by omega,D95 _ (by omega),hm,g9,hq,hl];rfl
theorem G30 {n:Nat} (hn:n≤32):∀{rows:List Row},(∀r∈rows,R0 n r=true)→X4 rows≤r5 (s6 rows) (n+1)
 | [],_=>Nat.zero_le _
 | r::rs,h=>by
  have ih:=G30 hn (rows:=rs) fun x hx=>h x (by simp [hx])
  have hmono:∀k,s6 rs k≤s6 (r::rs) k:=fun k=>by
   unfold s6
   rw [J30]
   split
   ·rw [I95];omega
   ·exact Nat.le_refl _
  unfold X4 at ih ⊢
  rw [J30]
  cases he:ended r.Text
  ·rw [if_pos (by decide),I95]
   obtain ⟨k,hk,hv⟩:=E84 hn (h r (by simp))
   have:=C45 (f:=s6 rs) (g:=s6 (r::rs)) (k0:=k) hmono (by
    unfold s6
    rw [J30,hv,he,if_pos (by decide),I95]
    exact Nat.le_refl _) hk
   omega
  ·rw [if_neg (by decide)]
   exact Nat.le_trans ih (B64 hmono)
theorem I02 {c:Comb} (h:I4 c=0) (hp:1≤c.Parents∧c.Parents≤32):X4 (H7 c.Hunks)≤c.Parents.toNat+1:=by
 obtain ⟨hm,ht⟩:a7 c.Parents.toNat c.Hunks=true∧V6 (H7 c.Hunks) c.Parents.toNat=true:=by
  unfold I4 at h
  split at h
  ·cases h
  ·split at h
   ·cases h
   ·split at h
    ·cases h
    ·rename_i h1
     split at h
     ·cases h
     ·rename_i h2
      refine ⟨by simpa using h1,?_⟩
      have h2:Q7 c.Parents.toNat c.Hunks=true:=by simpa using h2
      unfold Q7 at h2
      rw [I96] at h2
      exact h2.2
 refine Nat.le_trans (G30 (n:=c.Parents.toNat) (by omega) fun r hr=>?_) (G29 fun k hk=>?_)
 ·obtain ⟨l,hl,hrl⟩:=List.mem_flatten.1 hr
  obtain ⟨x,hx,rfl⟩:=List.mem_map.1 hl
  exact List.all_eq_true.1 (List.all_eq_true.1 hm x hx) r hrl
 ·rw [H00]
  unfold V6 at ht
  rw [I96] at ht
  exact H41 (B63 (List.all_eq_true.1 ht.2 k (List.mem_range.2 hk))).2
theorem E85 {f:Nat→Nat} {B:Nat}:∀{m:Nat},(∀k,k < m→f k≤B)→r5 f m≤m*B
 | 0,_=>by simp [r5]
 | m+1,h=>by
  have h1:=E85 (f:=f) (B:=B) (m:=m) fun k hk=>h k (by omega)
  have h2:=h m (by omega)
  show r5 f m+f m≤(m+1)*B
  rw [J11,Nat.one_mul];omega
theorem G31 {n:Nat} (hn:n≤32):∀{rows:List Row},(∀r∈rows,R0 n r=true)→rows.length≤r5 (fun k=>(K6 rows ((k:Int) - 1)).length) (n+1)
 | [],_=>Nat.zero_le _
 | r::rs,h=>by
  have ih:=G31 hn (rows:=rs) fun x hx=>h x (by simp [hx])
  obtain ⟨k,hk,hv⟩:=E84 hn (h r (by simp))
  have:=C45 (f:=fun k=>(K6 rs ((k:Int) - 1)).length) (g:=fun k=>(K6 (r::rs) ((k:Int) - 1)).length) (k0:=k) (fun q=>by
   unfold K6
   simp only [J13,J30]
   split
   ·rw [I95];omega
   ·exact Nat.le_refl _) (by
   unfold K6
   simp only [J13,J30]
   rw [hv,if_pos rfl,I95]
   exact Nat.le_refl _) hk
  rw [I95];omega
theorem Made16.few {x:Str} {r:List Str} {rows:List Row} (h:Made16 x r rows) (hn:r.length≤32) {L:Nat} (hx:(B7 x).length≤L) (hr:∀b∈r,(B7 b).length≤L):rows.length≤(r.length+1)*L:=by
 refine Nat.le_trans (G31 hn (List.all_eq_true.1 h.marks)) (E85 fun k hk=>?_)
 cases k with
 | zero=>rw [show ((0:Nat):Int) - 1 = -1 from rfl,h.res];exact hx
 | succ q =>
  rw [show ((q+1:Nat):Int) - 1=(q:Int) by omega,h.par q (by omega)]
  refine hr _ ?_
  rw [I98,I94 (by omega)]
  exact J06 _
end Go.AL
