/- Plain facts about data; no project text. -/
import Derived.Test.YtgejaedjnbjpoaaGreatDoorD
import Derived.Lib.Strings
import Derived.Lib.Bytealg
import Derived.Lib.Join
import Derived.Lib.ItoaNum
import Derived.Test.YtgejaedjnbjpoaaGreatDoorAn
namespace Go.AL
open Go
theorem u8_lf (c:UInt8):((c.toNat:Int)=10)↔c=10:=by
 constructor
 ·intro h
  have:c.toNat=10:=by omega
  exact UInt8.toNat_inj.1 (by simpa using this)
 ·rintro rfl;rfl
def F7 (cur:Str):Str→List Str
 | []=>if cur=[] then [] else [cur]
 | c::r=>if c=10 then (cur++[c])::F7 [] r else F7 (cur++[c]) r
def C3 (b:Str):List Str:=F7 [] b
theorem B31 (cur:Str) (s:Str):(F7 cur s).length≤s.length+1:=by
 induction s generalizing cur with
 | nil=>unfold F7;split<;>simp
 | cons c r ih=>unfold F7;split<;>simp<;>(have:=ih [];have:=ih (cur++[c]);omega)
theorem C07 (s:Str):(F7 [] s).length≤s.length:=by
 have key:∀(s cur:Str),cur≠[]→(F7 cur s).length≤s.length+1:=fun s cur _=>B31 cur s
 induction s with
 | nil=>simp [F7]
 | cons c r ih=>unfold F7;split<;>simp<;>(have:=B31 ([]++[c]) r;simp at this;omega)
theorem Y3 (b:Str):(C3 b).length≤b.length:=C07 b
theorem W3 (cur r:Str) (c:UInt8):F7 cur (c::r)=if c=10 then (cur++[c])::F7 [] r else F7 (cur++[c]) r:=rfl
theorem G64 (cur:Str) (h:cur≠[]):F7 cur []=[cur]:=by simp [F7,h]
theorem or_pick {p q:Prop} [Decidable p] [Decidable q]:(if decide p=true then true else decide q)=decide (p∨q):=by by_cases p<;>simp [*]
theorem L1 {p q:Prop} [Decidable p] [Decidable q]:(if decide p=true then decide q else false)=decide (p∧q):=by by_cases p<;>simp [*]
theorem A50 {α:Type} (l:List (List α)) (i:Nat) (h:i < l.length):(l.take (i+1)).flatten=(l.take i).flatten++l[i]:=by
 rw [List.take_add_one,K97 h,Option.toList_some,L28];simp
theorem B32 {α:Type} (l:List (List α)) (i:Nat):(l.take i).flatten.length≤l.flatten.length:=by
 conv=>rhs;rw [←L35 i l,L28,K96]
 omega
theorem I38 (i:Nat):((i:Int)+1).toNat=i+1:=by omega
theorem G02 {α:Type} (b:List α) (f i:Nat) (hf:f≤i) (hi:i < b.length):(b.drop f).take (i - f)++[b[i]]=(b.drop f).take (i+1 - f):=by
 rw [show i+1 - f=(i - f)+1 by omega,List.take_add_one,L25,show f+(i - f)=i by omega,K97 hi]
 rfl
def ended (s:Str):Bool:=s.getLast? == some 10
def I7:List Str→Str→Int→Int
 | [],_,_ => -1
 | x::r,s,i=>if x=s then i else I7 r s (i+1)
def J7 (s:Str):Bool:=s.dropLast.all (·≠10)&&s != []
def B60:List Str→Bool
 | []=>true
 | s::r=>J7 s&&(r.isEmpty||ended s)&&B60 r
def A51 (b:Str):Int:=if b.length > 1048576∨(C3 b).length > 4096 then 1 else 0
def K7 (out:List Str) (s:Str):List Str:=if s∈out then out else out++[s]
def I8 (files:List (List Str)):List Str:=files.flatten.foldl K7 []
def O9 (names:List Str) (file:List Str):List Int:=file.map (fun s=>I7 names s 0)
theorem D44 (out:List Str) (s:Str):(K7 out s).length≤out.length+1:=by unfold K7;split<;>simp
theorem C46 (l out:List Str):(l.foldl K7 out).length≤out.length+l.length:=by
 induction l generalizing out with
 | nil=>simp
 | cons s r ih=>have h1:=ih (K7 out s);have h2:=D44 out s;simp only [L31,K99];omega
theorem E78 (fs:List (List Str)):(I8 fs).length≤fs.flatten.length:=by have:=C46 fs.flatten [];simpa [I8] using this
end Go.AL
namespace Go.AL
open Go
def P0 (i j:Int):List Span→Int→Int→List Change
 | [],m,n=>if m > i∨n > j then [⟨i,m - i,j,n - j⟩] else []
 | x::r,m,n=>(if x.From > i∨x.To > j then [⟨i,x.From - i,j,x.To - j⟩] else [])++P0 (x.From+1) (x.To+1) r m n
def B04 (p:List Span) (m n:Int):List Change:=P0 0 0 p m n
theorem C23 (p:List Span) (i j m n:Int):(P0 i j p m n).length≤p.length+1:=by
 induction p generalizing i j with
 | nil=>unfold P0;split<;>simp
 | cons x r ih=>unfold P0;have:=ih (x.From+1) (x.To+1);split<;>simp<;>omega
def Q0 (i j:Int) (n:Nat):List Span:=(List.range n).map fun (t:Nat)=>⟨i+(t:Int),j+(t:Int)⟩
theorem E79 (i j:Int) (n:Nat):(Q0 i j n).length=n:=by simp [Q0]
theorem B05 (i j:Int) (n:Nat):Q0 i j (n+1)=⟨i,j⟩::Q0 (i+1) (j+1) n:=by
 unfold Q0
 rw [List.range_succ_eq_map,L04,L34]
 congr 1
 ·simp
 ·refine List.map_congr_left fun t _=>?_
  simp only [Function.comp,Span.mk.injEq]
  omega
def K8 (i j:Int):List Change→Int→List Span
 | [],m=>Q0 i j (m - i).toNat
 | c::r,m=>Q0 i j (c.Old - i).toNat++K8 (max i c.Old+c.OldLen) (j+(c.Old - i).toNat+c.NewLen) r m
def j5 (l:List Change) (m:Int):List Span:=K8 0 0 l m
def dist:List Int→List Int→Nat
 | [],b=>b.length
 | x::a,[]=>(x::a).length
 | x::a,y::b=>if x=y then dist a b else 1+min (dist a (y::b)) (dist (x::a) b)
theorem C93 (a:List Int):dist a []=a.length:=by cases a<;>simp [dist]
theorem G65 (a b:List Int):dist a b≤a.length+b.length:=by
 induction a generalizing b with
 | nil=>simp [dist]
 | cons x a iha =>
  induction b with
  | nil=>simp [dist]
  | cons y b ihb =>
   unfold dist
   split
   ·have:=iha b;simp;omega
   ·have:=iha (y::b);have:=ihb;simp only [K99] at *;omega
def H1 (i j:Int):List Int→List Int→List Span
 | [],_=>[]
 | _::_,[]=>[]
 | x::a,y::b=>if x=y then ⟨i,j⟩::H1 (i+1) (j+1) a b else if dist a (y::b)+1=dist (x::a) (y::b) then H1 (i+1) j a (y::b) else H1 i (j+1) (x::a) b
def N6 (a b:List Int):List Change:=B04 (H1 0 0 a b) a.length b.length
theorem J51 (a b:List Int) (i j:Nat) (hi:i < a.length) (hj:j < b.length) :
  dist (a.drop i) (b.drop j)=if a[i]=b[j] then dist (a.drop (i+1)) (b.drop (j+1)) else 1+min (dist (a.drop (i+1)) (b.drop j)) (dist (a.drop i) (b.drop (j+1))):=by
 rw [L03 hi,L03 hj]
 conv=>lhs;rw [dist]
theorem D81 (a b:List Int) (i j:Nat) (hi:i < a.length) (hj:j < b.length) (p q:Int) :
  H1 p q (a.drop i) (b.drop j)=if a[i]=b[j] then ⟨p,q⟩::H1 (p+1) (q+1) (a.drop (i+1)) (b.drop (j+1)) else
   if dist (a.drop (i+1)) (b.drop j)+1=dist (a.drop i) (b.drop j) then H1 (p+1) q (a.drop (i+1)) (b.drop j) else H1 p (q+1) (a.drop i) (b.drop (j+1)):=by
 rw [L03 hi,L03 hj]
 conv=>lhs;rw [H1]
theorem c7 (p q:Int) (b:List Int):H1 p q [] b=[]:=by simp [H1]
theorem w8 (p q:Int) (a:List Int):H1 p q a []=[]:=by cases a<;>simp [H1]
theorem A68 (p q:Int) (a b:List Int):(H1 p q a b).length≤a.length:=by
 induction a generalizing p q b with
 | nil=>simp [H1]
 | cons x a iha =>
  induction b generalizing p q with
  | nil=>simp [H1]
  | cons y b ihb =>
   unfold H1
   split
   ·have:=iha (p+1) (q+1) b;simp;omega
   ·split
    ·have:=iha (p+1) q (y::b);simp;omega
    ·exact ihb p (q+1)
universe u
theorem B94 {α:Type u} (n k:Nat) (f g:Nat→α) (v:α) (hv:k < n→g k=v) (h:∀q,q < n→q≠k→g q=f q):((List.range n).map f).set k v=(List.range n).map g:=by
 refine List.ext_getElem (by simp) fun q h1 h2=>?_
 have hq:q < n:=by simpa using h2
 rw [List.getElem_set]
 by_cases he:k=q
 ·subst he;simp [hv hq]
 ·rw [if_neg he];simp [h q hq (Ne.symm he)]
theorem D45 {α:Type u} (n k:Nat) (f:Nat→α) (h:k < n):((List.range n).map f)[k]?=some (f k):=by simp [h]
def H5 (l:List Merged):List Int:=l.map (·.Line)
theorem B06 (i j:Int):Q0 i j 0=[]:=rfl
theorem G66 (i j:Int) (n:Nat):Q0 i j (n+1)=Q0 i j n++[⟨i+n,j+n⟩]:=by simp [Q0,L38]
def Asc (m n:Int):Int→Int→List Span→Prop
 | i,j,[]=>i≤m∧j≤n
 | i,j,x::r=>i≤x.From∧j≤x.To∧Asc m n (x.From+1) (x.To+1) r
theorem Asc.le {m n:Int}:∀{p:List Span} {i j:Int},Asc m n i j p→i≤m∧j≤n
 | [],i,j,h=>h
 | x::r,i,j,h=>by have:=Asc.le h.2.2;have:=h.1;have:=h.2.1;omega
theorem Asc.weaken {m n:Int} {p:List Span} {i j i' j':Int} (h:Asc m n i j p) (hi:i'≤i) (hj:j'≤j):Asc m n i' j' p:=by
 cases p with
 | nil=>exact ⟨by have:=h.1;omega,by have:=h.2;omega⟩
 | cons x r=>exact ⟨by have:=h.1;omega,by have:=h.2.1;omega,h.2.2⟩
theorem V1 (a b:List Int):∀(p q:Int),Asc (p+a.length) (q+b.length) p q (H1 p q a b):=by
 induction a generalizing b with
 | nil=>intro p q;rw [c7];simp only [Asc,L02];omega
 | cons x a iha =>
  induction b with
  | nil=>intro p q;rw [w8];simp only [Asc,L02];omega
  | cons y b ihb =>
   intro p q
   rw [H1]
   split
   ·have:=iha b (p+1) (q+1)
    refine ⟨Int.le_refl _,Int.le_refl _,?_⟩
    simp only [K99]
    rwa [show p+((a.length+1:Nat):Int)=p+1+a.length by omega,show q+((b.length+1:Nat):Int)=q+1+b.length by omega]
   ·split
    ·have:=(iha (y::b) (p+1) q).weaken (i':=p) (j':=q) (by omega) (Int.le_refl _)
     rwa [show p+((x::a).length:Int)=p+1+a.length by simp;omega]
    ·have:=(ihb p (q+1)).weaken (i':=p) (j':=q) (Int.le_refl _) (by omega)
     rwa [show q+((y::b).length:Int)=q+1+b.length by simp;omega]
theorem Asc.made {m n:Int}:∀{p:List Span} {i j:Int},Asc m n i j p→∀c∈P0 i j p m n,i≤c.Old∧j≤c.New∧0≤c.OldLen∧0≤c.NewLen∧c.Old+c.OldLen≤m∧c.New+c.NewLen≤n
 | [],i,j,h,c,hc=>by
  unfold P0 at hc
  split at hc
  ·simp only [List.mem_singleton] at hc;subst hc
   have:=h.1;have:=h.2
   simp only;omega
  ·cases hc
 | x::r,i,j,h,c,hc=>by
  unfold P0 at hc
  obtain ⟨h1,h2,h3⟩:=h
  have h4:=h3.le
  rcases List.mem_append.1 hc with hc | hc
  ·split at hc
   ·simp only [List.mem_singleton] at hc;subst hc
    simp only;omega
   ·cases hc
  ·have:=Asc.made h3 c hc;omega
theorem E80 (i j m:Int) (l:List Change) (h:∀c∈l,i+1≤c.Old) (hm:l=[]→i+1≤m):K8 i j l m=⟨i,j⟩::K8 (i+1) (j+1) l m:=by
 cases l with
 | nil =>
  have:=hm rfl
  rw [K8,K8,show (m - i).toNat=(m - (i+1)).toNat+1 by omega,B05]
 | cons c r =>
  have:=h c (List.mem_cons_self ..)
  rw [K8,K8,show (c.Old - i).toNat=(c.Old - (i+1)).toNat+1 by omega,B05]
  rw [show max (i+1) c.Old=max i c.Old by omega,show (j+1+((c.Old - (i+1)).toNat:Int))=j+(((c.Old - (i+1)).toNat+1:Nat):Int) by omega]
  rfl
theorem C94 {m n:Int}:∀{p:List Span} {i j:Int},Asc m n i j p→K8 i j (P0 i j p m n) m=p
 | [],i,j,h=>by
  have h1:=h.1;have h2:=h.2
  unfold P0
  split
  ·rw [K8,K8,show (i - i).toNat=0 by omega,show (m - (max i i+(m - i))).toNat=0 by omega];rfl
  ·rw [K8,show (m - i).toNat=0 by omega];rfl
 | x::r,i,j,h=>by
  obtain ⟨h1,h2,h3⟩:=h
  have ih:=C94 h3
  have hm:=h3.le
  have hd:=E80 x.From x.To m (P0 (x.From+1) (x.To+1) r m n) (fun c hc=>(h3.made c hc).1) (fun _=>hm.1)
  rw [ih] at hd
  unfold P0
  split
  ·rw [List.singleton_append,K8,show (i - i).toNat=0 by omega,show max i i+(x.From - i)=x.From by omega,show j+((0:Nat):Int)+(x.To - j)=x.To by omega,hd];rfl
  ·have e1:i=x.From:=by omega
   have e2:j=x.To:=by omega
   rw [L18,e1,e2,hd]
theorem G67 (a b:List Int):j5 (N6 a b) a.length=H1 0 0 a b:=by
 have:=V1 a b 0 0
 rw [Int.zero_add,Int.zero_add] at this
 exact C94 this
theorem G68 (a b:List Int):∀c∈N6 a b,0≤c.Old∧0≤c.New∧0≤c.OldLen∧0≤c.NewLen∧c.Old+c.OldLen≤a.length∧c.New+c.NewLen≤b.length:=by
 have:=V1 a b 0 0
 rw [Int.zero_add,Int.zero_add] at this
 exact this.made
def J4 (p:Int):Int:=IntKind.u32.wrap (1*2 ^ (min (IntKind.u64.wrap p).toNat IntKind.u32.bits))
def J9 (a b:Int):Int:=IntKind.u32.wrap ((BitVec.ofInt IntKind.u32.bits a ||| BitVec.ofInt IntKind.u32.bits b).toNat:Int)
def Y4 (l:List Merged) (list:List Int) (bit:Int) (i j:Nat):List Span→List Merged
 | []=>(l.drop i).take (l.length - i)++((list.drop j).take (list.length - j)).map fun v=>⟨v,bit⟩
 | x::r=>(l.drop i).take (x.From.toNat - i)++(((list.drop j).take (x.To.toNat - j)).map fun v=>⟨v,bit⟩)++((l[x.From.toNat]?.map fun y=>(⟨y.Line,J9 y.Parents bit⟩:Merged)).toList++Y4 l list bit (x.From.toNat+1) (x.To.toNat+1) r)
def Y5 (l:List Merged) (list:List Int) (p:Int):List Merged:=Y4 l list (J4 p) 0 0 (H1 0 0 (H5 l) list)
theorem E81 {α:Type} (l:List α) (i t:Nat) (h:i+t < l.length):(l.drop i).take (t+1)=(l.drop i).take t++[l[i+t]]:=by
 rw [List.take_add_one,L25,K97 h];rfl
end Go.AL
namespace Go.AL
open Go
def U6 (m:Int) (c:Nat):Bool:=m / 2 ^ c % 2 == 1
def s9 (r:Row) (c:Int):Bool:=if c = -1 then !r.Lost else if c < -1∨32≤c then false else U6 r.Marks c.toNat == r.Lost
def N7 (rows:List Row) (c:Int):List Str:=(rows.filter (s9 · c)).map (·.Text)
def T6 (n:Nat) (r:Row):Bool:=r.Marks / 2 ^ n == 0&&!(r.Lost&&r.Marks == 0)
def P3 (rows:List Row) (n:Nat):Bool:=rows.all (T6 n)
def p6 (rows:List Row) (n:Nat):Bool:=rows.all (fun r=>J7 r.Text)&&(List.range (n+1)).all fun k=>B60 (N7 rows ((k:Int) - 1))
def J2 (t:Table):Int:=if t.Parents < 1∨32 < t.Parents then 2 else if P3 t.Rows t.Parents.toNat=false then 180 else if p6 t.Rows t.Parents.toNat=false then 4 else 0
theorem C95 (r:Row) (rs:List Row) (n:Nat):P3 (r::rs) n=(T6 n r&&P3 rs n):=rfl
def K3 (rows:List Row):Prop:=∀r∈rows,0≤r.Marks∧r.Marks < 4294967296
def V7 (rows:List Row):Nat:=(rows.map (·.Text)).flatten.length
theorem D46 (rows:List Row) (c:Int):(N7 rows c).length≤rows.length:=by unfold N7;rw [L26];exact List.length_filter_le _ _
theorem H45 (rows:List Row):∀r∈rows,r.Text.length≤V7 rows:=by
 intro r hr
 unfold V7
 exact (List.sublist_flatten_of_mem (List.mem_map_of_mem hr)).length_le
theorem H46 (x:Int) (h:0≤x∧x < 4294967296):IntKind.u32.wrap ((BitVec.ofInt IntKind.u32.bits x &&& BitVec.ofInt IntKind.u32.bits 1).toNat:Int)=x % 2:=by
 have h1:(BitVec.ofInt IntKind.u32.bits x &&& BitVec.ofInt IntKind.u32.bits 1).toNat=x.toNat % 2:=by
  rw [BitVec.toNat_and,BitVec.toNat_ofInt,BitVec.toNat_ofInt]
  have e1:(x % ((2 ^ IntKind.u32.bits:Nat):Int)).toNat=x.toNat:=by
   rw [show ((2 ^ IntKind.u32.bits:Nat):Int)=4294967296 by rfl];omega
  have e2:((1:Int) % ((2 ^ IntKind.u32.bits:Nat):Int)).toNat=1:=by rfl
  rw [e1,e2,Nat.and_one_is_mod]
 rw [h1]
 have h2:IntKind.u32.wrap ((x.toNat % 2:Nat):Int)=((x.toNat % 2:Nat):Int):=by
  simp [IntKind.wrap,IntKind.signed,IntKind.bits];omega
 rw [h2];omega
theorem I39 {n:Int} (h:0≤n∧n < 18446744073709551616):IntKind.u64.wrap n=n:=by simp [IntKind.wrap,IntKind.signed,IntKind.bits];omega
theorem I89 (m c:Int) (hc:0≤c∧c≤32):m.fdiv (2 ^ (min c.toNat IntKind.u32.bits))=m / 2 ^ c.toNat:=by
 rw [show min c.toNat IntKind.u32.bits=c.toNat from Nat.min_eq_left (by show c.toNat≤32;omega),Int.fdiv_eq_ediv_of_nonneg _ (Int.pow_nonneg (by decide))]
theorem shr_eq (m c:Int) (b:Nat) (hc:0≤c∧c≤b):m.fdiv (2 ^ (min c.toNat b))=m / 2 ^ c.toNat:=by
 rw [show min c.toNat b=c.toNat by omega,Int.fdiv_eq_ediv_of_nonneg _ (Int.pow_nonneg (by decide))]
end Go.AL
namespace Go.AL
open Go
theorem G69 (n:Int):0≤IntKind.u32.wrap n∧IntKind.u32.wrap n < 4294967296:=by simp [IntKind.wrap,IntKind.signed,IntKind.bits];omega
def p7 (a b:Int):Int:=IntKind.u32.wrap ((BitVec.ofInt IntKind.u32.bits a &&& ~~~BitVec.ofInt IntKind.u32.bits b).toNat:Int)
def H8 (acc:List Merged) (p:Nat):List (List Int)→List Merged × Int
 | []=>(acc,0)
 | x::r=>if 4096 < acc.length∨4096 < x.length then ([],1) else H8 (Y5 acc x p) (p+1) r
def H2 (lists:List (List Int)):List Merged × Int:=if 32 < lists.length then ([],1) else H8 [] 0 lists
theorem D82 (l:List Merged) (list:List Int) (bit:Int):∀(ps:List Span) (i j:Nat),i≤l.length→j≤list.length→Asc l.length list.length i j ps→(Y4 l list bit i j ps).length≤(l.length - i)+(list.length - j)
 | [],i,j,hi,hj,_=>by simp [Y4]
 | x::r,i,j,hi,hj,ha=>by
  obtain ⟨h1,h2,h3⟩:=ha
  have h4:=h3.le
  have e1:((x.From.toNat+1:Nat):Int)=x.From+1:=by omega
  have e2:((x.To.toNat+1:Nat):Int)=x.To+1:=by omega
  have ih:=D82 l list bit r (x.From.toNat+1) (x.To.toNat+1) (by omega) (by omega) (by rw [e1,e2];exact h3)
  have h5:((l[x.From.toNat]?.map fun y=>(⟨y.Line,J9 y.Parents bit⟩:Merged)).toList).length≤1:=by cases l[x.From.toNat]?<;>simp
  simp only [Y4,K96,L26,L08,L05]
  omega
theorem A52 (l:List Merged) (list:List Int) (p:Int):(Y5 l list p).length≤l.length+list.length:=by
 have hasc:=V1 (H5 l) list 0 0
 rw [Int.zero_add,Int.zero_add,show (H5 l).length=l.length by simp [H5]] at hasc
 have:=D82 l list (J4 p) (H1 0 0 (H5 l) list) 0 0 (Nat.zero_le _) (Nat.zero_le _) hasc
 simpa [Y5] using this
theorem W4 {α:Type} {l:List α} {i n:Nat} {x:α} (h:x∈(l.drop i).take n):x∈l:=List.mem_of_mem_drop (List.mem_of_mem_take h)
theorem E82 (l:List Merged) (list:List Int) (bit:Int) (hb:0≤bit∧bit < 4294967296) (hl:∀m∈l,0≤m.Parents∧m.Parents < 4294967296) (Q:Int→Prop) (hq1:∀m∈l,Q m.Line) (hq2:∀v∈list,Q v) :
  ∀(ps:List Span) (i j:Nat),∀m∈Y4 l list bit i j ps,(0≤m.Parents∧m.Parents < 4294967296)∧Q m.Line
 | [],i,j,m,hm=>by
  rcases List.mem_append.1 hm with h | h
  ·have:=W4 h;exact ⟨hl _ this,hq1 _ this⟩
  ·obtain ⟨v,hv,rfl⟩:=List.mem_map.1 h
   exact ⟨hb,hq2 _ (W4 hv)⟩
 | x :: r,i,j,m,hm=>by
  unfold Y4 at hm
  rcases List.mem_append.1 hm with h | h
  ·rcases List.mem_append.1 h with h | h
   ·have:=W4 h;exact ⟨hl _ this,hq1 _ this⟩
   ·obtain ⟨v,hv,rfl⟩:=List.mem_map.1 h
    exact ⟨hb,hq2 _ (W4 hv)⟩
  ·rcases List.mem_append.1 h with h | h
   ·cases hx:l[x.From.toNat]? with
    | none=>simp [hx] at h
    | some y =>
     simp [hx] at h
     subst h
     exact ⟨G69 _,hq1 y (L13 hx)⟩
   ·exact E82 l list bit hb hl Q hq1 hq2 r _ _ m h
theorem A53 (Q:Int→Prop) (B:Nat):∀(ls:List (List Int)) (acc:List Merged) (p:Nat),(∀x∈ls,x.length≤B∧∀v∈x,Q v)→(∀m∈acc,(0≤m.Parents∧m.Parents < 4294967296)∧Q m.Line) →
  (H8 acc p ls).1.length≤acc.length+ls.length*B∧∀m∈(H8 acc p ls).1,(0≤m.Parents∧m.Parents < 4294967296)∧Q m.Line
 | [],acc,p,_,ha=>by simp only [H8];exact ⟨by simp,ha⟩
 | x::r,acc,p,hl,ha=>by
  unfold H8
  split
  ·exact ⟨by simp,by simp⟩
  ·have hx:=hl x (List.mem_cons_self ..)
   have hj:=A52 acc x p
   have hm:=E82 acc x (J4 p) (G69 _) (fun m hm=>(ha m hm).1) Q (fun m hm=>(ha m hm).2) hx.2 (H1 0 0 (H5 acc) x) 0 0
   have ih:=A53 Q B r (Y5 acc x p) (p+1) (fun y hy=>hl y (List.mem_cons_of_mem _ hy)) hm
   refine ⟨?_,ih.2⟩
   have h1:=ih.1
   have h2:=hx.1
   simp only [K99,L20,Nat.one_mul]
   omega
theorem A69 (Q:Int→Prop) (B:Nat) (ls:List (List Int)) (h:∀x∈ls,x.length≤B∧∀v∈x,Q v):(H2 ls).1.length≤ls.length*B∧∀m∈(H2 ls).1,(0≤m.Parents∧m.Parents < 4294967296)∧Q m.Line:=by
 unfold H2
 split
 ·exact ⟨by simp,by simp⟩
 ·have:=A53 Q B ls [] 0 h (by simp)
  simpa using this
def V8 (p:Int) (ms:List Int) (x:Span):List Int:=ms.set x.To.toNat (p7 (ms.getD x.To.toNat 0) (J4 p))
def P1 (p:Nat) (file:List Int) (g:Nat→List (List Int)) (c:Change):Nat→List (List Int):=fun k =>
 if k=c.New.toNat then (g k).set p ((file.drop c.Old.toNat).take ((c.Old+c.OldLen).toNat - c.Old.toNat)) else g k
abbrev Loom:=List Int × (Nat→List (List Int))
def g9 (ids:List (List Int)) (s:Loom) (p:Nat):Loom :=
 let file:=ids.getD (p+1) []
 let sc:=N6 file (ids.getD 0 [])
 ((j5 sc file.length).foldl (V8 p) (s.1.map (J9 · (J4 p))),sc.foldl (P1 p file) s.2)
def E83 (lines n:Nat):Loom:=(List.replicate lines 0,fun _=>List.replicate n [])
def W9 (ids:List (List Int)) (lines n p:Nat):Loom:=(List.range p).foldl (g9 ids) (E83 lines n)
def S6 (names:List Str) (file:List Str) (s:Loom) (k:Nat):List Row :=
 (H2 (s.2 k)).1.map (fun m=>(⟨true,m.Parents,names.getD m.Line.toNat []⟩:Row))++(if k < file.length then [⟨false,s.1.getD k 0,file.getD k []⟩] else [])
def X0 (names:List Str) (file:List Str) (s:Loom) (k:Nat):List Row:=((List.range k).map (S6 names file s)).flatten
def E9 (result:Str) (parents:List Str):Table × Int :=
 if parents.length < 1∨32 < parents.length then (⟨0,[]⟩,2) else
 let fs:=C3 result::parents.map C3
 let names:=I8 fs
 let s:=W9 (fs.map (O9 names)) (C3 result).length parents.length parents.length
 if ∃k,k < (C3 result).length+1∧(H2 (s.2 k)).2≠0 then (⟨0,[]⟩,1) else (⟨parents.length,X0 names (C3 result) s ((C3 result).length+1)⟩,0)
theorem D83 (names file:List Str) (s:Loom) (k:Nat):X0 names file s (k+1)=X0 names file s k++S6 names file s k:=by
 unfold X0;rw [L38,L14,L28];simp
structure LoomOk (Q:Int→Prop) (B lines n:Nat) (s:Loom):Prop where
 len:s.1.length=lines
 marks:∀m∈s.1,0≤m∧m < 4294967296
 gaps:∀k,(s.2 k).length=n∧∀x∈s.2 k,x.length≤B∧∀v∈x,Q v
theorem K22 (Q:Int→Prop) (B lines n:Nat):LoomOk Q B lines n (E83 lines n) where
 len:=by simp [E83]
 marks:=fun m hm=>by have:=List.eq_of_mem_replicate hm;subst this;decide
 gaps:=fun k=>⟨by simp [E83],fun x hx=>by have:=List.eq_of_mem_replicate hx;subst this;simp⟩
theorem J52 {Q:Int→Prop} {B n p:Nat} {file:List Int} (hf:file.length≤B∧∀v∈file,Q v) {g:Nat→List (List Int)} (hg:∀k,(g k).length=n∧∀x∈g k,x.length≤B∧∀v∈x,Q v) (c:Change) :
  ∀k,(P1 p file g c k).length=n∧∀x∈P1 p file g c k,x.length≤B∧∀v∈x,Q v:=by
 intro k
 unfold P1
 split
 ·refine ⟨by rw [L49];exact (hg k).1,fun x hx=>?_⟩
  rcases List.mem_or_eq_of_mem_set hx with h | rfl
  ·exact (hg k).2 x h
  ·exact ⟨by simp;omega,fun v hv=>hf.2 v (W4 hv)⟩
 ·exact hg k
theorem C96 {Q:Int→Prop} {B n p:Nat} {file:List Int} (hf:file.length≤B∧∀v∈file,Q v):∀(sc:List Change) {g:Nat→List (List Int)},(∀k,(g k).length=n∧∀x∈g k,x.length≤B∧∀v∈x,Q v) →
  ∀k,(sc.foldl (P1 p file) g k).length=n∧∀x∈sc.foldl (P1 p file) g k,x.length≤B∧∀v∈x,Q v
 | [],_,hg=>hg
 | c::r,_,hg=>C96 hf r (J52 hf hg c)
theorem H47 {p:Int} {ms:List Int} {x:Span} (h:∀m∈ms,0≤m∧m < 4294967296):(V8 p ms x).length=ms.length∧∀m∈V8 p ms x,0≤m∧m < 4294967296:=by
 refine ⟨by simp [V8],fun m hm=>?_⟩
 rcases List.mem_or_eq_of_mem_set hm with h' | rfl
 ·exact h m h'
 ·exact G69 _
theorem B61 {p:Int}:∀(ps:List Span) {ms:List Int},(∀m∈ms,0≤m∧m < 4294967296)→(ps.foldl (V8 p) ms).length=ms.length∧∀m∈ps.foldl (V8 p) ms,0≤m∧m < 4294967296
 | [],ms,h=>⟨rfl,h⟩
 | x::r,ms,h=>by
  have h1:=H47 (p:=p) (x:=x) h
  have h2:=B61 (p:=p) r h1.2
  exact ⟨h2.1.trans h1.1,h2.2⟩
theorem F58 {Q:Int→Prop} {B lines n:Nat} {ids:List (List Int)} (hids:∀x∈ids,x.length≤B∧∀v∈x,Q v) {s:Loom} (h:LoomOk Q B lines n s) (p:Nat):LoomOk Q B lines n (g9 ids s p):=by
 have hf:(ids.getD (p+1) []).length≤B∧∀v∈ids.getD (p+1) [],Q v:=by
  rw [L00]
  cases hx:ids[p+1]? with
  | none=>simp
  | some x=>exact hids x (L13 hx)
 have hr:∀m∈s.1.map (J9 · (J4 p)),0≤m∧m < 4294967296:=fun m hm=>by
  obtain ⟨v,_,rfl⟩:=List.mem_map.1 hm;exact G69 _
 have hc:=B61 (p:=p) (j5 (N6 (ids.getD (p+1) []) (ids.getD 0 [])) (ids.getD (p+1) []).length) hr
 exact { len:=by rw [g9];simp only;rw [hc.1,L26];exact h.len,marks:=hc.2,gaps:=C96 hf _ h.gaps }
theorem B62 (ids:List (List Int)) (lines n p:Nat):W9 ids lines n (p+1)=g9 ids (W9 ids lines n p) p:=by
 unfold W9;rw [L38,L40];rfl
theorem A82 {Q:Int→Prop} {B lines n:Nat} {ids:List (List Int)} (hids:∀x∈ids,x.length≤B∧∀v∈x,Q v):∀p,LoomOk Q B lines n (W9 ids lines n p)
 | 0=>K22 Q B lines n
 | p+1=>by rw [B62];exact F58 hids (A82 hids p) p
theorem B07 (l:List Str) (s:Str):∀k:Int,0≤k→s∈l→k≤I7 l s k∧I7 l s k < k+l.length:=by
 induction l with
 | nil=>intro k _ h;cases h
 | cons x r ih =>
  intro k hk h
  unfold I7
  by_cases hx:x=s
  ·rw [if_pos hx];simp;omega
  ·rw [if_neg hx]
   have:=ih (k+1) (by omega) (by rcases List.mem_cons.1 h with rfl | h;exact absurd rfl hx;exact h)
   simp only [K99];omega
theorem E08 (l:List Str):∀(out:List Str) (s:Str),s∈out∨s∈l→s∈l.foldl K7 out:=by
 induction l with
 | nil=>intro out s h;rcases h with h | h;exact h;cases h
 | cons x r ih =>
  intro out s h
  apply ih
  rcases h with h | h
  ·left;unfold K7;split;exact h;exact List.mem_append_left _ h
  ·rcases List.mem_cons.1 h with rfl | h
   ·left;unfold K7;split;assumption;simp
   ·exact .inr h
theorem B63 (fs:List (List Str)) (s:Str) (f:List Str) (hf:f∈fs) (hs:s∈f):s∈I8 fs:=E08 _ _ _ (.inr (List.mem_flatten.2 ⟨f,hf,hs⟩))
theorem ids_in (fs:List (List Str)):∀x∈fs.map (O9 (I8 fs)),∀v∈x,0≤v∧v < (I8 fs).length:=by
 intro x hx v hv
 obtain ⟨f,hf,rfl⟩:=List.mem_map.1 hx
 obtain ⟨s,hs,rfl⟩:=List.mem_map.1 hv
 have:=B07 (I8 fs) s 0 (Int.le_refl _) (B63 fs s f hf hs)
 omega
theorem E09 (l:List Str):∀(out:List Str) (s:Str),s∈l.foldl K7 out→s∈out∨s∈l:=by
 induction l with
 | nil=>intro out s h;exact .inl h
 | cons x r ih =>
  intro out s h
  rcases ih _ _ h with h | h
  ·unfold K7 at h
   split at h
   ·exact .inl h
   ·rcases List.mem_append.1 h with h | h
    ·exact .inl h
    ·simp at h;subst h;exact .inr (by simp)
  ·exact .inr (List.mem_cons_of_mem _ h)
theorem D84 (fs:List (List Str)) (s:Str) (h:s∈I8 fs):s∈fs.flatten:=by
 rcases E09 _ _ _ h with h | h
 ·cases h
 ·exact h
end Go.AL
namespace Go.AL
open Go
theorem C97 (s:Str):Lib.hasSuffix s [10]=ended s:=by
 unfold Lib.hasSuffix ended
 rw [Bool.eq_iff_iff,List.isSuffixOf_iff_suffix,beq_iff_eq]
 constructor
 ·rintro ⟨t,rfl⟩;simp
 ·intro h
  obtain ⟨hne,h2⟩:=List.getLast?_eq_some_iff.1 h
  exact ⟨hne,h2.symm⟩
def B08 (s:Str):Str:=if ended s then s.dropLast else s
theorem C24 (s:Str):Lib.trimSuffix s [10]=B08 s:=by
 unfold Lib.trimSuffix B08
 rw [C97,List.dropLast_eq_take];rfl
theorem V9 (c:UInt8):∀l:Str,(c∉l∧Lib.indexByte l c = -1)∨∃a b,l=a++c::b∧c∉a∧Lib.indexByte l c=a.length
 | []=>.inl ⟨by simp,rfl⟩
 | x::l=>by
  unfold Lib.indexByte
  by_cases hx:x=c
  ·exact .inr ⟨[],l,by rw [hx];rfl,by simp,by simp [hx]⟩
  ·rcases V9 c l with ⟨h1,h2⟩ | ⟨a,b,h1,h2,h3⟩
   ·exact .inl ⟨by simp [h1,Ne.symm hx],by simp [hx,h2]⟩
   ·refine .inr ⟨x::a,b,by rw [h1];rfl,by simp [h2,Ne.symm hx],?_⟩
    have h4:¬((a.length:Int) = -1):=by omega
    simp [hx,h3,h4]
theorem F59 (c:UInt8) (l:Str):0≤Lib.indexByte l c↔c∈l:=by
 rcases V9 c l with ⟨h1,h2⟩ | ⟨a,b,h1,h2,h3⟩
 ·rw [h2];simp [h1]
 ·rw [h3,h1];simp
theorem C47 (s:Str):J7 s=true↔s≠[]∧10∉s.dropLast:=by
 unfold J7
 rw [K98,List.all_eq_true]
 constructor
 ·rintro ⟨h1,h2⟩
  exact ⟨by simpa using h2,fun h=>by have:=h1 10 h;simp at this⟩
 ·rintro ⟨h1,h2⟩
  exact ⟨fun x hx=>by simpa using fun e:x=10=>h2 (e ▸ hx),by simpa using h1⟩
theorem K23 (s:Str):10∈B08 s↔10∈s.dropLast:=by
 unfold B08
 split
 ·exact Iff.rfl
 ·rename_i h
  by_cases hs:s=[]
  ·subst hs;simp
  ·constructor
   ·intro h2
    have e:=(List.dropLast_concat_getLast hs).symm
    rw [e] at h2
    rcases List.mem_append.1 h2 with h3 | h3
    ·exact h3
    ·exfalso
     refine h ?_
     unfold ended
     rw [List.getLast?_eq_some_getLast hs]
     simp at h3;simp [←h3]
   ·exact fun h2=>List.dropLast_subset s h2
theorem J53 (s:Str):(if decide (s≠[])=true then !decide (0≤Lib.indexByte (B08 s) 10) else false)=J7 s:=by
 rw [Bool.eq_iff_iff,C47]
 have h:=K23 s
 have h2:=F59 10 (B08 s)
 by_cases hs:s=[]
 ·simp [hs]
 ·simp [hs,h2,h]
theorem D85 (s:Str) (r:List Str):B60 (s::r)=(J7 s&&(r.isEmpty||ended s)&&B60 r):=rfl
def H48 (a b:Int):Int:=IntKind.u32.wrap ((BitVec.ofInt IntKind.u32.bits a &&& BitVec.ofInt IntKind.u32.bits b).toNat:Int)
def not32 (a:Int):Int:=IntKind.u32.wrap ((BitVec.ofInt IntKind.u32.bits IntKind.u32.max ^^^ BitVec.ofInt IntKind.u32.bits a).toNat:Int)
theorem w9 (n c:Nat):U6 (n:Int) c=n.testBit c:=by
 unfold U6
 rw [Nat.testBit_eq_decide_div_mod_eq]
 have:((n:Int) / 2 ^ c % 2 == 1)=decide (n / 2 ^ c % 2=1):=by
  rw [Bool.eq_iff_iff,beq_iff_eq,decide_eq_true_iff]
  have e:(n:Int) / 2 ^ c % 2=((n / 2 ^ c % 2:Nat):Int):=by simp
  rw [e];omega
 exact this
theorem A18 (n:Nat) (h:n < 4294967296):IntKind.u32.wrap (n:Int)=n:=by simp [IntKind.wrap,IntKind.signed,IntKind.bits];omega
theorem D47 (n:Nat):BitVec.ofInt IntKind.u32.bits (n:Int)=BitVec.ofNat 32 n:=BitVec.ofInt_natCast 32 n
theorem J54 (n m:Nat) (hn:n < 4294967296) (hm:m < 4294967296):H48 n m=((n &&& m:Nat):Int):=by
 unfold H48
 rw [D47,D47]
 have e:(BitVec.ofNat 32 n &&& BitVec.ofNat 32 m).toNat=n &&& m:=by
  rw [BitVec.toNat_and,BitVec.toNat_ofNat,BitVec.toNat_ofNat,Nat.mod_eq_of_lt (by omega),Nat.mod_eq_of_lt (by omega)]
 have h2:n &&& m < 2 ^ 32:=Nat.and_lt_two_pow n (by omega)
 show IntKind.u32.wrap ((BitVec.ofNat 32 n &&& BitVec.ofNat 32 m).toNat:Int)=_
 rw [e,A18 _ (by omega)]
theorem y8 (n m:Nat) (hn:n < 4294967296) (hm:m < 4294967296):J9 n m=((n ||| m:Nat):Int)∧n ||| m < 4294967296:=by
 unfold J9
 rw [D47,D47]
 have e:(BitVec.ofNat 32 n ||| BitVec.ofNat 32 m).toNat=n ||| m:=by
  rw [BitVec.toNat_or,BitVec.toNat_ofNat,BitVec.toNat_ofNat,Nat.mod_eq_of_lt (by omega),Nat.mod_eq_of_lt (by omega)]
 have h2:n ||| m < 2 ^ 32:=Nat.or_lt_two_pow (by omega) (by omega)
 refine ⟨?_,by omega⟩
 show IntKind.u32.wrap ((BitVec.ofNat 32 n ||| BitVec.ofNat 32 m).toNat:Int)=_
 rw [e,A18 _ (by omega)]
theorem J55 (n:Nat) (hn:n < 4294967296):not32 n=((4294967295 ^^^ n:Nat):Int)∧4294967295 ^^^ n < 4294967296:=by
 unfold not32
 rw [D47,show IntKind.u32.max=((4294967295:Nat):Int) from rfl,D47]
 have e:(BitVec.ofNat 32 4294967295 ^^^ BitVec.ofNat 32 n).toNat=4294967295 ^^^ n:=by
  rw [BitVec.toNat_xor,BitVec.toNat_ofNat,BitVec.toNat_ofNat,Nat.mod_eq_of_lt (by omega),Nat.mod_eq_of_lt (by omega)]
 have h2:4294967295 ^^^ n < 2 ^ 32:=Nat.xor_lt_two_pow (by omega) (by omega)
 refine ⟨?_,by omega⟩
 show IntKind.u32.wrap ((BitVec.ofNat 32 4294967295 ^^^ BitVec.ofNat 32 n).toNat:Int)=_
 rw [e,A18 _ (by omega)]
theorem K24 (c:Nat) (h:c < 32):(4294967295:Nat).testBit c=true:=by
 have:(4294967295:Nat)=2 ^ 32 - 1:=rfl
 rw [this,Nat.testBit_two_pow_sub_one];simpa using h
def F60 (r:Row):Int:=if r.Lost then r.Marks else not32 r.Marks
def C25 (res:Bool) (par:Int) (r:Row):Bool:=decide (H48 par (F60 r)=0)&&(r.Lost||!res)
def B64 (res:Bool) (r:Row):Bool:=if ended r.Text then res else res||!r.Lost
def B65 (par:Int) (r:Row):Int:=if ended r.Text then par else J9 par (F60 r)
def Q1:Bool→Int→List Row→Bool
 | _,_,[]=>true
 | res,par,r::rs=>J7 r.Text&&C25 res par r&&Q1 (B64 res r) (B65 par r) rs
theorem H49 (r:Row) (hr:0≤r.Marks∧r.Marks < 4294967296):∃m:Nat,m < 4294967296∧F60 r=m∧∀c,c < 32→m.testBit c=s9 r c:=by
 obtain ⟨k,hk⟩:∃k:Nat,r.Marks=k:=⟨r.Marks.toNat,by omega⟩
 have hv:∀c:Nat,c < 32→s9 r c=(k.testBit c == r.Lost):=by
  intro c hc
  rw [s9,if_neg (by omega),if_neg (by omega),hk,L01,w9]
 unfold F60
 cases hl:r.Lost
 ·have:=J55 k (by omega)
  refine ⟨4294967295 ^^^ k,this.2,by rw [if_neg (by simp),hk];exact this.1,fun c hc=>?_⟩
  rw [hv c hc,hl,Nat.testBit_xor,K24 c hc]
  cases k.testBit c<;>rfl
 ·refine ⟨k,by omega,by rw [if_pos rfl];exact hk,fun c hc=>?_⟩
  rw [hv c hc,hl]
  cases k.testBit c<;>rfl
theorem B09 (r:Row):s9 r (-1)=!r.Lost:=by rw [s9,if_pos rfl]
def c8:Bool→List Str→Bool
 | _,[]=>true
 | b,s::r=>!b&&J7 s&&c8 (!ended s) r
theorem G70 (l:List Str):c8 true l=l.isEmpty:=by cases l<;>simp [c8]
theorem H50 (l:List Str):B60 l=c8 false l:=by
 induction l with
 | nil=>rfl
 | cons s r ih =>
  rw [D85,ih,c8]
  cases he:ended s
  ·rw [show (!false)=true from rfl,G70]
   cases r<;>simp [c8]
  ·simp
structure EndsAt (res:Bool) (par:Int) (bad:Int→Bool):Prop where
 res:res=bad (-1)
 par:∃p:Nat,p < 4294967296∧par=p∧∀c:Nat,c < 32→p.testBit c=bad c
theorem K25 (n m:Nat) (hm:m < 4294967296):n &&& m=0↔∀c,c < 32→m.testBit c=true→n.testBit c=false:=by
 constructor
 ·intro h c hc hm1
  have:(n &&& m).testBit c=false:=by rw [h];simp
  rw [Nat.testBit_and,hm1] at this
  simpa using this
 ·intro h
  refine Nat.eq_of_testBit_eq fun c=>?_
  rw [Nat.testBit_and,Nat.zero_testBit]
  by_cases hc:c < 32
  ·cases hm1:m.testBit c
   ·simp
   ·rw [h c hc hm1];rfl
  ·have:m.testBit c=false:=Nat.testBit_lt_two_pow (Nat.lt_of_lt_of_le (by omega:m < 2 ^ 32) (Nat.pow_le_pow_right (by omega) (by omega)))
   rw [this];simp
theorem J56 {res:Bool} {par:Int} {bad:Int→Bool} (h:EndsAt res par bad) (r:Row) (hr:0≤r.Marks∧r.Marks < 4294967296):C25 res par r=true↔∀c:Int,-1≤c→c < 32→s9 r c=true→bad c=false:=by
 obtain ⟨m,hm,he,hb⟩:=H49 r hr
 obtain ⟨p,hp,hpe,hpb⟩:=h.par
 unfold C25
 rw [he,hpe,J54 p m hp hm,K98,decide_eq_true_iff,show (((p &&& m:Nat):Int)=0)↔p &&& m=0 by omega,K25 p m hm]
 constructor
 ·rintro ⟨h1,h2⟩ c hc1 hc2 hv
  by_cases hc:c = -1
  ·subst hc
   rw [B09] at hv
   rw [←h.res]
   simpa [show r.Lost=false by simpa using hv] using h2
  ·obtain ⟨k,rfl⟩:∃k:Nat,c=k:=⟨c.toNat,by omega⟩
   rw [←hpb k (by omega)]
   exact h1 k (by omega) (by rw [hb k (by omega)];exact hv)
 ·intro h1
  refine ⟨fun c hc hm1=>?_,?_⟩
  ·rw [hpb c hc]
   exact h1 c (by omega) (by omega) (by rw [←hb c hc];exact hm1)
  ·cases hl:r.Lost
   ·have:=h1 (-1) (by omega) (by omega) (by rw [B09,hl];rfl)
    rw [h.res,this];rfl
   ·rfl
theorem J57 {res:Bool} {par:Int} {bad:Int→Bool} (h:EndsAt res par bad) (r:Row) (hr:0≤r.Marks∧r.Marks < 4294967296):EndsAt (B64 res r) (B65 par r) (fun c=>bad c||(s9 r c&&!ended r.Text)):=by
 obtain ⟨m,hm,he,hb⟩:=H49 r hr
 obtain ⟨p,hp,hpe,hpb⟩:=h.par
 unfold B64 B65
 cases hen:ended r.Text
 ·have ho:=y8 p m hp hm
  refine ⟨?_,p ||| m,ho.2,?_,fun c hc=>?_⟩
  ·rw [if_neg (by simp),h.res,B09];simp
  ·rw [if_neg (by simp),he,hpe];exact ho.1
  ·rw [Nat.testBit_or,hpb c hc,hb c hc];simp
 ·refine ⟨?_,p,hp,?_,fun c hc=>?_⟩
  ·rw [if_pos rfl,h.res];simp
  ·rw [if_pos rfl];exact hpe
  ·rw [hpb c hc];simp
theorem C48 (r:Row) (rs:List Row) (c:Int):N7 (r::rs) c=if s9 r c then r.Text::N7 rs c else N7 rs c:=by
 unfold N7
 cases hv:s9 r c<;>simp [hv]
theorem E84:∀(rows:List Row) (res:Bool) (par:Int) (bad:Int→Bool),EndsAt res par bad→K3 rows→(Q1 res par rows=true↔(∀r∈rows,J7 r.Text=true)∧∀c:Int,-1≤c→c < 32→c8 (bad c) (N7 rows c)=true)
 | [],res,par,bad,_,_=>by simp [Q1,N7,c8]
 | r :: rs,res,par,bad,h,hr=>by
  have hr1:=hr r (by simp)
  have ih:=E84 rs _ _ _ (J57 h r hr1) (fun x hx=>hr x (by simp [hx]))
  rw [Q1,K98,K98,J56 h r hr1,ih]
  constructor
  ·rintro ⟨⟨h1,h2⟩,h3,h4⟩
   refine ⟨fun x hx=>?_,fun c hc1 hc2=>?_⟩
   ·rcases List.mem_cons.1 hx with rfl | hx
    ·exact h1
    ·exact h3 x hx
   ·have h5:=h4 c hc1 hc2
    rw [C48]
    cases hv:s9 r c
    ·rw [if_neg (by simp)];simpa [hv] using h5
    ·rw [if_pos rfl,c8,h2 c hc1 hc2 hv,h1]
     rw [h2 c hc1 hc2 hv,hv] at h5
     simpa using h5
  ·rintro ⟨h1,h2⟩
   refine ⟨⟨h1 r (by simp),fun c hc1 hc2 hv=>?_⟩,fun x hx=>h1 x (by simp [hx]),fun c hc1 hc2=>?_⟩
   ·have h3:=h2 c hc1 hc2
    rw [C48,hv,if_pos rfl,c8] at h3
    simp only [K98,Bool.not_eq_true'] at h3
    exact h3.1.1
   ·have h3:=h2 c hc1 hc2
    rw [C48] at h3
    cases hv:s9 r c
    ·rw [hv,if_neg (by simp)] at h3;simpa using h3
    ·rw [hv,if_pos rfl,c8] at h3
     simp only [K98,Bool.not_eq_true'] at h3
     rw [h3.1.1];simpa using h3.2
theorem ends0:EndsAt false 0 (fun _=>false):=⟨rfl,0,by omega,rfl,fun c _=>by simp⟩
theorem G71 (m:Int) (n c:Nat) (h0:0≤m) (h:m / 2 ^ n=0) (hc:n≤c):U6 m c=false:=by
 obtain ⟨k,rfl⟩:∃k:Nat,m=k:=⟨m.toNat,by omega⟩
 rw [w9]
 have h1:(k:Int) / 2 ^ n=((k / 2 ^ n:Nat):Int):=by simp
 rw [h1] at h
 have h2:k / 2 ^ n=0:=by omega
 have h3:k < 2 ^ n:=by
  rcases Nat.div_eq_zero_iff.1 h2 with h3 | h3
  ·have:=Nat.two_pow_pos n;omega
  ·exact h3
 exact Nat.testBit_lt_two_pow (Nat.lt_of_lt_of_le h3 (Nat.pow_le_pow_right (by omega) hc))
theorem G72 (rows:List Row) (n:Nat) (hm:P3 rows n=true) (hr:K3 rows) (c:Int) (h1:(n:Int)≤c) (h2:c < 32):N7 rows c=N7 rows (-1):=by
 unfold N7
 have:rows.filter (s9 · c)=rows.filter (s9 · (-1)):=by
  refine List.filter_congr fun r hmem=>?_
  have h3:T6 n r=true:=List.all_eq_true.1 hm r hmem
  unfold T6 at h3
  simp only [K98,beq_iff_eq] at h3
  have h4:=G71 r.Marks n c.toNat (hr r hmem).1 h3.1 (by omega)
  rw [B09,s9,if_neg (by omega),if_neg (by omega),h4]
  cases r.Lost<;>rfl
 rw [this]
theorem E85 (rows:List Row) (n:Nat) (hn:n≤32) (hm:P3 rows n=true) (hr:K3 rows):Q1 false 0 rows=p6 rows n:=by
 rw [Bool.eq_iff_iff,E84 rows false 0 _ ends0 hr,p6,K98,List.all_eq_true,List.all_eq_true]
 refine and_congr Iff.rfl ?_
 constructor
 ·intro h k hk
  have hk:=List.mem_range.1 hk
  rw [H50]
  exact h _ (by omega) (by omega)
 ·intro h c hc1 hc2
  have key:∀c:Int,-1≤c→c < n→c8 false (N7 rows c)=true:=by
   intro c h1 h2
   have:=h (c+1).toNat (List.mem_range.2 (by omega))
   rw [show (((c+1).toNat:Nat):Int) - 1=c by omega,H50] at this
   exact this
  by_cases hcn:c < n
  ·exact key c hc1 hcn
  ·rw [G72 rows n hm hr c (by omega) hc2]
   exact key (-1) (by omega) (by omega)
end Go.AL
namespace Go.AL
open Go
def R9 (c:UInt8):Bool:=decide (33≤c.toNat∧c.toNat≤126∧c.toNat≠34∧c.toNat≠92)
def digs8:Str:=[48,49,50,51,52,53,54,55]
def G03 (c:UInt8):Str:=(digs8.drop (c.toNat / 64)).take 1++(digs8.drop (c.toNat / 8 % 8)).take 1++(digs8.drop (c.toNat % 8)).take 1
def U1 (c:UInt8):Str:=if c.toNat=34∨c.toNat=92 then [92,c] else if c.toNat=10 then [92,110] else if c.toNat=9 then [92,116] else if c.toNat < 32∨126 < c.toNat then 92::G03 c else [c]
def I9 (s:Str):Str:=if s≠[]∧s.all R9=true then s else 34::((s.map U1).flatten++[34])
theorem J58 (c:UInt8):(G03 c).length≤3:=by unfold G03;simp only [K96,L08];omega
theorem G04 (c:UInt8):(U1 c).length≤4:=by
 have:=J58 c
 unfold U1;split
 ·simp
 ·split
  ·simp
  ·split
   ·simp
   ·split
    ·simp only [K99];omega
    ·simp
theorem C98 (s:Str):((s.map U1).flatten).length≤4*s.length:=by
 induction s with
 | nil=>simp
 | cons c r ih=>have:=G04 c;simp only [L04,L16,K96,K99];omega
theorem H51 (s:Str):(I9 s).length≤4*s.length+2:=by
 unfold I9;have:=C98 s
 split
 ·omega
 ·simp only [K99,K96,L02];omega
def K0 (n:Int):Str:=if n < 0∨2147483647 < n then [] else Lib.itoa n
def J0 (a n:Int):Str:=if a < 0∨n < 0∨2147483647 < a∨2147483647 - a < n then [] else if n=0 then K0 a++[44,48] else if n=1 then K0 (a+1) else K0 (a+1)++[44]++K0 n
theorem C26:∀(k u:Nat),u < 10 ^ (k+1)→(Lib.decDigits u).length≤k+1
 | 0,u,h=>by rw [Lib.decDigits,dif_pos (by omega)];simp
 | k+1,u,h=>by
  rw [Lib.decDigits]
  split
  ·simp
  ·have:=C26 k (u / 10) (by rw [Nat.div_lt_iff_lt_mul (by omega)];rw [Nat.pow_succ] at h;omega)
   simp only [K96,K99,L02];omega
theorem x1 (n:Int):(K0 n).length≤10:=by
 unfold K0;split
 ·simp
 ·unfold Lib.itoa
  rw [if_neg (by omega)]
  exact C26 9 n.toNat (by omega)
theorem B66 (a n:Int):(J0 a n).length≤21:=by
 have:=x1 a;have:=x1 (a+1);have:=x1 n
 unfold J0
 split
 ·simp
 ·split
  ·simp only [K96,K99,L02];omega
  ·split
   ·omega
   ·simp only [K96,K99,L02];omega
theorem dig8 (k:Nat) (h:k < 8):(digs8.drop k).take 1=[UInt8.ofNat (48+k)]:=by
 have:∀k:Fin 8,(digs8.drop k.1).take 1=[UInt8.ofNat (48+k.1)]:=by decide
 exact this ⟨k,h⟩
theorem A54 (c:UInt8):G03 c=[UInt8.ofNat (48+c.toNat / 64),UInt8.ofNat (48+c.toNat / 8 % 8),UInt8.ofNat (48+c.toNat % 8)]:=by
 have:=c.toNat_lt
 unfold G03
 rw [dig8 _ (by omega),dig8 _ (by omega),dig8 _ (by omega)];rfl
def escs (s:Str) (i:Nat):Str:=((s.take i).map U1).flatten
theorem J59 (s:Str) (i:Nat) (h:i < s.length):escs s (i+1)=escs s i++U1 s[i]:=by
 unfold escs;rw [L06 h,L14,L28];simp only [L04,L36,L16,L46,L21]
theorem K26 (s:Str) (i:Nat) (h:i≤s.length):(escs s i).length≤4*i:=by
 have:=C98 (s.take i);unfold escs;rw [L08] at this;omega
def plains (s:Str) (i:Nat):Bool:=decide (s≠[])&&(s.take i).all R9
theorem H52 (s:Str):plains s 0=decide (s≠[]):=by simp [plains]
theorem H53 (s:Str) (i:Nat) (h:i < s.length):plains s (i+1)=(plains s i&&R9 s[i]):=by
 unfold plains;rw [L06 h,L45];simp only [List.all_cons,List.all_nil,Bool.and_true,Bool.and_assoc]
theorem E86 (s:Str):I9 s=if plains s s.length=true then s else (34::escs s s.length)++[34]:=by
 unfold I9 plains escs
 rw [L27]
 simp only [K98,decide_eq_true_eq,L23]
end Go.AL
namespace Go.AL
open Go
def M7 (cur:Str):Str→List Str
 | []=>[cur]
 | c::r=>if c=10 then (cur++[c])::M7 [] r else M7 (cur++[c]) r
def Q2 (b:Str):List Str:=M7 [] b
theorem F61 (a cur:Str) (h:(10:UInt8)∉a):M7 cur a=[cur++a]:=by
 induction a generalizing cur with
 | nil=>simp [M7]
 | cons c r ih =>
  simp only [L22,not_or] at h
  rw [M7,if_neg (fun e=>h.1 e.symm),ih _ h.2];simp
theorem G73 (a b cur:Str) (h:(10:UInt8)∉a):M7 cur (a++10::b)=(cur++a++[10])::M7 [] b:=by
 induction a generalizing cur with
 | nil=>simp [M7]
 | cons c r ih =>
  simp only [L22,not_or] at h
  rw [L23,M7,if_neg (fun e=>h.1 e.symm),ih _ h.2];simp
theorem Y6 (s cur:Str):(M7 cur s).length=s.count 10+1:=by
 induction s generalizing cur with
 | nil=>rfl
 | cons c r ih =>
  by_cases hc:c=10
  ·subst hc;rw [M7,if_pos rfl,K99,ih,List.count_cons_self]
  ·rw [M7,if_neg hc,ih,List.count_cons_of_ne hc]
theorem H54 (s cur:Str):F7 cur s=if (M7 cur s).getLastD []=[] then (M7 cur s).dropLast else M7 cur s:=by
 induction s generalizing cur with
 | nil=>by_cases h:cur=[]<;>simp [F7,M7,h]
 | cons c r ih =>
  rw [F7,M7]
  by_cases hc:c=10
  ·rw [if_pos hc,if_pos hc,ih]
   have hn:M7 [] r≠[]:=fun e=>by have:=Y6 r [];rw [e] at this;simp at this
   obtain ⟨x,y,hxy⟩:=List.exists_cons_of_ne_nil hn
   rw [hxy]
   have e1:((cur++[c])::x::y).getLastD []=(x::y).getLastD []:=by cases y<;>simp [List.getLastD]
   rw [e1]
   split
   ·rfl
   ·rfl
  ·rw [if_neg hc,if_neg hc,ih]
theorem E87 (s cur:Str):(F7 cur s).length=s.count 10+if s=[] then (if cur=[] then 0 else 1) else if ended s=true then 0 else 1:=by
 induction s generalizing cur with
 | nil=>by_cases h:cur=[]<;>simp [F7,h]
 | cons c r ih =>
  have he:ended (c::r)=if r=[] then c == 10 else ended r:=by
   cases r with
   | nil=>simp [ended]
   | cons d t=>simp [ended,List.getLast?_cons_cons]
  rw [F7,if_neg (List.cons_ne_nil _ _),he]
  by_cases hc:c=10
  ·subst hc
   rw [if_pos rfl,K99,ih,List.count_cons_self]
   by_cases hr:r=[]<;>simp [hr]
   omega
  ·rw [if_neg hc,ih,List.count_cons_of_ne hc]
   by_cases hr:r=[]<;>simp [hr,hc]
theorem C27 (s:Str):(C3 s).length=s.count 10+if s≠[]∧ended s=false then 1 else 0:=by
 unfold C3
 rw [E87]
 by_cases hs:s=[]<;>simp [hs]
 cases ended s<;>simp
theorem I40 {P:List Str} {i:Nat} {r a b:Str} (h:P.drop i=Q2 r) (hr:r=a++10::b) (ha:(10:UInt8)∉a):P[i]?=some (a++[10])∧P.drop (i+1)=Q2 b:=by
 have e:Q2 r=(a++[10])::Q2 b:=by rw [hr];unfold Q2;rw [G73 _ _ _ ha];rfl
 rw [e] at h
 refine ⟨by rw [←List.head?_drop,h];rfl,?_⟩
 rw [←List.tail_drop,h];rfl
theorem A24 {α:Type} (P:List α) (z x:α) (i:Nat) (h:P[i]?=some x):(P.take i++List.replicate (P.length - i) z).set i x=P.take (i+1)++List.replicate (P.length - (i+1)) z:=by
 obtain ⟨hi,hx⟩:=List.getElem?_eq_some_iff.1 h
 have hl:(P.take i).length=i:=by rw [L08];omega
 rw [List.set_append_right _ _ (by omega),hl,L51,show P.length - i=(P.length - (i+1))+1 by omega,List.replicate_succ,List.set_cons_zero,L06 hi,hx,L09]
 rfl
def B95 (b:Str):List Str × Int:=if b.length > 1048576∨(C3 b).length > 4096 then ([],1) else (C3 b,0)
end Go.AL
namespace Go.AL
open Go
def L9 (n:Int):Prop:=0≤n∧n≤4096
instance (n:Int):Decidable (L9 n):=by unfold L9;exact inferInstance
def G74 (k:Nat) (i j:Int) (c:Change):Prop:=((((((¬L9 c.Old∨¬L9 c.OldLen)∨¬L9 c.New)∨¬L9 c.NewLen)∨c.OldLen+c.NewLen=0)∨c.Old - i≠c.New - j)∨c.Old < i)∨(0 < (k:Int)∧c.Old=i)
instance (k:Nat) (i j:Int) (c:Change):Decidable (G74 k i j c):=by unfold G74;exact inferInstance
def K5 (k:Nat) (i j:Int):List Change→Int→Int→Bool
 | [],m,n=>decide (¬(m - i≠n - j∨m < i))
 | c::r,m,n=>decide (¬G74 k i j c)&&K5 (k+1) (c.Old+c.OldLen) (c.New+c.NewLen) r m n
def check8 (l:List Change) (m n:Int):Int:=if ¬L9 m∨¬L9 n then 80 else if K5 0 0 0 l m n=true then 0 else 80
def ScOk (i j:Int):List Change→Int→Int→Prop
 | [],m,n=>i≤m∧j≤n
 | c::r,m,n=>L9 c.Old∧L9 c.OldLen∧L9 c.New∧L9 c.NewLen∧i≤c.Old∧j≤c.New∧ScOk (c.Old+c.OldLen) (c.New+c.NewLen) r m n
theorem A55:∀(l:List Change) (k:Nat) (i j m n:Int),K5 k i j l m n=true→ScOk i j l m n
 | [],k,i,j,m,n,h=>by simp only [K5,decide_eq_true_eq] at h;simp only [ScOk];omega
 | c::r,k,i,j,m,n,h=>by
  simp only [K5,K98,decide_eq_true_eq] at h
  obtain ⟨h1,h2⟩:=h
  unfold G74 at h1
  refine ⟨?_,?_,?_,?_,?_,?_,A55 r _ _ _ m n h2⟩
  all_goals (by_cases a1:L9 c.Old<;>by_cases a2:L9 c.OldLen<;>by_cases a3:L9 c.New<;>by_cases a4:L9 c.NewLen<;>simp [a1,a2,a3,a4] at h1 ⊢<;>omega)
def cAt (l:List Change) (k:Nat):Change:=l.getD k ⟨0,0,0,0⟩
theorem ScOk.end_le:∀{l:List Change} {i j m n:Int},ScOk i j l m n→i≤m∧j≤n
 | [],_,_,_,_,h=>h
 | c::r,i,j,m,n,⟨h1,h2,h3,h4,h5,h6,h7⟩=>by have:=h7.end_le;unfold L9 at *;omega
theorem ScOk.get:∀{l:List Change} {i j m n:Int} (k:Nat),ScOk i j l m n→k < l.length→L9 (cAt l k).Old∧L9 (cAt l k).OldLen∧L9 (cAt l k).New∧L9 (cAt l k).NewLen∧(cAt l k).Old+(cAt l k).OldLen≤m∧(cAt l k).New+(cAt l k).NewLen≤n
 | c::r,i,j,m,n,0,⟨h1,h2,h3,h4,h5,h6,h7⟩,_=>by have:=h7.end_le;exact ⟨h1,h2,h3,h4,this.1,this.2⟩
 | c::r,i,j,m,n,k+1,⟨h1,h2,h3,h4,h5,h6,h7⟩,hk=>by
  have:=h7.get k (by simpa using hk)
  simpa [cAt] using this
theorem ScOk.next:∀{l:List Change} {i j m n:Int} (k:Nat),ScOk i j l m n→k+1 < l.length→(cAt l k).Old+(cAt l k).OldLen≤(cAt l (k+1)).Old
 | [c],_,_,_,_,_,_,hk=>by simp at hk
 | c::c2::r,i,j,m,n,0,⟨_,_,_,_,_,_,h7⟩,_=>by simpa [cAt] using h7.2.2.2.2.1
 | c::c2::r,i,j,m,n,k+1,⟨_,_,_,_,_,_,h7⟩,hk=>by
  have:=h7.next k (by simpa using hk)
  simpa [cAt] using this
theorem ScOk.mono {l:List Change} {m n:Int} (h:ScOk 0 0 l m n):∀(a b:Nat),a≤b→b < l.length→(cAt l a).Old≤(cAt l b).Old∧(cAt l a).Old+(cAt l a).OldLen≤(cAt l b).Old+(cAt l b).OldLen
 | a,0,h1,h2=>by rw [show a=0 by omega];omega
 | a,b+1,h1,h2=>by
  by_cases hab:a=b+1
  ·subst hab;omega
  ·have h3:=h.mono a b (by omega) (by omega)
   have h4:=h.next b h2
   have h5:=h.get b (by omega)
   have h6:=h.get (b+1) h2
   unfold L9 at *;omega
def G75 (a b:Int):Int:=if b < a then b else a
def opens (l:List Change) (ctx:Int) (k:Nat):Prop:=k=0∨2*ctx < (cAt l k).Old - (cAt l (k - 1)).Old - (cAt l (k - 1)).OldLen
instance (l:List Change) (ctx:Int) (k:Nat):Decidable (opens l ctx k):=by unfold opens;exact inferInstance
def I90:Hunk:=⟨0,0,⟨0,0⟩,⟨0,0⟩⟩
def A83 (l:List Change) (ctx:Int) (k:Nat):Hunk:=⟨k,0,⟨(cAt l k).Old - G75 ctx (cAt l k).Old,0⟩,⟨(cAt l k).New - G75 ctx (cAt l k).Old,0⟩⟩
def C99 (l:List Change) (m ctx:Int) (k:Nat) (h:Hunk):Hunk :=
 let c:=cAt l k
 let a:=G75 ctx (m - (c.Old+c.OldLen))
 ⟨h.First,k+1,⟨h.Old.From,c.Old+c.OldLen+a⟩,⟨h.New.From,c.New+c.NewLen+a⟩⟩
def D48 (l:List Change) (ctx:Int) (k:Nat) (out:List Hunk):List Hunk:=if opens l ctx k then out++[A83 l ctx k] else out
def X3 (l:List Change) (m ctx:Int):Nat→List Hunk
 | 0=>[]
 | k+1=>let out:=D48 l ctx k (X3 l m ctx k);out.set (out.length - 1) (C99 l m ctx k (out.getD (out.length - 1) I90))
theorem D86 (l:List Change) (m ctx:Int):∀k,(X3 l m ctx k).length≤k∧(0 < k→0 < (X3 l m ctx k).length)
 | 0=>by simp [X3]
 | k+1=>by
  have h:=D86 l m ctx k
  simp only [X3,L49,D48]
  split
  ·simp only [K96,K99,L02];omega
  ·rename_i ho
   have:k≠0:=fun e=>ho (.inl e)
   omega
end Go.AL
namespace Go.AL
open Go
def V2 (s:Str):Bool:=decide (1≤s.length∧s.length≤200)
def G5 (ls:List PatchLine) (k:UInt8):List Str:=(ls.filter (fun x=>decide (x.Kind≠k))).map (·.Text)
def badLn (x:PatchLine):Prop:=((x.Kind≠32∧x.Kind≠45)∧x.Kind≠43)∨J7 x.Text=false
instance (x:PatchLine):Decidable (badLn x):=by unfold badLn;exact inferInstance
def C49 (x:PatchLine):Bool:=decide (¬badLn x)
def A70 (ls:List PatchLine):Bool:=ls.any (fun x=>decide (x.Kind≠32))
def D00 (some:Bool) (i j:Int) (h:PatchHunk):Prop:=((((some=false∨h.Old < i)∨h.New < j)∨4096 < h.Old)∨4096 < h.New)∨h.Old - i≠h.New - j
instance (s:Bool) (i j:Int) (h:PatchHunk):Decidable (D00 s i j h):=by unfold D00;exact inferInstance
def A84 (h:PatchHunk):Int:=(G5 h.Lines 43).length
def A85 (h:PatchHunk):Int:=(G5 h.Lines 45).length
def D49 (i j:Int):List PatchHunk→Bool
 | []=>true
 | h::r=>h.Lines.all C49&&(decide (¬D00 (A70 h.Lines) i j h)&&(decide (¬(4096 < h.Old+A84 h∨4096 < h.New+A85 h))&&D49 (h.Old+A84 h) (h.New+A85 h) r))
def M4 (hs:List PatchHunk) (k:UInt8):List Str:=(hs.map (fun h=>G5 h.Lines k)).flatten
def R2:List Str→Bool
 | []=>true
 | x::r=>(r.isEmpty||ended x)&&R2 r
def I41 (hs:List PatchHunk) (k:UInt8):Bool:=R2 (M4 hs k)
def D50 (hs:List PatchHunk):Bool:=D49 0 0 hs&&(I41 hs 43&&I41 hs 45)
def markS:Str:=[10,92,32,78,111,32,110,101,119,108,105,110,101,32,97,116,32,101,110,100,32,111,102,32,102,105,108,101,10]
def linePs (x:PatchLine):List Str:=if ended x.Text then [[x.Kind]++x.Text] else [[x.Kind]++x.Text,markS]
def headW (h:PatchHunk):Str:=[64,64,32,45]++J0 h.Old (A84 h)++[32,43]++J0 h.New (A85 h)++[32,64,64,10]
def hunkPs (h:PatchHunk):List Str:=headW h::(h.Lines.map linePs).flatten
def namePs (p:Patch):List Str:=[[45,45,45,32]++I9 p.OldName++[10],[43,43,43,32]++I9 p.NewName++[10]]
def writePs (p:Patch):List Str:=namePs p++(p.Hunks.map hunkPs).flatten
def I91 (p:Patch):Str:=(writePs p).flatten
def D01 (p:Patch):Int:=if V2 p.OldName=false∨V2 p.NewName=false then 120 else if D50 p.Hunks=false then 121 else if 16777216 < (I91 p).length then 1 else 0
def szL (x:PatchLine):Nat:=x.Text.length+64
def szH (h:PatchHunk):Nat:=64+(h.Lines.map szL).sum
def szP (hs:List PatchHunk):Nat:=(hs.map szH).sum
structure PFit (p:Patch):Prop where
 old:p.OldName.length≤4194304
 new:p.NewName.length≤4194304
 hunks:szP p.Hunks≤268435456
theorem szL_len (ls:List PatchLine):64*ls.length≤(ls.map szL).sum:=by
 induction ls with
 | nil=>simp
 | cons x r ih=>simp only [L04,L29,K99,szL];omega
end Go.AL
namespace Go.AL
open Go
def A56 (k:UInt8) (ts:List Str):List PatchLine:=ts.map fun t=>⟨k,t⟩
def sub (x:List Str) (a b:Int):List Str:=(x.drop a.toNat).take (b.toNat - a.toNat)
def B35 (c:Change):Int:=c.Old+c.OldLen
def A57 (l:List Change) (i0:Int) (a t:Nat):Int:=if t=0 then i0 else B35 (cAt l (a+t - 1))
theorem I42 (l:List Change) (i0:Int) (a t:Nat):A57 l i0 a (t+1)=B35 (cAt l (a+t)):=by
 unfold A57;rw [if_neg (by omega)];congr 2
def A06 (l:List Change) (x y:List Str) (i0:Int) (a:Nat):Nat→List PatchLine
 | 0=>[]
 | t+1=>A06 l x y i0 a t++A56 32 (sub x (A57 l i0 a t) (cAt l (a+t)).Old)++A56 45 (sub x (cAt l (a+t)).Old (B35 (cAt l (a+t))))++A56 43 (sub y (cAt l (a+t)).New ((cAt l (a+t)).New+(cAt l (a+t)).NewLen))
def X4 (l:List Change) (x y:List Str) (h:Hunk):PatchHunk :=
 ⟨h.Old.From,h.New.From,A06 l x y h.Old.From h.First.toNat (h.Last.toNat - h.First.toNat)++A56 32 (sub x (A57 l h.Old.From h.First.toNat (h.Last.toNat - h.First.toNat)) h.Old.To)⟩
end Go.AL
namespace Go.AL
open Go
end Go.AL
namespace Go.AL
open Go
def H55 (i j:Int) (h:PatchHunk):Prop:=((((h.Old < 0∨h.New < 0)∨4096 < h.Old)∨4096 < h.New)∨h.Old < i)∨h.Old - i≠h.New - j
instance (i j:Int) (h:PatchHunk):Decidable (H55 i j h):=by unfold H55;exact inferInstance
end Go.AL
namespace Go.AL
open Go
theorem textsLen_le (rows:List Row) (B:Nat) (h:∀r∈rows,r.Text.length≤B):V7 rows≤rows.length*B:=by
 unfold V7
 induction rows with
 | nil=>simp
 | cons r rs ih =>
  have h1:=ih fun x hx=>h x (by simp [hx])
  have h2:=h r (by simp)
  simp only [L04,L16,K96,K99,L20,Nat.one_mul]
  omega
theorem H56 (b s:Str) (h:s∈C3 b):s.length≤b.length:=by
 have h1:(C3 b).flatten=b:=by
  have key:∀(s cur:Str),(F7 cur s).flatten=cur++s:=by
   intro s
   induction s with
   | nil=>intro cur;unfold F7;split<;>simp [*]
   | cons c r ih=>intro cur;unfold F7;split<;>simp [ih]
  exact key b []
 have h2:∀(l:List Str),s∈l→s.length≤l.flatten.length:=by
  intro l
  induction l with
  | nil=>intro h;cases h
  | cons x r ih =>
   intro h
   rcases List.mem_cons.1 h with rfl | h
   ·simp
   ·have:=ih h;simp only [L16,K96];omega
 have:=h2 _ h;rw [h1] at this;exact this
end Go.AL
namespace Go.AL
open Go
theorem E20 {x:List Str} {a b:Int} {s:Str} (h:s∈sub x a b):s∈x:=by
 unfold sub at h
 exact List.mem_of_mem_drop (List.mem_of_mem_take h)
end Go.AL
namespace Go.AL
open Go
end Go.AL
namespace Go.AL
open Go
def G76 (c:Change):Int:=c.New+c.NewLen
def eoI (i:Int) (l:List Change) (k:Nat):Int:=if k=0 then i else B35 (cAt l (k - 1))
def enI (j:Int) (l:List Change) (k:Nat):Int:=if k=0 then j else G76 (cAt l (k - 1))
theorem y9 (i:Int) (c:Change) (r:List Change) (k:Nat):eoI i (c::r) (k+1)=eoI (B35 c) r k:=by
 cases k<;>rfl
theorem z6 (j:Int) (c:Change) (r:List Change) (k:Nat):enI j (c::r) (k+1)=enI (G76 c) r k:=by
 cases k<;>rfl
theorem B67 (i:Int) (l:List Change) (k:Nat):eoI i l (k+1)=B35 (cAt l k):=rfl
theorem B68 (j:Int) (l:List Change) (k:Nat):enI j l (k+1)=G76 (cAt l k):=rfl
theorem D02 (c:Change) (r:List Change) (k:Nat):cAt (c::r) (k+1)=cAt r k:=rfl
def D51 (x y:List Str) (i j:Int):List Change→Prop
 | []=>sub x i x.length=sub y j y.length
 | c::r=>sub x i c.Old=sub y j c.New∧D51 x y (B35 c) (G76 c) r
theorem A07 (m n:Int):∀(l:List Change) (k0:Nat) (i j:Int),K5 k0 i j l m n=true→∀k,k < l.length →
  L9 (cAt l k).Old∧L9 (cAt l k).OldLen∧L9 (cAt l k).New∧L9 (cAt l k).NewLen∧(cAt l k).OldLen+(cAt l k).NewLen≠0∧(cAt l k).Old - eoI i l k=(cAt l k).New - enI j l k∧eoI i l k≤(cAt l k).Old∧(0 < k0+k→eoI i l k < (cAt l k).Old)
 | [],_,_,_,_,k,hk=>by simp at hk
 | c :: r,k0,i,j,h,k,hk=>by
  simp only [K5,K98,decide_eq_true_eq] at h
  obtain ⟨h1,h2⟩:=h
  cases k with
  | zero =>
   unfold G74 at h1
   show L9 c.Old∧L9 c.OldLen∧L9 c.New∧L9 c.NewLen∧c.OldLen+c.NewLen≠0∧c.Old - i=c.New - j∧i≤c.Old∧(0 < k0+0→i < c.Old)
   have d1:L9 c.Old:=by by_cases q:L9 c.Old;exact q;exact absurd (.inl (.inl (.inl (.inl (.inl (.inl (.inl q))))))) h1
   have d2:L9 c.OldLen:=by by_cases q:L9 c.OldLen;exact q;exact absurd (.inl (.inl (.inl (.inl (.inl (.inl (.inr q))))))) h1
   have d3:L9 c.New:=by by_cases q:L9 c.New;exact q;exact absurd (.inl (.inl (.inl (.inl (.inl (.inr q)))))) h1
   have d4:L9 c.NewLen:=by by_cases q:L9 c.NewLen;exact q;exact absurd (.inl (.inl (.inl (.inl (.inr q))))) h1
   refine ⟨d1,d2,d3,d4,fun q=>h1 (.inl (.inl (.inl (.inr q)))),?_,?_,fun h0=>?_⟩
   ·by_cases q:c.Old - i=c.New - j
    ·exact q
    ·exact absurd (.inl (.inl (.inr q))) h1
   ·by_cases q:c.Old < i
    ·exact absurd (.inl (.inr q)) h1
    ·omega
   ·by_cases q:c.Old < i
    ·exact absurd (.inl (.inr q)) h1
    ·by_cases q2:c.Old=i
     ·exact absurd (.inr ⟨by omega,q2⟩) h1
     ·omega
  | succ k =>
   have:=A07 m n r (k0+1) _ _ h2 k (by simpa using hk)
   rw [D02,y9,z6]
   obtain ⟨e1,e2,e3,e4,e5,e6,e7,e8⟩:=this
   exact ⟨e1,e2,e3,e4,e5,e6,e7,fun h0=>e8 (by omega)⟩
theorem G77 (m n:Int):∀(l:List Change) (k0:Nat) (i j:Int),K5 k0 i j l m n=true→m - eoI i l l.length=n - enI j l l.length∧eoI i l l.length≤m
 | [],_,i,j,h=>by
  simp only [K5,decide_eq_true_eq] at h
  show m - i=n - j∧i≤m
  omega
 | c::r,k0,i,j,h=>by
  simp only [K5,K98,decide_eq_true_eq] at h
  rw [K99,y9,z6]
  exact G77 m n r _ _ _ h.2
theorem E88 (x y:List Str):∀(l:List Change) (i j:Int),D51 x y i j l→∀k,k < l.length→sub x (eoI i l k) (cAt l k).Old=sub y (enI j l k) (cAt l k).New
 | [],_,_,_,k,hk=>by simp at hk
 | c::r,i,j,h,k,hk=>by
  cases k with
  | zero=>exact h.1
  | succ k=>rw [y9,z6,D02];exact E88 x y r _ _ h.2 k (by simpa using hk)
theorem G78 (x y:List Str):∀(l:List Change) (i j:Int),D51 x y i j l→sub x (eoI i l l.length) x.length=sub y (enI j l l.length) y.length
 | [],_,_,h=>h
 | c::r,i,j,h=>by rw [K99,y9,z6];exact G78 x y r _ _ h.2
def mkH (l:List Change) (m ctx:Int) (a b:Nat):Hunk:=C99 l m ctx (b - 1) (A83 l ctx a)
def GrOk (l:List Change) (m ctx:Int):Nat→List Hunk→Nat→Prop
 | a,[],k=>a=k
 | a,h::r,k=>∃b,a < b∧opens l ctx a∧h=mkH l m ctx a b∧GrOk l m ctx b r k
theorem GrOk.le {l:List Change} {m ctx:Int}:∀{hs:List Hunk} {a k:Nat},GrOk l m ctx a hs k→a≤k
 | [],a,k,h=>Nat.le_of_eq h
 | _::_,a,k,⟨b,h1,_,_,h2⟩=>by have:=GrOk.le h2;omega
theorem GrOk.snoc {l:List Change} {m ctx:Int} {k:Nat} (ho:opens l ctx k):∀{hs:List Hunk} {a:Nat},GrOk l m ctx a hs k→GrOk l m ctx a (hs++[mkH l m ctx k (k+1)]) (k+1)
 | [],a,h=>by
  obtain rfl:a=k:=h
  exact ⟨a+1,by omega,ho,rfl,rfl⟩
 | _::_,a,⟨b,h1,h2,h3,h4⟩=>⟨b,h1,h2,h3,GrOk.snoc ho h4⟩
theorem GrOk.last {l:List Change} {m ctx:Int} {k:Nat}:∀{hs:List Hunk} {a:Nat},GrOk l m ctx a hs k→hs≠[]→GrOk l m ctx a (hs.set (hs.length - 1) (C99 l m ctx k (hs.getD (hs.length - 1) I90))) (k+1)
 | [],_,_,h0=>absurd rfl h0
 | [h],a,⟨b,h1,h2,h3,h4⟩,_=>by
  obtain rfl:b=k:=h4
  subst h3
  exact ⟨b+1,by omega,h2,rfl,rfl⟩
 | h::h'::r,a,⟨b,h1,h2,h3,h4⟩,_=>by
  have ih:=GrOk.last h4 (by simp)
  refine ⟨b,h1,h2,h3,?_⟩
  simpa using ih
theorem B10 (l:List Change) (m ctx:Int):∀k,GrOk l m ctx 0 (X3 l m ctx k) k
 | 0=>rfl
 | k+1=>by
  have ih:=B10 l m ctx k
  have hne:=(D86 l m ctx k).2
  simp only [X3,D48]
  by_cases ho:opens l ctx k
  ·rw [if_pos ho]
   have e:(X3 l m ctx k++[A83 l ctx k]).set ((X3 l m ctx k++[A83 l ctx k]).length - 1) (C99 l m ctx k ((X3 l m ctx k++[A83 l ctx k]).getD ((X3 l m ctx k++[A83 l ctx k]).length - 1) I90))=X3 l m ctx k++[mkH l m ctx k (k+1)]:=by
    simp [mkH]
   rw [e]
   exact ih.snoc ho
  ·rw [if_neg ho]
   refine ih.last ?_
   have:k≠0:=fun e=>ho (.inl e)
   have:=hne (by omega)
   intro e;rw [e] at this;simp at this
theorem B11 (x:List Str) {a b c:Int} (h0:0≤a) (h1:a≤b) (h2:b≤c):sub x a b++sub x b c=sub x a c:=by
 unfold sub
 obtain ⟨u,rfl⟩:∃u:Nat,(u:Int)=a:=⟨a.toNat,by omega⟩
 obtain ⟨v,rfl⟩:∃v:Nat,(v:Int)=b:=⟨b.toNat,by omega⟩
 obtain ⟨w,rfl⟩:∃w:Nat,(w:Int)=c:=⟨c.toNat,by omega⟩
 simp only [L01]
 have h3:x.drop v=(x.drop u).drop (v - u):=by rw [List.drop_drop];congr 1;omega
 rw [h3,show w - u=(v - u)+(w - v) by omega,List.take_add]
theorem I92 (x:List Str) (a:Int):sub x a a=[]:=by simp [sub]
theorem B12 (x:List Str) {a b:Int} (h0:0≤a) (h1:a≤b) (h2:b≤x.length):((sub x a b).length:Int)=b - a:=by
 unfold sub;rw [L08,L05];omega
theorem B69 {x y:List Str} {p q p' q' e:Int} (h:sub x p q=sub y p' q') (h0:0≤p) (h0':0≤p') (he:0≤e) (h1:e≤q - p) (h2:q - p=q' - p'):sub x (q - e) q=sub y (q' - e) q':=by
 have key:∀(z:List Str) (a b:Int),0≤a→e≤b - a→sub z (b - e) b=(sub z a b).drop (b - a - e).toNat:=by
  intro z a b ha hb
  unfold sub
  rw [List.drop_take,List.drop_drop]
  congr 1
  ·omega
  ·congr 1;omega
 rw [key x p q h0 h1,key y p' q' h0' (by omega),h,h2]
theorem E89 {x y:List Str} {p q p' q' e:Int} (h:sub x p q=sub y p' q') (h0:0≤p) (h0':0≤p') (he:0≤e) (h1:e≤q - p) (h2:q - p=q' - p'):sub x p (p+e)=sub y p' (p'+e):=by
 have key:∀(z:List Str) (a b:Int),0≤a→e≤b - a→sub z a (a+e)=(sub z a b).take e.toNat:=by
  intro z a b ha hb
  unfold sub
  rw [List.take_take]
  congr 1
  omega
 rw [key x p q h0 h1,key y p' q' h0' (by omega),h]
theorem B13 (p q:List PatchLine) (k:UInt8):G5 (p++q) k=G5 p k++G5 q k:=by simp [G5]
theorem B14 (k k':UInt8) (ts:List Str):G5 (A56 k ts) k'=if k=k' then [] else ts:=by
 unfold G5 A56
 by_cases h:k=k'
 ·rw [if_pos h];subst h
  simp [List.filter_eq_nil_iff]
 ·rw [if_neg h]
  rw [List.filter_eq_self.2 (by simp [h])]
  simp [Function.comp_def]
structure ScFit (x y:List Str) (l:List Change):Prop where
 lx:(x.length:Int)≤4096
 ly:(y.length:Int)≤4096
 sc:K5 0 0 0 l x.length y.length=true
 eq:D51 x y 0 0 l
section
variable {x y:List Str} {l:List Change}
theorem ScFit.ok (h:ScFit x y l):ScOk 0 0 l x.length y.length:=A55 _ _ _ _ _ _ h.sc
theorem ScFit.check (h:ScFit x y l):check8 l x.length y.length=0:=by
 have h1:=h.lx
 have h2:=h.ly
 unfold check8
 rw [if_neg (by unfold L9;omega),if_pos h.sc]
theorem ScFit.nn (h:ScFit x y l) (k:Nat) (hk:k≤l.length):0≤eoI 0 l k∧0≤enI 0 l k∧eoI 0 l k≤x.length∧enI 0 l k≤y.length:=by
 cases k with
 | zero=>exact ⟨Int.le_refl _,Int.le_refl _,Int.natCast_nonneg _,Int.natCast_nonneg _⟩
 | succ k =>
  obtain ⟨⟨a1,a2⟩,⟨b1,b2⟩,⟨c1,c2⟩,⟨d1,d2⟩,h5,h6⟩:=h.ok.get k (by omega)
  rw [B67,B68];unfold B35 G76
  omega
def eA (l:List Change) (ctx:Int) (a:Nat):Int:=G75 ctx (cAt l a).Old
def eB (l:List Change) (m ctx:Int) (b:Nat):Int:=G75 ctx (m - eoI 0 l b)
theorem I93 {a b:Int} (h:0≤a) (h':0≤b):0≤G75 a b∧G75 a b≤a∧G75 a b≤b:=by unfold G75;split<;>omega
theorem B96 {ctx:Int} {a:Nat} (ho:opens l ctx a) (ha:a≠0):2*ctx < (cAt l a).Old - eoI 0 l a:=by
 rcases ho with h | h
 ·exact absurd h ha
 ·unfold eoI;rw [if_neg ha];unfold B35;omega
theorem ScFit.before (h:ScFit x y l) {ctx:Int} (hc:0≤ctx) {a:Nat} (ha:a < l.length) (ho:opens l ctx a) :
  0≤eA l ctx a∧eA l ctx a≤ctx∧eA l ctx a≤(cAt l a).Old - eoI 0 l a:=by
 obtain ⟨⟨a1,a2⟩,_⟩:=h.ok.get a ha
 have h3:=I93 hc a1
 unfold eA
 by_cases h0:a=0
 ·subst h0
  show _∧_∧_≤(cAt l 0).Old - 0
  omega
 ·have:=B96 ho h0;omega
theorem ScFit.after (h:ScFit x y l) {ctx:Int} (hc:0≤ctx) {b:Nat} (hb:b≤l.length) (ho:b < l.length→opens l ctx b) (hb0:b≠0) :
  0≤eB l x.length ctx b∧eB l x.length ctx b≤ctx∧eoI 0 l b+eB l x.length ctx b≤x.length∧enI 0 l b+eB l x.length ctx b≤y.length ∧
   sub x (eoI 0 l b) (eoI 0 l b+eB l x.length ctx b)=sub y (enI 0 l b) (enI 0 l b+eB l x.length ctx b):=by
 obtain ⟨h1,h2,h3,h4⟩:=h.nn b hb
 have h5:=I93 hc (show 0≤(x.length:Int) - eoI 0 l b by omega)
 unfold eB
 rcases Nat.lt_or_ge b l.length with hlt | hge
 ·obtain ⟨g1,g2,g3,g4,g5,g6,g7,g8⟩:=A07 _ _ _ _ _ _ h.sc b hlt
  obtain ⟨⟨a1,a2⟩,⟨b1,b2⟩,⟨c1,c2⟩,⟨d1,d2⟩,k5,k6⟩:=h.ok.get b hlt
  have hg:=B96 (ho hlt) hb0
  refine ⟨h5.1,h5.2.1,by omega,by omega,E89 (E88 x y l 0 0 h.eq b hlt) h1 h2 h5.1 (by omega) (by omega)⟩
 ·have e:b=l.length:=by omega
  subst e
  obtain ⟨g1,g2⟩:=G77 _ _ _ _ _ _ h.sc
  refine ⟨h5.1,h5.2.1,by omega,by omega,E89 (G78 x y l 0 0 h.eq) h1 h2 h5.1 (by omega) (by omega)⟩
def G79 (l:List Change) (j0:Int) (a t:Nat):Int:=if t=0 then j0 else G76 (cAt l (a+t - 1))
theorem E90 (i0:Int) (a t:Nat) (ht:t≠0):A57 l i0 a t=eoI 0 l (a+t):=by
 unfold A57 eoI;rw [if_neg ht,if_neg (by omega)]
theorem I94 (j0:Int) (a t:Nat) (ht:t≠0):G79 l j0 a t=enI 0 l (a+t):=by
 unfold G79 enI;rw [if_neg ht,if_neg (by omega)]
theorem ScFit.made (h:ScFit x y l) {ctx:Int} (hc:0≤ctx) {a:Nat} (ho:opens l ctx a):∀t,a+t≤l.length→(t=0→a < l.length) →
  G5 (A06 l x y ((cAt l a).Old - eA l ctx a) a t) 43=sub x ((cAt l a).Old - eA l ctx a) (A57 l ((cAt l a).Old - eA l ctx a) a t) ∧
  G5 (A06 l x y ((cAt l a).Old - eA l ctx a) a t) 45=sub y ((cAt l a).New - eA l ctx a) (G79 l ((cAt l a).New - eA l ctx a) a t)
 | 0,_,_=>by
  unfold A57 G79
  rw [if_pos rfl,if_pos rfl,I92,I92]
  exact ⟨rfl,rfl⟩
 | t + 1,hl,_=>by
  have hlt:a+t < l.length:=by omega
  have hla:a < l.length:=by omega
  obtain ⟨ih1,ih2⟩:=ScFit.made h hc ho t (by omega) (fun _=>hla)
  obtain ⟨q1,q2,q3⟩:=h.before hc hla ho
  obtain ⟨p1,p2,p3,p4⟩:=h.nn (a+t) (by omega)
  obtain ⟨r1,r2,r3,r4⟩:=h.nn a (by omega)
  obtain ⟨g1,g2,g3,g4,g5,g6,g7,g8⟩:=A07 _ _ _ _ _ _ h.sc (a+t) hlt
  obtain ⟨k1,⟨k2,k2'⟩,k3,⟨k4,k4'⟩,k5,k6,k7,k8⟩:=A07 _ _ _ _ _ _ h.sc a hla
  obtain ⟨⟨a1,a2⟩,⟨b1,b2⟩,⟨c1,c2⟩,⟨d1,d2⟩,w5,w6⟩:=h.ok.get (a+t) hlt
  have hrun:sub x (A57 l ((cAt l a).Old - eA l ctx a) a t) (cAt l (a+t)).Old=sub y (G79 l ((cAt l a).New - eA l ctx a) a t) (cAt l (a+t)).New ∧
    (cAt l a).Old - eA l ctx a≤A57 l ((cAt l a).Old - eA l ctx a) a t∧A57 l ((cAt l a).Old - eA l ctx a) a t≤(cAt l (a+t)).Old ∧
    (cAt l a).New - eA l ctx a≤G79 l ((cAt l a).New - eA l ctx a) a t∧G79 l ((cAt l a).New - eA l ctx a) a t≤(cAt l (a+t)).New:=by
   have hrun:=E88 x y l 0 0 h.eq (a+t) hlt
   by_cases ht:t=0
   ·subst ht
    unfold A57 G79
    rw [if_pos rfl,if_pos rfl]
    rw [show a+0=a from rfl] at *
    exact ⟨B69 hrun r1 r2 q1 (by omega) (by omega),by omega,by omega,by omega,by omega⟩
   ·rw [E90 _ _ _ ht,I94 _ _ _ ht]
    have m1:=h.ok.mono a (a+t - 1) (by omega) (by omega)
    have m2:eoI 0 l (a+t)=(cAt l (a+t - 1)).Old+(cAt l (a+t - 1)).OldLen:=by unfold eoI;rw [if_neg (by omega)];rfl
    have m4:∀u,u≤t→(cAt l a).New≤enI 0 l (a+u)∨u=0:=by
     intro u
     induction u with
     | zero=>exact fun _=>.inr rfl
     | succ u ihu =>
      intro hu
      obtain ⟨e1,e2,⟨e3,e3'⟩,⟨e4,e4'⟩,e5,e6,e7,e8⟩:=A07 _ _ _ _ _ _ h.sc (a+u) (by omega)
      have e9:enI 0 l (a+(u+1))=(cAt l (a+u)).New+(cAt l (a+u)).NewLen:=rfl
      rcases ihu (by omega) with h' | h'
      ·left;omega
      ·left;subst h';rw [e9];show (cAt l a).New≤(cAt l a).New+(cAt l a).NewLen;exact Int.le_add_of_nonneg_right e4
    have m5:=(m4 t (Nat.le_refl _)).resolve_right ht
    refine ⟨hrun,by omega,by omega,by omega,by omega⟩
  obtain ⟨hr1,hr2,hr3,hr4,hr5⟩:=hrun
  simp (decide:=true) only [A06,B13,B14,ih1,ih2,if_true,if_false,L21]
  have e1:A57 l ((cAt l a).Old - eA l ctx a) a (t+1)=B35 (cAt l (a+t)):=I42 _ _ _ _
  have e2:G79 l ((cAt l a).New - eA l ctx a) a (t+1)=G76 (cAt l (a+t)):=rfl
  rw [e1,e2]
  have s0:0≤(cAt l a).Old - eA l ctx a:=by omega
  have s1:0≤(cAt l a).New - eA l ctx a:=by omega
  refine ⟨?_,?_⟩
  ·rw [B11 x s0 hr2 hr3,B11 x s0 (by omega) (by unfold B35;omega)]
  ·rw [hr1,B11 y s1 hr4 hr5]
   exact B11 y s1 (by omega) (by omega)
end
end Go.AL
namespace Go.AL
open Go
section
variable {x y:List Str} {l:List Change}
structure HunkIs (x y:List Str) (l:List Change) (ctx:Int) (a b:Nat) (h:PatchHunk):Prop where
 old:h.Old=(cAt l a).Old - eA l ctx a
 new:h.New=(cAt l a).New - eA l ctx a
 o0:0≤h.Old
 n0:0≤h.New
 oe:h.Old+A84 h=eoI 0 l b+eB l x.length ctx b
 ne:h.New+A85 h=enI 0 l b+eB l x.length ctx b
 ox:h.Old+A84 h≤x.length
 ny:h.New+A85 h≤y.length
 ol:G5 h.Lines 43=sub x h.Old (h.Old+A84 h)
 nl:G5 h.Lines 45=sub y h.New (h.New+A85 h)
 ch:A70 h.Lines=true
 gl:(∀s∈x,J7 s=true)→(∀s∈y,J7 s=true)→h.Lines.all C49=true
theorem E91 (p q:List PatchLine):A70 (p++q)=(A70 p||A70 q):=by simp [A70]
theorem E92 {k:UInt8} {ts:List Str} (hk:k≠32) (h:ts≠[]):A70 (A56 k ts)=true:=by
 cases ts with
 | nil=>exact absurd rfl h
 | cons t ts=>simp [A70,A56,hk]
theorem B15 {k:UInt8} {ts:List Str} (hk:k=32∨k=45∨k=43) (h:∀t∈ts,J7 t=true):(A56 k ts).all C49=true:=by
 rw [List.all_eq_true]
 intro q hq
 unfold A56 at hq
 obtain ⟨t,ht,rfl⟩:=List.mem_map.1 hq
 unfold C49
 refine decide_eq_true ?_
 rintro (⟨⟨h1,h2⟩,h3⟩ | h1)
 ·rcases hk with e | e | e
  ·exact h1 e
  ·exact h2 e
  ·exact h3 e
 ·rw [show (PatchLine.mk k t).Text=t from rfl,h t ht] at h1;cases h1
theorem D87 (hx:∀s∈x,J7 s=true) (hy:∀s∈y,J7 s=true) (i0:Int) (a:Nat):∀t,(A06 l x y i0 a t).all C49=true
 | 0=>rfl
 | t+1=>by
  simp only [A06,L45,D87 hx hy i0 a t,Bool.true_and,K98]
  exact ⟨⟨B15 (.inl rfl) (fun s hs=>hx s (E20 hs)),B15 (.inr (.inl rfl)) (fun s hs=>hx s (E20 hs))⟩,B15 (.inr (.inr rfl)) (fun s hs=>hy s (E20 hs))⟩
theorem ScFit.hunk (h:ScFit x y l) {ctx:Int} (hc:0≤ctx) {a b:Nat} (hab:a < b) (hb:b≤l.length) (ho:opens l ctx a) (hob:b < l.length→opens l ctx b) :
  HunkIs x y l ctx a b (X4 l x y (mkH l x.length ctx a b)):=by
 have hla:a < l.length:=by omega
 obtain ⟨q1,q2,q3⟩:=h.before hc hla ho
 obtain ⟨w1,w2,w3,w4,w5⟩:=h.after hc hb hob (by omega)
 obtain ⟨m1,m2⟩:=h.made hc ho (b - a) (by omega) (fun e=>by omega)
 rw [E90 _ _ _ (by omega)] at m1
 rw [I94 _ _ _ (by omega)] at m2
 rw [show a+(b - a)=b by omega] at m1 m2
 obtain ⟨r1,r2,r3,r4⟩:=h.nn a (by omega)
 obtain ⟨s1,s2,s3,s4⟩:=h.nn b hb
 obtain ⟨k1,⟨k2,k2'⟩,k3,⟨k4,k4'⟩,k5,k6,k7,k8⟩:=A07 _ _ _ _ _ _ h.sc a hla
 have hlb:b - 1 < l.length:=by omega
 obtain ⟨g1,⟨g2,g2'⟩,g3,⟨g4,g4'⟩,g5,g6,g7,g8⟩:=A07 _ _ _ _ _ _ h.sc (b - 1) hlb
 have eo:eoI 0 l b=(cAt l (b - 1)).Old+(cAt l (b - 1)).OldLen:=by unfold eoI;rw [if_neg (by omega)];rfl
 have en:enI 0 l b=(cAt l (b - 1)).New+(cAt l (b - 1)).NewLen:=by unfold enI;rw [if_neg (by omega)];rfl
 have mo:=h.ok.mono a (b - 1) (by omega) (by omega)
 have mn:(cAt l a).New≤enI 0 l b:=by
  have m4:∀u,a+u≤l.length→(cAt l a).New≤enI 0 l (a+u)∨u=0:=by
   intro u
   induction u with
   | zero=>exact fun _=>.inr rfl
   | succ u ihu =>
    intro hu
    obtain ⟨e1,e2,⟨e3,e3'⟩,⟨e4,e4'⟩,e5,e6,e7,e8⟩:=A07 _ _ _ _ _ _ h.sc (a+u) (by omega)
    have e9:enI 0 l (a+(u+1))=(cAt l (a+u)).New+(cAt l (a+u)).NewLen:=rfl
    rcases ihu (by omega) with h' | h'
    ·left;omega
    ·left;subst h';rw [e9];show (cAt l a).New≤(cAt l a).New+(cAt l a).NewLen;exact Int.le_add_of_nonneg_right e4
  have:=(m4 (b - a) (by omega)).resolve_right (by omega)
  rwa [show a+(b - a)=b by omega] at this
 have hF:(mkH l x.length ctx a b).First.toNat=a:=by show ((a:Int)).toNat=a;omega
 have hL:(mkH l x.length ctx a b).Last.toNat - (mkH l x.length ctx a b).First.toNat=b - a:=by
  show (((b - 1:Nat):Int)+1).toNat - ((a:Int)).toNat=b - a;omega
 have hOF:(mkH l x.length ctx a b).Old.From=(cAt l a).Old - eA l ctx a:=rfl
 have hNF:(mkH l x.length ctx a b).New.From=(cAt l a).New - eA l ctx a:=rfl
 have hOT:(mkH l x.length ctx a b).Old.To=eoI 0 l b+eB l x.length ctx b:=by
  unfold eB;rw [eo];rfl
 obtain ⟨P,hP⟩:∃P,P=X4 l x y (mkH l x.length ctx a b):=⟨_,rfl⟩
 have hPl:P.Lines=A06 l x y ((cAt l a).Old - eA l ctx a) a (b - a)++A56 32 (sub x (eoI 0 l b) (eoI 0 l b+eB l x.length ctx b)):=by
  rw [hP];unfold X4
  show A06 l x y _ (mkH l x.length ctx a b).First.toNat ((mkH l x.length ctx a b).Last.toNat - (mkH l x.length ctx a b).First.toNat)++A56 32 (sub x (A57 l _ (mkH l x.length ctx a b).First.toNat ((mkH l x.length ctx a b).Last.toNat - (mkH l x.length ctx a b).First.toNat)) _)=_
  rw [hL,hF,hOF,hOT,E90 _ _ _ (by omega),show a+(b - a)=b by omega]
 have hPO:P.Old=(cAt l a).Old - eA l ctx a:=by rw [hP];rfl
 have hPN:P.New=(cAt l a).New - eA l ctx a:=by rw [hP];rfl
 have h43:G5 P.Lines 43=sub x ((cAt l a).Old - eA l ctx a) (eoI 0 l b+eB l x.length ctx b):=by
  rw [hPl,B13,B14,if_neg (by decide),m1]
  exact B11 x (by omega) (by omega) (by omega)
 have h45:G5 P.Lines 45=sub y ((cAt l a).New - eA l ctx a) (enI 0 l b+eB l x.length ctx b):=by
  rw [hPl,B13,B14,if_neg (by decide),m2,w5]
  exact B11 y (by omega) (by omega) (by omega)
 have hon:A84 P=eoI 0 l b+eB l x.length ctx b - ((cAt l a).Old - eA l ctx a):=by
  unfold A84;rw [h43];exact B12 x (by omega) (by omega) (by omega)
 have hnn:A85 P=enI 0 l b+eB l x.length ctx b - ((cAt l a).New - eA l ctx a):=by
  unfold A85;rw [h45];exact B12 y (by omega) (by omega) (by omega)
 rw [←hP]
 refine ⟨hPO,hPN,by omega,by omega,by omega,by omega,by omega,by omega,?_,?_,?_,?_⟩
 ·rw [h43];congr 1
  ·exact hPO.symm
  ·omega
 ·rw [h45];congr 1
  ·exact hPN.symm
  ·omega
 ·rw [hPl,E91]
  have e:A06 l x y ((cAt l a).Old - eA l ctx a) a (b - a)=A06 l x y ((cAt l a).Old - eA l ctx a) a (b - 1 - a+1):=by congr 1;omega
  rw [e]
  simp only [A06,E91]
  rw [show a+(b - 1 - a)=b - 1 by omega]
  have key:A70 (A56 45 (sub x (cAt l (b - 1)).Old (B35 (cAt l (b - 1)))))=true∨A70 (A56 43 (sub y (cAt l (b - 1)).New ((cAt l (b - 1)).New+(cAt l (b - 1)).NewLen)))=true:=by
   obtain ⟨g3a,g3b⟩:=g3
   obtain ⟨g1a,g1b⟩:=g1
   by_cases h0:(cAt l (b - 1)).OldLen=0
   ·right
    refine E92 (by decide) fun e0=>?_
    have:=B12 y (a:=(cAt l (b - 1)).New) (b:=(cAt l (b - 1)).New+(cAt l (b - 1)).NewLen) g3a (by omega) (by omega)
    rw [e0] at this;simp at this;omega
   ·left
    refine E92 (by decide) fun e0=>?_
    have:=B12 x (a:=(cAt l (b - 1)).Old) (b:=B35 (cAt l (b - 1))) g1a (by unfold B35;omega) (by unfold B35;omega)
    rw [e0] at this;unfold B35 at this;simp at this;omega
  rcases key with e1 | e1<;>rw [e1]<;>simp
 ·intro hx hy
  rw [hPl,L45,D87 hx hy,Bool.true_and]
  exact B15 (.inl rfl) (fun s hs=>hx s (E20 hs))
theorem ScFit.hunks (h:ScFit x y l) {ctx:Int} (hc:0≤ctx) (hx:∀s∈x,J7 s=true) (hy:∀s∈y,J7 s=true):∀(hs:List Hunk) (a:Nat),GrOk l x.length ctx a hs l.length →
  ∀(i j e:Int),i=eoI 0 l a+e→j=enI 0 l a+e→0≤e→e≤ctx→(a=0→e=0) →
  D49 i j (hs.map (X4 l x y))=true∧(M4 (hs.map (X4 l x y)) 43).Sublist (x.drop i.toNat)∧(M4 (hs.map (X4 l x y)) 45).Sublist (y.drop j.toNat) ∧
   ∀p∈hs.map (X4 l x y),(p.Old+A84 p≤x.length∧p.New+A85 p≤y.length∧0≤p.Old∧0≤p.New)∧G5 p.Lines 43=sub x p.Old (p.Old+A84 p)∧G5 p.Lines 45=sub y p.New (p.New+A85 p)
 | [],a,_,i,j,e,_,_,_,_,_=>⟨rfl,by simp [M4],by simp [M4],by simp⟩
 | hk::hs,a,⟨b,hab,ho,hE,hr⟩,i,j,e,hi,hj,he,hec,he0=>by
  have hb:=hr.le
  have hob:b < l.length→opens l ctx b:=by
   intro hlt
   cases hs with
   | nil=>exact absurd hr (by show ¬b=l.length;omega)
   | cons h2 hs2=>obtain ⟨_,_,ho2,_⟩:=hr;exact ho2
  obtain ⟨w1,w2,w3,w4,w5⟩:=h.after hc hb hob (by omega)
  obtain ⟨q1,q2,q3⟩:=h.before hc (show a < l.length by omega) ho
  have H:=h.hunk hc hab hb ho hob
  rw [←hE] at H
  obtain ⟨P,hP⟩:∃P,P=X4 l x y hk:=⟨_,rfl⟩
  rw [←hP] at H
  obtain ⟨i1,i2,i3,i4⟩:=ScFit.hunks h hc hx hy hs b hr (P.Old+A84 P) (P.New+A85 P) (eB l x.length ctx b) H.oe H.ne w1 w2 (by omega)
  obtain ⟨k1,⟨k2,k2'⟩,k3,⟨k4,k4'⟩,k5,k6,k7,k8⟩:=A07 _ _ _ _ _ _ h.sc a (show a < l.length by omega)
  have h1:=H.old
  have h2:=H.new
  have h3:=H.o0
  have h4:=H.n0
  have h5:=H.ox
  have h6:=H.ny
  have h7:=h.lx
  have h8:=h.ly
  have n1:0≤A84 P:=by unfold A84;omega
  have n2:0≤A85 P:=by unfold A85;omega
  have hgap:e+eA l ctx a≤(cAt l a).Old - eoI 0 l a:=by
   by_cases h0:a=0
   ·have:=he0 h0;omega
   ·have:=B96 ho h0;omega
  obtain ⟨r1,r2,r3,r4⟩:=h.nn a (by omega)
  have hij:i≤P.Old∧j≤P.New∧P.Old - i=P.New - j∧0≤i∧0≤j:=by omega
  have hsub:∀(z:List Str) (i f t:Int),0≤i→i≤f→f≤t→∀r:List Str,r.Sublist (z.drop t.toNat)→(sub z f t++r).Sublist (z.drop i.toNat):=by
   intro z i f t h0 h1 h2 r hr
   have e1:z.drop f.toNat=sub z f t++z.drop t.toNat:=by
    unfold sub
    rw [show t.toNat=f.toNat+(t.toNat - f.toNat) by omega,←List.drop_drop,show f.toNat+(t.toNat - f.toNat) - f.toNat=t.toNat - f.toNat by omega,L35]
   have e2:z.drop f.toNat=(z.drop i.toNat).drop (f.toNat - i.toNat):=by rw [List.drop_drop];congr 1;omega
   refine List.Sublist.trans ?_ (List.drop_sublist (f.toNat - i.toNat) (z.drop i.toNat))
   rw [←e2,e1]
   exact List.Sublist.append_left hr _
  have key:∀(k:UInt8),M4 ((hk::hs).map (X4 l x y)) k=G5 P.Lines k++M4 (hs.map (X4 l x y)) k:=by
   intro k;rw [hP];simp [M4]
  refine ⟨?_,?_,?_,?_⟩
  ·rw [L04,←hP]
   simp only [D49,H.gl hx hy,i1,Bool.and_true,Bool.true_and,K98,decide_eq_true_eq]
   refine ⟨?_,by omega⟩
   unfold D00
   rw [H.ch]
   rintro (((((e0 | e0) | e0) | e0) | e0) | e0)
   ·cases e0
   all_goals omega
  ·rw [key,H.ol]
   exact hsub x i P.Old (P.Old+A84 P) hij.2.2.2.1 hij.1 (by omega) _ i2
  ·rw [key,H.nl]
   exact hsub y j P.New (P.New+A85 P) hij.2.2.2.2 hij.2.1 (by omega) _ i3
  ·rw [L04,←hP]
   intro p hp
   rcases List.mem_cons.1 hp with rfl | hp
   ·exact ⟨⟨h5,h6,h3,h4⟩,H.ol,H.nl⟩
   ·exact i4 p hp
theorem B16:∀{s z:List Str},s.Sublist z→R2 z=true→R2 s=true:=by
 intro s z hs
 induction hs with
 | slnil=>exact fun h=>h
 | cons a _ ih =>
  intro h
  simp only [R2,K98] at h
  exact ih h.2
 | cons_cons a hs2 ih =>
  intro h
  simp only [R2,K98,L33] at h ⊢
  refine ⟨?_,ih h.2⟩
  rcases h.1 with h1 | h1
  ·left
   rw [List.isEmpty_iff] at h1 ⊢
   rw [h1] at hs2
   exact List.sublist_nil.1 hs2
  ·exact .inr h1
def c9 (l:List Change) (x y:List Str) (ctx:Int):List PatchHunk:=(X3 l x.length ctx l.length).map (X4 l x y)
theorem ScFit.good (h:ScFit x y l) {ctx:Int} (hc:0≤ctx) (hx:∀s∈x,J7 s=true) (hy:∀s∈y,J7 s=true) (ex:R2 x=true) (ey:R2 y=true):D50 (c9 l x y ctx)=true:=by
 obtain ⟨h1,h2,h3,_⟩:=h.hunks hc hx hy _ 0 (B10 l x.length ctx l.length) 0 0 0 rfl rfl (Int.le_refl _) hc (fun _=>rfl)
 unfold D50 I41 c9
 rw [h1,B16 h2 (by simpa using ex),B16 h3 (by simpa using ey)]
 rfl
theorem ScFit.texts (h:ScFit x y l) {ctx:Int} (hc:0≤ctx) (hx:∀s∈x,J7 s=true) (hy:∀s∈y,J7 s=true):∀p∈c9 l x y ctx,(p.Old+A84 p≤x.length∧p.New+A85 p≤y.length∧0≤p.Old∧0≤p.New)∧G5 p.Lines 43=sub x p.Old (p.Old+A84 p)∧G5 p.Lines 45=sub y p.New (p.New+A85 p) :=
 (h.hunks hc hx hy _ 0 (B10 l x.length ctx l.length) 0 0 0 rfl rfl (Int.le_refl _) hc (fun _=>rfl)).2.2.2
end
theorem D88 (cur:Str) (c:UInt8) (h:∀z∈cur,z≠10):J7 (cur++[c])=true:=by
 unfold J7
 simp only [List.dropLast_concat,K98]
 refine ⟨List.all_eq_true.2 fun z hz=>by simpa using h z hz,by simp⟩
theorem B70:∀(s cur:Str),(∀z∈cur,z≠10)→(∀t∈F7 cur s,J7 t=true)∧R2 (F7 cur s)=true
 | [],cur,hc=>by
  unfold F7
  split
  ·exact ⟨by simp,rfl⟩
  ·rename_i h
   refine ⟨fun t ht=>?_,rfl⟩
   obtain rfl:t=cur:=by simpa using ht
   obtain ⟨d,r,e⟩:∃d r,t=r++[d]:=⟨t.getLast h,t.dropLast,(List.dropLast_concat_getLast h).symm⟩
   rw [e]
   exact D88 r d fun z hz=>hc z (by rw [e];simp [hz])
 | c::r,cur,hc=>by
  rw [W3]
  by_cases h:c=10
  ·rw [if_pos h]
   obtain ⟨h1,h2⟩:=B70 r [] (by simp)
   refine ⟨fun t ht=>?_,?_⟩
   ·rcases List.mem_cons.1 ht with rfl | ht
    ·exact D88 cur c hc
    ·exact h1 t ht
   ·simp only [R2,h2,Bool.and_true,L33]
    right;unfold ended;subst h;simp
  ·rw [if_neg h]
   refine B70 r (cur++[c]) fun z hz=>?_
   rcases List.mem_append.1 hz with hz | hz
   ·exact hc z hz
   ·simp at hz;subst hz;exact h
theorem A37 (b:Str):(∀t∈C3 b,J7 t=true)∧R2 (C3 b)=true:=B70 b [] (by simp)
end Go.AL
namespace Go.AL
open Go
theorem B97 {m n:Int} (hm:L9 m) (hn:L9 n):∀(p:List Span) (i j i0 j0:Int) (k0:Nat),Asc m n i j p→0≤i0→0≤j0→i0≤i→i - i0=j - j0→(0 < k0→i0 < i)→K5 k0 i0 j0 (P0 i j p m n) m n=true
 | [],i,j,i0,j0,k0,ha,h1,h2,h3,h4,h5=>by
  obtain ⟨a1,a2⟩:i≤m∧j≤n:=ha
  obtain ⟨m1,m2⟩:=hm
  obtain ⟨n1,n2⟩:=hn
  unfold P0
  split
  ·rename_i hc
   simp only [K5,K98,decide_eq_true_eq]
   refine ⟨?_,by omega⟩
   unfold G74 L9
   show ¬(((((((¬(0≤i∧i≤4096)∨¬(0≤m - i∧m - i≤4096))∨¬(0≤j∧j≤4096))∨¬(0≤n - j∧n - j≤4096))∨m - i+(n - j)=0)∨i - i0≠j - j0)∨i < i0)∨(0 < (k0:Int)∧i=i0))
   omega
  ·simp only [K5,decide_eq_true_eq];omega
 | x::r,i,j,i0,j0,k0,ha,h1,h2,h3,h4,h5=>by
  obtain ⟨a1,a2,a3⟩:=ha
  have hle:=a3.le
  unfold P0
  split
  ·rename_i hc
   simp only [L23,L18,K5,K98,decide_eq_true_eq]
   refine ⟨?_,?_⟩
   ·obtain ⟨m1,m2⟩:=hm
    obtain ⟨n1,n2⟩:=hn
    unfold G74 L9
    show ¬(((((((¬(0≤i∧i≤4096)∨¬(0≤x.From - i∧x.From - i≤4096))∨¬(0≤j∧j≤4096))∨¬(0≤x.To - j∧x.To - j≤4096))∨x.From - i+(x.To - j)=0)∨i - i0≠j - j0)∨i < i0)∨(0 < (k0:Int)∧i=i0))
    omega
   ·exact B97 hm hn r _ _ _ _ _ a3 (by omega) (by omega) (by omega) (by omega) (fun _=>by omega)
  ·rw [L18]
   exact B97 hm hn r _ _ _ _ _ a3 h1 h2 (by omega) (by omega) (fun h=>by omega)
def EqAt (X Y:List Str) (s:Span):Prop:=0≤s.From∧0≤s.To∧∃v,X[s.From.toNat]?=some v∧Y[s.To.toNat]?=some v
theorem H57 {X:List Str} {a b:Int} {v:Str} (h0:0≤a) (h1:a≤b) (hv:X[b.toNat]?=some v):sub X a (b+1)=sub X a b++[v]:=by
 rw [←B11 X h0 h1 (by omega:b≤b+1)]
 congr 1
 unfold sub
 obtain ⟨hl,e⟩:=List.getElem?_eq_some_iff.1 hv
 rw [L03 hl,e,show (b+1).toNat - b.toNat=1 by omega]
 rfl
theorem G05:∀(a b:List Int) (p q:Int),∀s∈H1 p q a b,p≤s.From∧q≤s.To∧∃v,a[(s.From - p).toNat]?=some v∧b[(s.To - q).toNat]?=some v:=by
 intro a
 induction a with
 | nil=>intro b p q s hs;simp [H1] at hs
 | cons x a iha =>
  intro b
  induction b with
  | nil=>intro p q s hs;simp [H1] at hs
  | cons y b ihb =>
   intro p q s hs
   unfold H1 at hs
   split at hs
   ·rename_i e
    rcases List.mem_cons.1 hs with rfl | hs
    ·exact ⟨Int.le_refl _,Int.le_refl _,x,by simp,by simp [e]⟩
    ·obtain ⟨h1,h2,v,h3,h4⟩:=iha b (p+1) (q+1) s hs
     refine ⟨by omega,by omega,v,?_,?_⟩
     ·rw [show (s.From - p).toNat=(s.From - (p+1)).toNat+1 by omega];simpa using h3
     ·rw [show (s.To - q).toNat=(s.To - (q+1)).toNat+1 by omega];simpa using h4
   ·split at hs
    ·obtain ⟨h1,h2,v,h3,h4⟩:=iha (y::b) (p+1) q s hs
     refine ⟨by omega,by omega,v,?_,h4⟩
     rw [show (s.From - p).toNat=(s.From - (p+1)).toNat+1 by omega];simpa using h3
    ·obtain ⟨h1,h2,v,h3,h4⟩:=ihb p (q+1) s hs
     refine ⟨by omega,by omega,v,h3,?_⟩
     rw [show (s.To - q).toNat=(s.To - (q+1)).toNat+1 by omega];simpa using h4
theorem G06:∀(ls:List PatchLine),ls.all C49=true→(ls.map szL).sum≤64*((G5 ls 43).length+(G5 ls 45).length)+((G5 ls 43).flatten.length+(G5 ls 45).flatten.length)
 | [],_=>by simp
 | q::ls,h=>by
  rw [List.all_cons,K98] at h
  have ih:=G06 ls h.2
  have hk:q.Kind=32∨q.Kind=45∨q.Kind=43:=by
   have hg:=h.1
   unfold C49 at hg
   have hg:=A0 hg
   by_cases h1:q.Kind=32
   ·exact .inl h1
   by_cases h2:q.Kind=45
   ·exact .inr (.inl h2)
   by_cases h3:q.Kind=43
   ·exact .inr (.inr h3)
   exact absurd (.inl ⟨⟨h1,h2⟩,h3⟩) hg
  have hd:∀k:UInt8,G5 (q::ls) k=if q.Kind≠k then q.Text::G5 ls k else G5 ls k:=by
   intro k
   unfold G5
   by_cases e:q.Kind=k
   ·rw [if_neg (by simpa using e),List.filter_cons_of_neg (by simpa using e)]
   ·rw [if_pos e,List.filter_cons_of_pos (by simpa using e)];rfl
  rw [hd 43,hd 45,L04,L29]
  have hz:szL q=q.Text.length+64:=rfl
  rcases hk with e | e | e<;>rw [e]<;>simp (decide:=true) only [if_true,if_false,ne_eq,not_true_eq_false,not_false_eq_true,K99,L16,K96]<;>omega
theorem D03:∀(hs:List PatchHunk) (i j:Int),D49 i j hs=true→szP hs≤128*((M4 hs 43).length+(M4 hs 45).length)+((M4 hs 43).flatten.length+(M4 hs 45).flatten.length)
 | [],_,_,_=>by simp [szP]
 | h :: hs,i,j,hg=>by
  simp only [D49,K98,decide_eq_true_eq] at hg
  obtain ⟨h1,h2,h3,h4⟩:=hg
  have ih:=D03 hs _ _ h4
  have hl:=G06 h.Lines h1
  have hne:1≤h.Lines.length:=by
   cases hq:h.Lines with
   | nil=>exact absurd (.inl (.inl (.inl (.inl (.inl (by rw [hq];rfl)))))) h2
   | cons a b=>simp
  have hcnt:h.Lines.length≤(G5 h.Lines 43).length+(G5 h.Lines 45).length:=by
   have:64*h.Lines.length≤(h.Lines.map szL).sum:=szL_len h.Lines
   have key:∀ls:List PatchLine,ls.length≤(G5 ls 43).length+(G5 ls 45).length:=by
    intro ls
    induction ls with
    | nil=>simp
    | cons q ls ih =>
     have hd:∀k:UInt8,(G5 (q::ls) k).length=if q.Kind≠k then (G5 ls k).length+1 else (G5 ls k).length:=by
      intro k
      unfold G5
      by_cases e:q.Kind=k
      ·rw [if_neg (by simpa using e),List.filter_cons_of_neg (by simpa using e)]
      ·rw [if_pos e,List.filter_cons_of_pos (by simpa using e)];simp
     rw [hd 43,hd 45,K99]
     by_cases e:q.Kind=43
     ·have e2:q.Kind≠45:=by rw [e];decide
      rw [if_pos e2];split<;>omega
     ·rw [if_pos e];split<;>omega
   exact key h.Lines
  have hsz:szP (h::hs)=szH h+szP hs:=by simp [szP]
  have hszh:szH h=64+(h.Lines.map szL).sum:=rfl
  have hs1:∀k,M4 (h::hs) k=G5 h.Lines k++M4 hs k:=by intro k;simp [M4]
  rw [hsz,hszh,hs1 43,hs1 45]
  simp only [K96,L28]
  omega
theorem D89:∀{s z:List Str},s.Sublist z→s.flatten.length≤z.flatten.length:=by
 intro s z hs
 induction hs with
 | slnil=>exact Nat.le_refl _
 | cons a _ ih=>simp only [L16,K96];omega
 | cons_cons a _ ih=>simp only [L16,K96];omega
theorem ScFit.size {x y:List Str} {l:List Change} (h:ScFit x y l) {ctx:Int} (hc:0≤ctx) (hx:∀s∈x,J7 s=true) (hy:∀s∈y,J7 s=true):szP (c9 l x y ctx)≤128*(x.length+y.length)+(x.flatten.length+y.flatten.length):=by
 obtain ⟨h1,h2,h3,_⟩:=h.hunks hc hx hy _ 0 (B10 l x.length ctx l.length) 0 0 0 rfl rfl (Int.le_refl _) hc (fun _=>rfl)
 have h4:=D03 _ _ _ h1
 have e:c9 l x y ctx=(X3 l x.length ctx l.length).map (X4 l x y):=rfl
 rw [←e] at h2 h3 h4
 have h2':(M4 (c9 l x y ctx) 43).Sublist x:=by simpa using h2
 have h3':(M4 (c9 l x y ctx) 45).Sublist y:=by simpa using h3
 have:=h2'.length_le
 have:=h3'.length_le
 have:=D89 h2'
 have:=D89 h3'
 omega
theorem E93 (s:Str):∀cur:Str,(F7 cur s).flatten=cur++s:=by
 induction s with
 | nil=>intro cur;unfold F7;split<;>simp [*]
 | cons c r ih=>intro cur;rw [W3];split<;>simp [ih]
theorem E94 (a:Str):(C3 a).flatten.length=a.length∧(C3 a).length≤a.length:=⟨by unfold C3;rw [E93];rfl,Y3 a⟩
theorem F62 {a:Str} (h:a.length≤4096):B95 a=(C3 a,0):=by
 have:=Y3 a
 unfold B95;rw [if_neg (by omega)]
end Go.AL
namespace Go.AL
open Go
end Go.AL
namespace Go.AL
open Go
abbrev C50:Int→Nat→Cell:=fun x _=>.v (.int .u16 x)
abbrev pU16s (l:List Int):PV:=.one (.list Int 1 C50 l)
theorem I43 (n:Int) (h:0≤n∧n < 65536):IntKind.u16.wrap n=n:=by
 simp [IntKind.wrap,IntKind.signed,IntKind.bits];omega
def flat (a b:List Int) (done:Nat→Nat→Bool):List Int :=
 (List.range ((a.length+1)*(b.length+1))).map fun p=>if done (p / (b.length+1)) (p % (b.length+1))=true then (dist (a.drop (p / (b.length+1))) (b.drop (p % (b.length+1))):Int) else 0
theorem D90 (a b:List Int) (done:Nat→Nat→Bool):(flat a b done).length=(a.length+1)*(b.length+1):=by simp [flat]
theorem E21 {a b:List Int} {i j:Nat} (hi:i≤a.length) (hj:j≤b.length):i*(b.length+1)+j < (a.length+1)*(b.length+1)∧(i*(b.length+1)+j) / (b.length+1)=i∧(i*(b.length+1)+j) % (b.length+1)=j:=by
 refine ⟨?_,?_,?_⟩
 ·have:(i+1)*(b.length+1)≤(a.length+1)*(b.length+1):=L11 _ (by omega)
  rw [L20,Nat.one_mul] at this;omega
 ·rw [Nat.mul_comm,Nat.mul_add_div (by omega),Nat.div_eq_of_lt (by omega),Nat.add_zero]
 ·rw [Nat.mul_comm,Nat.mul_add_mod,Nat.mod_eq_of_lt (by omega)]
theorem E95 {a b:List Int} {done:Nat→Nat→Bool} {i j:Nat} (hi:i≤a.length) (hj:j≤b.length):(flat a b done)[i*(b.length+1)+j]?=some (if done i j=true then (dist (a.drop i) (b.drop j):Int) else 0):=by
 obtain ⟨h1,h2,h3⟩:=E21 hi hj
 unfold flat
 rw [D45 _ _ _ h1,h2,h3]
theorem H58 {a b:List Int} {done done':Nat→Nat→Bool} {i j:Nat} {v:Int} (hi:i≤a.length) (hj:j≤b.length) (hv:v=(dist (a.drop i) (b.drop j):Int)) (hd:done' i j=true)
  (ho:∀r q,r≤a.length→q≤b.length→¬(r=i∧q=j)→done' r q=done r q):(flat a b done).set (i*(b.length+1)+j) v=flat a b done':=by
 obtain ⟨h1,h2,h3⟩:=E21 hi hj
 unfold flat
 refine B94 _ _ _ _ _ (fun _=>?_) (fun q hq hne=>?_)
 ·rw [h2,h3,if_pos hd,hv]
 ·have hW:0 < b.length+1:=by omega
  have e:=Nat.div_add_mod q (b.length+1)
  have hr:q / (b.length+1)≤a.length:=by
   have:=(Nat.div_lt_iff_lt_mul hW).2 hq
   omega
  have hm:=Nat.mod_lt q hW
  rw [ho _ _ hr (by omega) (fun ⟨e1,e2⟩=>hne (by rw [e1,e2,Nat.mul_comm] at e;exact e.symm))]
theorem J60 (a b:List Int):List.replicate ((a.length+1)*(b.length+1)) 0=flat a b (fun _ _=>false):=by
 unfold flat
 simp only [Bool.false_eq_true,if_false]
 rw [List.map_const',L43]
theorem B17 {a b:List Int} {done done':Nat→Nat→Bool} (h:∀r q,r≤a.length→q≤b.length→(done r q=done' r q∨dist (a.drop r) (b.drop q)=0)):flat a b done=flat a b done':=by
 unfold flat
 apply List.map_congr_left
 intro p hp
 have hp:=List.mem_range.1 hp
 have hW:0 < b.length+1:=by omega
 have hr:p / (b.length+1)≤a.length:=by have:=(Nat.div_lt_iff_lt_mul hW).2 hp;omega
 have hm:=Nat.mod_lt p hW
 rcases h (p / (b.length+1)) (p % (b.length+1)) hr (by omega) with e | e
 ·rw [e]
 ·rw [e];simp
def U7:List Int→List Int→Nat
 | x::a,y::b=>if x=y then U7 a b+1 else 0
 | _,_=>0
theorem H59:∀(a b:List Int),U7 a b≤a.length∧U7 a b≤b.length
 | [],_=>by simp [U7]
 | _::_,[]=>by simp [U7]
 | x::a,y::b=>by
  have:=H59 a b
  unfold U7
  simp only [K99]
  split<;>omega
theorem E96 (a b:List Int) (k:Nat) (hk:k < a.length) (hk':k < b.length):U7 (a.drop k) (b.drop k)=if a[k]=b[k] then U7 (a.drop (k+1)) (b.drop (k+1))+1 else 0:=by
 rw [L03 hk,L03 hk'];rfl
theorem J61 (a b:List Int) (k:Nat) (h:¬(k < a.length∧k < b.length)):U7 (a.drop k) (b.drop k)=0:=by
 by_cases h1:k < a.length
 ·rw [L07 (as:=b) (by omega)]
  cases a.drop k<;>rfl
 ·rw [L07 (as:=a) (by omega)];rfl
theorem E97:∀(a b:List Int) (p q:Int),H1 p q a b=Q0 p q (U7 a b)++H1 (p+U7 a b) (q+U7 a b) (a.drop (U7 a b)) (b.drop (U7 a b))
 | [],b,p,q=>by simp [U7,B06]
 | x::a,[],p,q=>by simp [U7,B06]
 | x::a,y::b,p,q=>by
  unfold U7
  by_cases h:x=y
  ·rw [if_pos h]
   conv=>lhs;unfold H1
   rw [if_pos h,E97 a b (p+1) (q+1),B05]
   simp only [List.drop_succ_cons,L23]
   rw [show p+1+(U7 a b:Int)=p+((U7 a b+1:Nat):Int) by omega,show q+1+(U7 a b:Int)=q+((U7 a b+1:Nat):Int) by omega]
  ·rw [if_neg h]
   simp [B06]
end Go.AL
namespace Go.AL
open Go
def a7 (l:List Merged) (bit:Int) (a b:Nat):List Merged:=((l.drop a).take (b - a)).map fun y=>⟨y.Line,J9 y.Parents bit⟩
def D04 (list:List Int) (bit:Int) (a n:Nat):List Merged:=((list.drop a).take n).map fun v=>⟨v,bit⟩
def p8 (l:List Merged) (list:List Int) (bit:Int) (k:Nat):List Change→List Merged
 | []=>a7 l bit k l.length
 | c::r=>a7 l bit k c.Old.toNat++(l.drop c.Old.toNat).take c.OldLen.toNat++D04 list bit c.New.toNat c.NewLen.toNat++p8 l list bit (c.Old.toNat+c.OldLen.toNat) r
theorem I44 {α:Type} (l:List α) {a b c:Nat} (h1:a≤b) (h2:b≤c):(l.drop a).take (c - a)=(l.drop a).take (b - a)++(l.drop b).take (c - b):=by
 have h:=List.take_add (l:=l.drop a) (i:=b - a) (j:=c - b)
 rw [List.drop_drop,show b - a+(c - b)=c - a by omega,show a+(b - a)=b by omega] at h
 exact h
theorem D91 (l:List Merged) (bit:Int) {a b c:Nat} (h1:a≤b) (h2:b≤c):a7 l bit a c=a7 l bit a b++a7 l bit b c:=by
 unfold a7;rw [I44 l h1 h2,L14]
theorem D52 (l:List Merged) (bit:Int) (a:Nat):a7 l bit a a=[]:=by unfold a7;simp
theorem D53 (l:List Merged) (bit:Int) {a:Nat} (h:a < l.length):a7 l bit a (a+1)=(l[a]?.map fun y=>(⟨y.Line,J9 y.Parents bit⟩:Merged)).toList:=by
 unfold a7
 rw [show a+1 - a=1 by omega,K97 h,L03 h]
 rfl
theorem E98 (l:List Merged) (list:List Int) (bit:Int):∀(ps:List Span) (k i j:Nat),k≤i→Asc l.length list.length i j ps →
  p8 l list bit k (P0 i j ps l.length list.length)=a7 l bit k i++Y4 l list bit i j ps
 | [],k,i,j,hk,ha=>by
  have h1:(i:Int)≤l.length∧(j:Int)≤list.length:=ha
  unfold P0 Y4
  by_cases h:(l.length:Int) > i∨(list.length:Int) > j
  ·rw [if_pos h]
   simp only [p8]
   rw [show (i:Int).toNat+((l.length:Int) - i).toNat=l.length by omega,D52,L21,L01,L01,show ((l.length:Int) - i).toNat=l.length - i by omega,show ((list.length:Int) - j).toNat=list.length - j by omega,L09]
   rfl
  ·rw [if_neg h]
   have e1:i=l.length:=by omega
   have e2:j=list.length:=by omega
   rw [e1,e2]
   simp [p8]
 | x::r,k,i,j,hk,ha=>by
  obtain ⟨h1,h2,h3⟩:=ha
  have h4:=h3.le
  have e1:((x.From.toNat+1:Nat):Int)=x.From+1:=by omega
  have e2:((x.To.toNat+1:Nat):Int)=x.To+1:=by omega
  have ih:=fun k (hk:k≤x.From.toNat+1)=>E98 l list bit r k (x.From.toNat+1) (x.To.toNat+1) hk (by rw [e1,e2];exact h3)
  rw [e1,e2] at ih
  have hlt:x.From.toNat < l.length:=by omega
  unfold P0 Y4
  by_cases h:x.From > i∨x.To > j
  ·rw [if_pos h,List.singleton_append,p8]
   dsimp only
   rw [show (i:Int).toNat+(x.From - i).toNat=x.From.toNat by omega,ih _ (by omega),D53 l bit hlt,L01,L01,show (x.From - (i:Int)).toNat=x.From.toNat - i by omega,show (x.To - (j:Int)).toNat=x.To.toNat - j by omega]
   unfold D04
   simp only [L09]
  ·rw [if_neg h,L18]
   have e3:x.From.toNat=i:=by omega
   have e4:x.To.toNat=j:=by omega
   rw [ih k (by omega),D91 l bit hk (show i≤x.From.toNat+1 by omega),e3,e4,D53 l bit (by omega)]
   simp
theorem K27 (l:List Merged) (list:List Int) (bit:Int):p8 l list bit 0 (N6 (H5 l) list)=Y4 l list bit 0 0 (H1 0 0 (H5 l) list):=by
 have hasc:=V1 (H5 l) list 0 0
 rw [Int.zero_add,Int.zero_add,show (H5 l).length=l.length by simp [H5]] at hasc
 have:=E98 l list bit (H1 0 0 (H5 l) list) 0 0 0 (Nat.le_refl _) hasc
 rw [D52,L18] at this
 unfold N6 B04
 rw [show (H5 l).length=l.length by simp [H5]]
 exact this
def M8 (p:Int) (ms:List Int) (c:Change):List Int:=ms.mapIdx fun k m=>if c.New.toNat≤k∧k < c.New.toNat+c.NewLen.toNat then J9 m (J4 p) else m
theorem x9 (p:Int) (ms:List Int) (c:Change):(M8 p ms c).length=ms.length:=by simp [M8]
theorem A38 (p:Int) (ms:List Int) (c:Change) (k:Nat):(M8 p ms c)[k]?=ms[k]?.map fun m=>if c.New.toNat≤k∧k < c.New.toNat+c.NewLen.toNat then J9 m (J4 p) else m:=by
 unfold M8;rw [List.getElem?_mapIdx]
def R3 (cs:List Change) (k:Nat):Bool:=cs.any fun c=>decide (c.New.toNat≤k∧k < c.New.toNat+c.NewLen.toNat)
def B71 (ps:List Span) (k:Nat):Bool:=ps.any fun x=>decide (x.To.toNat=k)
theorem or_or (m b:Int):J9 (J9 m b) b=J9 m b:=by
 unfold J9
 have h:BitVec.ofInt IntKind.u32.bits (IntKind.u32.wrap ((BitVec.ofInt IntKind.u32.bits m ||| BitVec.ofInt IntKind.u32.bits b).toNat:Int))=BitVec.ofInt IntKind.u32.bits m ||| BitVec.ofInt IntKind.u32.bits b:=by
  rw [show IntKind.u32.wrap ((BitVec.ofInt IntKind.u32.bits m ||| BitVec.ofInt IntKind.u32.bits b).toNat:Int)=((BitVec.ofInt IntKind.u32.bits m ||| BitVec.ofInt IntKind.u32.bits b).toNat:Int) from A18 _ (by
   have:=(BitVec.ofInt IntKind.u32.bits m ||| BitVec.ofInt IntKind.u32.bits b).isLt
   exact this)]
  rw [BitVec.ofInt_natCast,BitVec.ofNat_toNat,BitVec.setWidth_eq]
 rw [h,BitVec.or_assoc,BitVec.or_self]
theorem E99 (p:Int):∀(cs:List Change) (ms:List Int) (k:Nat),(cs.foldl (M8 p) ms)[k]?=ms[k]?.map fun m=>if R3 cs k=true then J9 m (J4 p) else m
 | [],ms,k=>by simp [R3]
 | c::r,ms,k=>by
  rw [L31,E99 p r,A38,Option.map_map]
  congr 1
  funext m
  show (if R3 r k=true then J9 (if c.New.toNat≤k∧k < c.New.toNat+c.NewLen.toNat then J9 m (J4 p) else m) (J4 p) else if c.New.toNat≤k∧k < c.New.toNat+c.NewLen.toNat then J9 m (J4 p) else m)=if R3 (c::r) k=true then J9 m (J4 p) else m
  have e:R3 (c::r) k=(decide (c.New.toNat≤k∧k < c.New.toNat+c.NewLen.toNat)||R3 r k):=rfl
  rw [e]
  by_cases h1:c.New.toNat≤k∧k < c.New.toNat+c.NewLen.toNat
  ·rw [if_pos h1,decide_eq_true h1,Bool.true_or,if_pos rfl]
   cases R3 r k
   ·rw [if_neg (by decide)]
   ·rw [if_pos rfl,or_or]
  ·rw [if_neg h1,decide_eq_false h1,Bool.false_or]
theorem clr_clr (m b:Int):p7 (p7 m b) b=p7 m b:=by
 unfold p7
 have h:BitVec.ofInt IntKind.u32.bits (IntKind.u32.wrap ((BitVec.ofInt IntKind.u32.bits m &&& ~~~BitVec.ofInt IntKind.u32.bits b).toNat:Int))=BitVec.ofInt IntKind.u32.bits m &&& ~~~BitVec.ofInt IntKind.u32.bits b:=by
  rw [show IntKind.u32.wrap ((BitVec.ofInt IntKind.u32.bits m &&& ~~~BitVec.ofInt IntKind.u32.bits b).toNat:Int)=((BitVec.ofInt IntKind.u32.bits m &&& ~~~BitVec.ofInt IntKind.u32.bits b).toNat:Int) from A18 _ (by
   have:=(BitVec.ofInt IntKind.u32.bits m &&& ~~~BitVec.ofInt IntKind.u32.bits b).isLt
   exact this)]
  rw [BitVec.ofInt_natCast,BitVec.ofNat_toNat,BitVec.setWidth_eq]
 rw [h,BitVec.and_assoc,BitVec.and_self]
theorem G07 (p:Int):∀(ps:List Span) (ms:List Int) (k:Nat),(∀x∈ps,x.To.toNat < ms.length)→(ps.foldl (V8 p) ms)[k]?=ms[k]?.map fun m=>if B71 ps k=true then p7 m (J4 p) else m
 | [],ms,k,_=>by simp [B71]
 | x::r,ms,k,hp=>by
  have hx:=hp x (by simp)
  have hlen:(V8 p ms x).length=ms.length:=by simp [V8]
  rw [L31,G07 p r _ k (fun y hy=>by rw [hlen];exact hp y (by simp [hy]))]
  have hget:(V8 p ms x)[k]?=ms[k]?.map fun m=>if x.To.toNat=k then p7 m (J4 p) else m:=by
   unfold V8
   rw [List.getElem?_set]
   by_cases h:x.To.toNat=k
   ·subst h
    rw [if_pos rfl,if_pos hx,K97 hx,L00,K97 hx]
    simp
   ·rw [if_neg h];simp [h]
  rw [hget,Option.map_map]
  congr 1
  funext m
  show (if B71 r k=true then p7 (if x.To.toNat=k then p7 m (J4 p) else m) (J4 p) else if x.To.toNat=k then p7 m (J4 p) else m)=if B71 (x::r) k=true then p7 m (J4 p) else m
  have e:B71 (x::r) k=(decide (x.To.toNat=k)||B71 r k):=rfl
  rw [e]
  by_cases h1:x.To.toNat=k
  ·rw [if_pos h1,decide_eq_true h1,Bool.true_or,if_pos rfl]
   cases B71 r k
   ·rw [if_neg (by decide)]
   ·rw [if_pos rfl,clr_clr]
  ·rw [if_neg h1,decide_eq_false h1,Bool.false_or]
theorem clr_or (m:Nat) (p:Nat) (hp:p < 32) (hm:m < 2 ^ p):p7 (J9 m (J4 p)) (J4 p)=m:=by
 have h2:2 ^ p < 2 ^ 32:=Nat.pow_lt_pow_right (by decide) hp
 have hb:J4 (p:Int)=((2 ^ p:Nat):Int):=by
  unfold J4
  rw [I39 (n:=(p:Int)) (by omega),show min ((p:Int)).toNat IntKind.u32.bits=p by rw [L01];exact Nat.min_eq_left (by show p≤32;omega),Int.one_mul]
  rw [show (2:Int) ^ p=((2 ^ p:Nat):Int) by simp]
  exact A18 _ (by omega)
 rw [hb]
 obtain ⟨h3,h4⟩:=y8 m (2 ^ p) (by omega) (by omega)
 rw [h3]
 unfold p7
 have e1:BitVec.ofInt IntKind.u32.bits (((m ||| 2 ^ p:Nat)):Int)=BitVec.ofNat 32 (m ||| 2 ^ p):=by simp [BitVec.ofInt_natCast];rfl
 have e2:BitVec.ofInt IntKind.u32.bits ((2 ^ p:Nat):Int)=BitVec.ofNat 32 (2 ^ p):=by rw [BitVec.ofInt_natCast];rfl
 rw [e1,e2]
 have h5:(BitVec.ofNat 32 (m ||| 2 ^ p) &&& ~~~BitVec.ofNat 32 (2 ^ p))=BitVec.ofNat 32 m:=by
  apply BitVec.eq_of_getLsbD_eq
  intro i hi
  simp only [BitVec.getLsbD_and,BitVec.getLsbD_not,BitVec.getLsbD_ofNat,hi,decide_true,Bool.true_and,Nat.testBit_or,Nat.testBit_two_pow]
  by_cases hip:p=i
  ·subst hip
   simp [Nat.testBit_lt_two_pow hm]
  ·simp [hip]
 have h6:(BitVec.ofNat 32 m).toNat=m:=by rw [BitVec.toNat_ofNat];exact Nat.mod_eq_of_lt (by omega)
 have h7:((BitVec.ofNat 32 (m ||| 2 ^ p) &&& ~~~BitVec.ofNat 32 (2 ^ p)).toNat:Int)=m:=by rw [h5,h6]
 exact (congrArg IntKind.u32.wrap h7).trans (A18 _ (by omega))
end Go.AL
namespace Go.AL
open Go
theorem H60 (a b:List Span) (k:Nat):B71 (a++b) k=(B71 a k||B71 b k):=by unfold B71;rw [List.any_append]
theorem D05 (i j:Int) (t:Nat) (k:Nat) (hj:0≤j):B71 (Q0 i j t) k=decide (j≤k∧(k:Int) < j+t):=by
 unfold B71 Q0
 rw [List.any_map,Bool.eq_iff_iff,List.any_eq_true,decide_eq_true_eq]
 constructor
 ·rintro ⟨s,hs,h⟩
  have h1:=List.mem_range.1 hs
  have h2:(j+(s:Int)).toNat=k:=A0 h
  omega
 ·rintro ⟨h1,h2⟩
  refine ⟨((k:Int) - j).toNat,List.mem_range.2 (by omega),?_⟩
  show decide ((j+((((k:Int) - j).toNat:Nat):Int)).toNat=k)=true
  exact decide_eq_true (by omega)
theorem F00 (c:Change) (r:List Change) (k:Nat):R3 (c::r) k=(decide (c.New.toNat≤k∧k < c.New.toNat+c.NewLen.toNat)||R3 r k):=rfl
theorem G08:∀(cs:List Change) (k0:Nat) (i j m n:Int),K5 k0 i j cs m n=true→0≤i→0≤j →
  (∀k:Nat,(k:Int) < j→B71 (K8 i j cs m) k=false∧R3 cs k=false)∧∀k:Nat,j≤k→(k:Int) < n→B71 (K8 i j cs m) k=!R3 cs k
 | [],k0,i,j,m,n,h,h1,h2=>by
  simp only [K5,decide_eq_true_eq] at h
  unfold K8
  refine ⟨fun k hk=>⟨?_,rfl⟩,fun k hk hk2=>?_⟩
  ·rw [D05 _ _ _ _ h2];exact decide_eq_false (by omega)
  ·rw [D05 _ _ _ _ h2]
   show _=true
   exact decide_eq_true (by omega)
 | c :: r,k0,i,j,m,n,h,h1,h2=>by
  simp only [K5,K98,decide_eq_true_eq] at h
  obtain ⟨hb,hr⟩:=h
  have hc:(0≤c.OldLen∧0≤c.NewLen∧i≤c.Old∧c.Old - i=c.New - j):=by
   unfold G74 L9 at hb
   by_cases a2:(0≤c.OldLen∧c.OldLen≤4096)<;>by_cases a4:(0≤c.NewLen∧c.NewLen≤4096)<;>simp [a2,a4] at hb ⊢<;>omega
  obtain ⟨c1,c2,c3,c4⟩:=hc
  obtain ⟨i1,i2⟩:=G08 r (k0+1) (c.Old+c.OldLen) (c.New+c.NewLen) m n hr (by omega) (by omega)
  unfold K8
  rw [show max i c.Old=c.Old by omega,show j+((c.Old - i).toNat:Int)+c.NewLen=c.New+c.NewLen by omega]
  refine ⟨fun k hk=>?_,fun k hk hk2=>?_⟩
  ·obtain ⟨q1,q2⟩:=i1 k (by omega)
   rw [H60,D05 _ _ _ _ h2,F00,q1,q2,decide_eq_false (by omega),decide_eq_false (by omega)]
   exact ⟨rfl,rfl⟩
  ·rw [H60,D05 _ _ _ _ h2,F00]
   by_cases g1:(k:Int) < c.New
   ·obtain ⟨q1,q2⟩:=i1 k (by omega)
    rw [q1,q2,decide_eq_true (by omega),decide_eq_false (by omega)];rfl
   ·rw [decide_eq_false (by omega),Bool.false_or]
    by_cases g2:(k:Int) < c.New+c.NewLen
    ·obtain ⟨q1,q2⟩:=i1 k g2
     rw [q1,decide_eq_true (by omega)];rfl
    ·rw [i2 k (by omega) hk2,decide_eq_false (by omega),Bool.false_or]
theorem I95 {m n:Int}:∀{p:List Span} {i j:Int},Asc m n i j p→∀x∈p,i≤x.From∧x.From < m∧j≤x.To∧x.To < n
 | x::r,i,j,h,y,hy=>by
  obtain ⟨h1,h2,h3⟩:=h
  have h4:=h3.le
  rcases List.mem_cons.1 hy with rfl | hy
  ·omega
  ·have:=I95 h3 y hy;omega
def z7 (ids:List (List Int)) (s:Loom) (p:Nat):Loom :=
 let file:=ids.getD (p+1) []
 let sc:=N6 file (ids.getD 0 [])
 (sc.foldl (M8 p) s.1,sc.foldl (P1 p file) s.2)
def x2 (ids:List (List Int)) (lines n p:Nat):Loom:=(List.range p).foldl (z7 ids) (E83 lines n)
theorem B72 (ids:List (List Int)) (lines n p:Nat):x2 ids lines n (p+1)=z7 ids (x2 ids lines n p) p:=by
 unfold x2;rw [L38,L40];rfl
def LowM (p:Nat) (ms:List Int):Prop:=∀v∈ms,0≤v∧v < ((2 ^ p:Nat):Int)
theorem B98 {p:Nat} (hp:p < 32):J4 (p:Int)=((2 ^ p:Nat):Int):=by
 have h2:2 ^ p < 2 ^ 32:=Nat.pow_lt_pow_right (by decide) hp
 unfold J4
 rw [I39 (n:=(p:Int)) (by omega),show min ((p:Int)).toNat IntKind.u32.bits=p by rw [L01];exact Nat.min_eq_left (by show p≤32;omega),Int.one_mul]
 rw [show (2:Int) ^ p=((2 ^ p:Nat):Int) by simp]
 exact A18 _ (by omega)
theorem or_low {m:Int} {p:Nat} (hp:p < 32) (h:0≤m∧m < ((2 ^ p:Nat):Int)):0≤J9 m (J4 p)∧J9 m (J4 p) < ((2 ^ (p+1):Nat):Int):=by
 have h2:2 ^ p < 2 ^ 32:=Nat.pow_lt_pow_right (by decide) hp
 obtain ⟨q,rfl⟩:∃q:Nat,m=q:=⟨m.toNat,by omega⟩
 have hq:q < 2 ^ p:=by omega
 rw [B98 hp]
 obtain ⟨h3,_⟩:=y8 q (2 ^ p) (by omega) (by omega)
 rw [h3]
 have h4:q ||| 2 ^ p < 2 ^ (p+1):=Nat.or_lt_two_pow (by rw [Nat.pow_succ];omega) (by rw [Nat.pow_succ];omega)
 omega
theorem J62 {ids:List (List Int)} {s:Loom} {p:Nat} {file base:List Int} (hf:file=ids.getD (p+1) []) (hb:base=ids.getD 0 []) (hp:p < 32) (hlow:LowM p s.1) (hlen:s.1.length=base.length) (hfl:file.length≤4096) (hbl:base.length≤4096) :
  z7 ids s p=g9 ids s p∧LowM (p+1) (z7 ids s p).1∧(z7 ids s p).1.length=base.length:=by
 have hasc:=V1 file base 0 0
 rw [Int.zero_add,Int.zero_add] at hasc
 have hsc:=B97 (m:=file.length) (n:=base.length) ⟨by omega,by omega⟩ ⟨by omega,by omega⟩ (H1 0 0 file base) 0 0 0 0 0 hasc (by omega) (by omega) (by omega) (by omega) (by omega)
 obtain ⟨_,hm⟩:=G08 _ 0 0 0 file.length base.length hsc (by omega) (by omega)
 have hmade:=G67 file base
 obtain ⟨sc,hscd⟩:∃sc,sc=N6 file base:=⟨_,rfl⟩
 have hsc2:P0 0 0 (H1 0 0 file base) file.length base.length=sc:=by rw [hscd];rfl
 rw [hsc2] at hm
 have e1:z7 ids s p=(sc.foldl (M8 p) s.1,sc.foldl (P1 p file) s.2):=by rw [hscd,hf,hb];rfl
 have e2:g9 ids s p=((j5 sc file.length).foldl (V8 p) (s.1.map (J9 · (J4 p))),sc.foldl (P1 p file) s.2):=by rw [hscd,hf,hb];rfl
 have hget:=E99 p sc s.1
 have hlen1:(sc.foldl (M8 p) s.1).length=s.1.length:=by
  have key:∀(cs:List Change) (ms:List Int),(cs.foldl (M8 p) ms).length=ms.length:=by
   intro cs
   induction cs with
   | nil=>intro ms;rfl
   | cons c r ih=>intro ms;rw [L31,ih,x9]
  exact key sc s.1
 refine ⟨?_,?_,by rw [e1];dsimp only;rw [hlen1,hlen]⟩
 ·rw [e1,e2,Prod.mk.injEq]
  refine ⟨?_,rfl⟩
  refine List.ext_getElem? fun k=>?_
  have hto:∀x∈j5 sc file.length,x.To.toNat < (s.1.map (J9 · (J4 p))).length:=by
   intro x hx
   rw [L26,hlen]
   rw [hscd,hmade] at hx
   have:=I95 hasc x hx
   omega
  rw [hget,G07 p _ _ k hto,L30,Option.map_map]
  cases hk:s.1[k]? with
  | none=>rfl
  | some v =>
   have hkl:k < base.length:=by have:=(List.getElem?_eq_some_iff.1 hk).1;omega
   have h3:=hm k (by omega) (by omega)
   have hv:=hlow v (L13 hk)
   show some (if R3 sc k=true then J9 v (J4 p) else v)=some (if B71 (j5 sc file.length) k=true then p7 (J9 v (J4 p)) (J4 p) else J9 v (J4 p))
   have h3:B71 (j5 sc file.length) k=!R3 sc k:=h3
   rw [h3]
   cases R3 sc k
   ·obtain ⟨q,rfl⟩:∃q:Nat,v=q:=⟨v.toNat,by omega⟩
    rw [if_neg (by decide),if_pos (show (!false)=true from rfl),clr_or q p hp (by omega)]
   ·rw [if_pos rfl,if_neg (by decide)]
 ·rw [e1]
  intro v hv
  obtain ⟨k,hk,rfl⟩:=List.mem_iff_getElem.1 hv
  have hkl:k < s.1.length:=by rw [←hlen1];exact hk
  have h4:=hget k
  rw [K97 hk,K97 hkl] at h4
  have h4:(sc.foldl (M8 p) s.1)[k]=if R3 sc k=true then J9 s.1[k] (J4 p) else s.1[k]:=Option.some.inj h4
  show 0≤(sc.foldl (M8 p) s.1)[k]∧(sc.foldl (M8 p) s.1)[k] < _
  rw [h4]
  have hv:=hlow s.1[k] (L15 hkl)
  split
  ·exact or_low hp hv
  ·have:2 ^ p≤2 ^ (p+1):=Nat.pow_le_pow_right (by decide) (by omega)
   omega
theorem B99 {ids:List (List Int)} {base:List Int} {n:Nat} (hb:base=ids.getD 0 []) (hl:∀x∈ids,x.length≤4096) (hbl:base.length≤4096):∀p,p≤32→x2 ids base.length n p=W9 ids base.length n p∧LowM p (x2 ids base.length n p).1∧(x2 ids base.length n p).1.length=base.length
 | 0,_=>by
  refine ⟨rfl,fun v hv=>?_,by simp [x2,E83]⟩
  have:=List.eq_of_mem_replicate (show v∈List.replicate base.length 0 from hv)
  subst this;decide
 | p+1,hp=>by
  obtain ⟨h1,h2,h3⟩:=B99 (n:=n) hb hl hbl p (by omega)
  have hfl:(ids.getD (p+1) []).length≤4096:=by
   rw [L00]
   cases hx:ids[p+1]? with
   | none=>simp
   | some x=>exact hl x (L13 hx)
  obtain ⟨s1,s2,s3⟩:=J62 (ids:=ids) (s:=x2 ids base.length n p) (p:=p) rfl hb (by omega) h2 h3 hfl hbl
  rw [B72,B62,s1,h1]
  rw [s1,h1] at s2 s3
  exact ⟨rfl,s2,s3⟩
theorem H61 (p:Int) (ms:List Int) (a b d:Int):M8 p ms ⟨a,b,d,0⟩=ms:=by
 refine List.ext_getElem? fun k=>?_
 rw [A38]
 cases h:ms[k]? with
 | none=>rfl
 | some v=>simp only [Option.map_some];rw [if_neg (by omega)]
theorem H62 (p:Int) (ms:List Int) (a b:Int) (d t:Nat) (h:d+t < ms.length):(M8 p ms ⟨a,b,d,t⟩)[d+t]?=some (ms.getD (d+t) 0)∧(M8 p ms ⟨a,b,d,t⟩).set (d+t) (J9 (ms.getD (d+t) 0) (J4 p))=M8 p ms ⟨a,b,d,((t+1:Nat):Int)⟩:=by
 have hg:ms[d+t]?=some (ms.getD (d+t) 0):=by rw [L00,K97 h];rfl
 refine ⟨?_,?_⟩
 ·rw [A38,hg]
  simp only [Option.map_some,L01]
  rw [if_neg (by omega)]
 ·refine List.ext_getElem? fun k=>?_
  rw [List.getElem?_set,A38,A38,x9]
  simp only [L01]
  by_cases hk:d+t=k
  ·subst hk
   rw [if_pos rfl,if_pos h,hg]
   simp only [Option.map_some]
   rw [if_pos (by omega)]
  ·rw [if_neg hk]
   cases ms[k]? with
   | none=>rfl
   | some v =>
    simp only [Option.map_some]
    by_cases g:d≤k∧k < d+t
    ·rw [if_pos g,if_pos (by omega)]
    ·rw [if_neg g,if_neg (by omega)]
end Go.AL
namespace Go.AL
open Go
def GrX (l:List Change) (m ctx:Int):Nat→List Hunk→Nat→Prop
 | a,[],k=>a=k
 | a,h::r,k=>∃b,a < b∧opens l ctx a∧(∀c,a < c→c < b→¬opens l ctx c)∧h=mkH l m ctx a b∧GrX l m ctx b r k
theorem GrX.le {l:List Change} {m ctx:Int}:∀{hs:List Hunk} {a k:Nat},GrX l m ctx a hs k→a≤k
 | [],a,k,h=>Nat.le_of_eq h
 | _::_,a,k,⟨b,h1,_,_,_,h2⟩=>by have:=GrX.le h2;omega
theorem GrX.snoc {l:List Change} {m ctx:Int} {k n:Nat} (ho:opens l ctx k) (hk:k < n) (hno:∀c,k < c→c < n→¬opens l ctx c):∀{hs:List Hunk} {a:Nat},GrX l m ctx a hs k→GrX l m ctx a (hs++[mkH l m ctx k n]) n
 | [],a,h=>by
  obtain rfl:a=k:=h
  exact ⟨n,hk,ho,hno,rfl,rfl⟩
 | _::_,a,⟨b,h1,h2,h3,h4,h5⟩=>⟨b,h1,h2,h3,h4,GrX.snoc ho hk hno h5⟩
theorem GrX.last {l:List Change} {m ctx:Int} {k:Nat} (hno:¬opens l ctx k):∀{hs:List Hunk} {a:Nat},GrX l m ctx a hs k→hs≠[]→GrX l m ctx a (hs.set (hs.length - 1) (C99 l m ctx k (hs.getD (hs.length - 1) I90))) (k+1)
 | [],_,_,h0=>absurd rfl h0
 | [h],a,⟨b,h1,h2,h3,h4,h5⟩,_=>by
  obtain rfl:b=k:=h5
  subst h4
  refine ⟨b+1,by omega,h2,fun c hc1 hc2=>?_,rfl,rfl⟩
  by_cases hcb:c=b
  ·rw [hcb];exact hno
  ·exact h3 c hc1 (by omega)
 | h::h'::r,a,⟨b,h1,h2,h3,h4,h5⟩,_=>by
  have ih:=GrX.last hno h5 (by simp)
  refine ⟨b,h1,h2,h3,h4,?_⟩
  simpa using ih
theorem GrX.len {l:List Change} {m ctx:Int}:∀{hs:List Hunk} {a k:Nat},GrX l m ctx a hs k→hs.length≤k - a
 | [],_,_,_=>Nat.zero_le _
 | _::_,a,k,⟨b,h1,_,_,_,h2⟩=>by have:=GrX.len h2;have:=h2.le;simp only [K99];omega
end Go.AL
namespace Go.AL
open Go
def A19:List Str→Int→List (Str × Cell)
 | [],_=>[]
 | s::r,i=>(s,.v (.int .i64 i))::A19 r (i+1)
theorem G09 (s:Str):∀(l:List Str) (i:Int),A19 (l++[s]) i=A19 l i++[(s,.v (.int .i64 (i+l.length)))]
 | [],i=>by simp [A19]
 | x::r,i=>by
  simp only [L23,A19,G09 s r,K99]
  rw [show i+1+(r.length:Int)=i+((r.length+1:Nat):Int) by omega]
theorem G10 (s:Str):∀(l:List Str) (i:Int),s∈l→A03 (A19 l i) s=some (.v (.int .i64 (I7 l s i)))
 | [],_,h=>by simp at h
 | x::r,i,h=>by
  simp only [A19,A03,I7]
  by_cases he:x=s
  ·rw [if_pos he,if_pos he]
  ·rw [if_neg he,if_neg he]
   exact G10 s r (i+1) ((List.mem_cons.1 h).resolve_left (fun q=>he q.symm))
theorem F01 (s:Str):∀(l:List Str) (i:Int),s∉l→A03 (A19 l i) s=none
 | [],_,_=>rfl
 | x::r,i,h=>by
  simp only [A19,A03]
  rw [if_neg (fun q=>h (by simp [q]))]
  exact F01 s r (i+1) (fun q=>h (by simp [q]))
theorem B73 (s:Str) (r:List Str):∀(l:List Str) (i:Int),s∈l→I7 (l++r) s i=I7 l s i
 | [],_,h=>by simp at h
 | x::l,i,h=>by
  simp only [L23,I7]
  by_cases he:x=s
  ·rw [if_pos he,if_pos he]
  ·rw [if_neg he,if_neg he]
   exact B73 s r l (i+1) ((List.mem_cons.1 h).resolve_left (fun q=>he q.symm))
theorem D92 (s:Str):∀(l:List Str) (i:Int),s∉l→I7 (l++[s]) s i=i+l.length
 | [],i,_=>by simp [I7]
 | x::l,i,h=>by
  simp only [L23,I7,K99]
  rw [if_neg (fun q=>h (by simp [q])),D92 s l (i+1) (fun q=>h (by simp [q]))]
  omega
theorem D06:∀(l out:List Str),∃r,l.foldl K7 out=out++r
 | [],out=>⟨[],by simp⟩
 | s::l,out=>by
  obtain ⟨r,hr⟩:=D06 l (K7 out s)
  rw [L31,hr]
  unfold K7
  split
  ·exact ⟨r,rfl⟩
  ·exact ⟨s::r,by simp⟩
def M5 (files:List (List Str)) (k j:Nat):List Str:=((files.take k).flatten++(files.getD k []).take j).foldl K7 []
theorem H63 (files:List (List Str)) (k:Nat):M5 files (k+1) 0=M5 files k (files.getD k []).length:=by
 unfold M5
 rw [List.take_zero,L21,L27]
 by_cases h:k < files.length
 ·rw [A50 files k h]
  congr 2
  simp [h]
 ·rw [L32 (by omega),L32 (by omega)]
  have:files.getD k []=[]:=by simp [show files.length≤k by omega]
  rw [this,L21]
theorem G80 (files:List (List Str)) (k j:Nat) (s:Str) (h:(files.getD k [])[j]?=some s):M5 files k (j+1)=K7 (M5 files k j) s:=by
 unfold M5
 have hj:j < (files.getD k []).length:=(List.getElem?_eq_some_iff.1 h).1
 have he:=(List.getElem?_eq_some_iff.1 h).2
 rw [L06 hj,he,←L09,L40]
 rfl
theorem H64 (files:List (List Str)):M5 files files.length 0=I8 files:=by
 unfold M5 I8
 rw [L27];simp
theorem D93 (files:List (List Str)) (k j:Nat):∃r,I8 files=M5 files k j++r:=by
 have h:∃m,files.flatten=((files.take k).flatten++(files.getD k []).take j)++m:=by
  refine ⟨(files.getD k []).drop j++(files.drop (k+1)).flatten,?_⟩
  by_cases hk:k < files.length
  ·have e:files=files.take k++files.getD k []::files.drop (k+1):=by
    have:files.getD k []=files[k]:=by simp [hk]
    rw [this,List.getElem_cons_drop,L35]
   conv=>lhs;rw [e]
   rw [L28,L16,L09]
   congr 1
   rw [←L09,L35]
  ·have:files.getD k []=[]:=by simp [show files.length≤k by omega]
   rw [this,L32 (by omega:files.length≤k),L07 (by omega:files.length≤k+1)]
   simp
 obtain ⟨m,hm⟩:=h
 unfold I8 M5
 rw [hm,L40]
 obtain ⟨r,hr⟩:=D06 m (((files.take k).flatten++(files.getD k []).take j).foldl K7 [])
 exact ⟨r,hr⟩
theorem F02 (files:List (List Str)) (k j:Nat):(M5 files k j).length≤files.flatten.length:=by
 obtain ⟨r,hr⟩:=D93 files k j
 have:=E78 files
 rw [hr,K96] at this;omega
def N3 (files:List (List Str)) (k:Nat):List TC:=(List.range files.length).map fun r=>if r < k then .p (.list Int 1 G6 (O9 (I8 files) (files.getD r []))) else .p (.v (.slice none 0 0))
theorem J63 {files:List (List Str)} {k:Nat} (h:k < files.length):(N3 files k)[k]?=some (.p (.v (.slice none 0 0))):=by
 simp [N3,h]
theorem G81 (files:List (List Str)) (k m:Nat) (_h:k < files.length):((N3 files k).set k (.buf m Int 1 G6 (O9 (I8 files) (files.getD k [])))).map (TC.forget m)=N3 files (k+1):=by
 have e1:(N3 files k).map (TC.forget m)=N3 files k:=by
  unfold N3
  rw [L34]
  apply List.map_congr_left
  intro r _
  simp only [Function.comp]
  split<;>rfl
 rw [List.map_set,e1]
 have e2:(TC.buf m Int 1 G6 (O9 (I8 files) (files.getD k []))).forget m=.p (.list Int 1 G6 (O9 (I8 files) (files.getD k []))):=by simp [TC.forget]
 rw [e2]
 unfold N3
 refine B94 _ _ _ _ _ (fun _=>by simp) (fun q hq hne=>?_)
 simp only [show (q < k+1)=(q < k) from propext ⟨fun h=>by omega,fun h=>by omega⟩]
theorem I45 (files:List (List Str)):List.replicate files.length (TC.p (.v (.slice none 0 0)))=N3 files 0:=by
 unfold N3
 simp only [Nat.not_lt_zero,if_false,List.map_const',L43]
theorem I46 (files:List (List Str)):N3 files files.length=(files.map (O9 (I8 files))).map fun x=>TC.p (intsC x 0):=by
 unfold N3
 apply List.ext_getElem
 ·simp
 ·intro i h1 h2
  have hi:i < files.length:=by simpa using h1
  simp [hi,intsC]
end Go.AL
namespace Go.AL
open Go
theorem I96 (m n:Int):∀(l:List Change) (k0:Nat) (i j:Int),(∀k,k < l.length→L9 (cAt l k).Old∧L9 (cAt l k).OldLen∧L9 (cAt l k).New∧L9 (cAt l k).NewLen∧(cAt l k).OldLen+(cAt l k).NewLen≠0∧(cAt l k).Old - eoI i l k=(cAt l k).New - enI j l k∧eoI i l k≤(cAt l k).Old∧(0 < k0+k→eoI i l k < (cAt l k).Old)) →
  (m - eoI i l l.length=n - enI j l l.length∧eoI i l l.length≤m)→K5 k0 i j l m n=true
 | [],k0,i,j,_,h=>by
  have h1:m - i=n - j∧i≤m:=h
  simp only [K5,decide_eq_true_eq];omega
 | c::r,k0,i,j,h,he=>by
  simp only [K5,K98,decide_eq_true_eq]
  refine ⟨?_,I96 m n r (k0+1) _ _ (fun k hk=>?_) ?_⟩
  ·obtain ⟨h1,h2,h3,h4,h5,h6,h7,h8⟩:=h 0 (by simp)
   have h1:L9 c.Old:=h1
   have h2:L9 c.OldLen:=h2
   have h3:L9 c.New:=h3
   have h4:L9 c.NewLen:=h4
   have h5:c.OldLen+c.NewLen≠0:=h5
   have h6:c.Old - i=c.New - j:=h6
   have h7:i≤c.Old:=h7
   have h8:0 < k0+0→i < c.Old:=h8
   unfold G74
   rintro (((((((q | q) | q) | q) | q) | q) | q) | ⟨q,q2⟩)
   ·exact q h1
   ·exact q h2
   ·exact q h3
   ·exact q h4
   ·exact h5 q
   ·exact q h6
   ·omega
   ·have:=h8 (by omega);omega
  ·have:=h (k+1) (by simpa using hk)
   rw [D02,y9,z6] at this
   obtain ⟨e1,e2,e3,e4,e5,e6,e7,e8⟩:=this
   exact ⟨e1,e2,e3,e4,e5,e6,e7,fun h0=>e8 (by omega)⟩
  ·rw [K99,y9,z6] at he;exact he
theorem I97 (x y:List Str):∀(l:List Change) (i j:Int),(∀k,k < l.length→sub x (eoI i l k) (cAt l k).Old=sub y (enI j l k) (cAt l k).New)→sub x (eoI i l l.length) x.length=sub y (enI j l l.length) y.length→D51 x y i j l
 | [],_,_,_,h=>h
 | c::r,i,j,h,he=>by
  refine ⟨h 0 (by simp),I97 x y r _ _ (fun k hk=>?_) ?_⟩
  ·have:=h (k+1) (by simpa using hk)
   rw [D02,y9,z6] at this;exact this
  ·rw [K99,y9,z6] at he;exact he
theorem I98 {x:List Str} {p q:Int} {t:Nat} (h0:0≤p) (h:p+t < q):(sub x p q)[t]?=x[(p+t).toNat]?:=by
 unfold sub
 rw [List.getElem?_take,if_pos (by omega),L25]
 congr 1;omega
theorem G82 {x y:List Str} {p q p' q':Int} (h:sub x p q=sub y p' q') (h0:0≤p) (h0':0≤p') (hq:q≤x.length) (he:q - p=q' - p') {t:Nat} (ht:p+t < q):∃v,x[(p+t).toNat]?=some v∧y[(p'+t).toNat]?=some v:=by
 have h1:x[(p+t).toNat]?=some x[(p+t).toNat]:=K97 (by omega)
 refine ⟨_,h1,?_⟩
 rw [←I98 (q:=q') h0' (by omega),←h,I98 h0 ht];exact h1
theorem D94 {i j:Int} {n:Nat} {p:Span} (h:p∈Q0 i j n):∃t:Nat,t < n∧p=⟨i+t,j+t⟩:=by
 unfold Q0 at h
 obtain ⟨t,h1,h2⟩:=List.mem_map.1 h
 exact ⟨t,List.mem_range.1 h1,h2.symm⟩
theorem F03 {x y:List Str}:∀(l:List Change) (k0:Nat) (i j:Int),K5 k0 i j l x.length y.length=true→D51 x y i j l→0≤i→0≤j→∀p∈K8 i j l x.length,EqAt x y p
 | [],k0,i,j,hs,he,hi,hj,p,hp=>by
  simp only [K5,decide_eq_true_eq] at hs
  unfold K8 at hp
  obtain ⟨t,ht,rfl⟩:=D94 hp
  have he:sub x i x.length=sub y j y.length:=he
  exact ⟨by dsimp only;omega,by dsimp only;omega,G82 he hi hj (by omega) (by omega) (by omega)⟩
 | c::r,k0,i,j,hs,he,hi,hj,p,hp=>by
  have hok:=A55 _ _ _ _ _ _ hs
  have g:=A07 x.length y.length (c::r) k0 i j hs 0 (by simp)
  obtain ⟨g1,g2,g3,g4,g5,g6,g7,_⟩:=g
  have g1:L9 c.Old:=g1
  have g2:L9 c.OldLen:=g2
  have g3:L9 c.New:=g3
  have g4:L9 c.NewLen:=g4
  have g6:c.Old - i=c.New - j:=g6
  have g7:i≤c.Old:=g7
  simp only [K5,K98,decide_eq_true_eq] at hs
  unfold K8 at hp
  unfold L9 at g1 g2 g3 g4
  have hm:=hok.2.2.2.2.2.2.end_le
  rcases List.mem_append.1 hp with hp | hp
  ·obtain ⟨t,ht,rfl⟩:=D94 hp
   exact ⟨by dsimp only;omega,by dsimp only;omega,G82 he.1 hi hj (by omega) (by omega) (by omega)⟩
  ·rw [show max i c.Old+c.OldLen=c.Old+c.OldLen by omega,show j+((c.Old - i).toNat:Int)+c.NewLen=c.New+c.NewLen by omega] at hp
   exact F03 r (k0+1) _ _ hs.2 he.2 (by omega) (by omega) p hp
theorem ScFit.pairs {x y:List Str} {l:List Change} (h:ScFit x y l):∀p∈j5 l x.length,EqAt x y p:=F03 l 0 0 0 h.sc h.eq (Int.le_refl _) (Int.le_refl _)
def D54 (c:Change):Change:=⟨c.Old+1,c.OldLen,c.New+1,c.NewLen⟩
def B18 (l:List Change) (k:Nat):List Change:=l.set k (D54 (cAt l k))
def atI (t:List Int) (i:Int):Int:=t.getD i.toNat 0
def I99 (l:List Change) (k:Nat) (t:List Int) (f n:Int):Prop:=(f+n < t.length∧atI t f=atI t (f+n))∧(k+1=l.length∨(cAt l k).Old+(cAt l k).OldLen+1 < (cAt l (k+1)).Old)
instance (l:List Change) (k:Nat) (t:List Int) (f n:Int):Decidable (I99 l k t f n):=by unfold I99;exact inferInstance
def E22 (l:List Change) (a b:List Int) (k:Nat):Bool :=
 if (cAt l k).NewLen=0 then decide (I99 l k a (cAt l k).Old (cAt l k).OldLen) else if (cAt l k).OldLen=0 then decide (I99 l k b (cAt l k).New (cAt l k).NewLen) else false
theorem p9 (l:List Change) (k:Nat):(B18 l k).length=l.length:=by simp [B18]
theorem C00 (l:List Change) {k:Nat} (hk:k < l.length) (q:Nat):cAt (B18 l k) q=if q=k then D54 (cAt l k) else cAt l q:=by
 unfold B18
 by_cases h:q=k
 ·subst h
  have:∀z,cAt (l.set q z) q=z:=fun z=>by unfold cAt;simp [hk]
  rw [if_pos rfl,this]
 ·rw [if_neg h];unfold cAt
  simp only [L00]
  rw [List.getElem?_set_ne (Ne.symm h)]
theorem D07 (l:List Change) {k:Nat} (hk:k < l.length) (q:Nat):eoI 0 (B18 l k) q=eoI 0 l q+(if q=k+1 then 1 else 0):=by
 cases q with
 | zero=>simp [eoI]
 | succ q =>
  rw [B67,B67,C00 l hk]
  by_cases h:q=k
  ·subst h;rw [if_pos rfl,if_pos rfl];simp only [B35,D54];omega
  ·rw [if_neg h,if_neg (by omega)];omega
theorem D08 (l:List Change) {k:Nat} (hk:k < l.length) (q:Nat):enI 0 (B18 l k) q=enI 0 l q+(if q=k+1 then 1 else 0):=by
 cases q with
 | zero=>simp [enI]
 | succ q =>
  rw [B68,B68,C00 l hk]
  by_cases h:q=k
  ·subst h;rw [if_pos rfl,if_pos rfl];simp only [G76,D54];omega
  ·rw [if_neg h,if_neg (by omega)];omega
structure IdsOf (x:List Str) (a:List Int):Prop where
 len:a.length=x.length
 inj:∀(i j:Nat) (u v:Str) (z:Int),x[i]?=some u→x[j]?=some v→a[i]?=some z→a[j]?=some z→u=v
theorem ScFit.down {x y:List Str} {l:List Change} {a b:List Int} (h:ScFit x y l) (ha:IdsOf x a) (hb:IdsOf y b) {k:Nat} (hk:k < l.length) (hd:E22 l a b k=true):ScFit x y (B18 l k):=by
 have hlx:=h.lx
 have hly:=h.ly
 have hg:=A07 _ _ _ 0 0 0 h.sc
 have hge:=G77 _ _ _ 0 0 0 h.sc
 have hq:=E88 _ _ _ _ _ h.eq
 have hqe:=G78 _ _ _ _ _ h.eq
 have hok:=h.ok
 obtain ⟨c,hc⟩:∃c,c=cAt l k:=⟨_,rfl⟩
 obtain ⟨g1,g2,g3,g4,g5,g6,g7,g8⟩:=hg k hk
 have hb4:=hok.get k hk
 rw [←hc] at g1 g2 g3 g4 g5 g6 g7 g8 hb4
 unfold L9 at g1 g2 g3 g4
 have eo1:eoI 0 l (k+1)=c.Old+c.OldLen:=by rw [B67,←hc];rfl
 have en1:enI 0 l (k+1)=c.New+c.NewLen:=by rw [B68,←hc];rfl
 obtain ⟨E,E',hE1,hE2,hE3,hE4,hE5,hEn⟩:∃E E':Int,sub x (c.Old+c.OldLen) E=sub y (c.New+c.NewLen) E'∧E - (c.Old+c.OldLen)=E' - (c.New+c.NewLen)∧E≤x.length∧E'≤y.length∧(c.Old+c.OldLen < E)∧(k+1 < l.length→E=(cAt l (k+1)).Old∧E'=(cAt l (k+1)).New∧c.Old+c.OldLen+1 < E):=by
  by_cases hl:k+1=l.length
  ·rw [←hl,eo1,en1] at hge hqe
   refine ⟨x.length,y.length,hqe,by omega,by omega,by omega,?_,fun q=>absurd hl (by omega)⟩
   unfold E22 at hd
   rw [←hc] at hd
   split at hd
   ·have:=(A0 hd).1.1;rw [ha.len] at this;omega
   ·split at hd
    ·have:=(A0 hd).1.1;rw [hb.len] at this;omega
    ·cases hd
  ·have hl:k+1 < l.length:=by omega
   obtain ⟨f1,f2,f3,f4,f5,f6,f7,f8⟩:=hg (k+1) hl
   have f9:=hq (k+1) hl
   have f10:=hok.get (k+1) hl
   rw [eo1,en1] at f6 f9
   rw [eo1] at f7
   unfold L9 at f2 f4
   have hroom:c.Old+c.OldLen+1 < (cAt l (k+1)).Old:=by
    unfold E22 at hd
    rw [←hc] at hd
    split at hd
    ·have:=(A0 hd).2;rw [←hc] at this;omega
    ·split at hd
     ·have:=(A0 hd).2;rw [←hc] at this;omega
     ·cases hd
   exact ⟨_,_,f9,by omega,by omega,by omega,by omega,fun _=>⟨rfl,rfl,hroom⟩⟩
 have hv:∃v,x[c.Old.toNat]?=some v∧y[c.New.toNat]?=some v:=by
  obtain ⟨v,v1,v2⟩:=G82 (t:=0) hE1 (by omega) (by omega) (by omega) hE2 (by omega)
  simp only [Int.natCast_zero,Int.add_zero] at v1 v2
  unfold E22 at hd
  rw [←hc] at hd
  split at hd
  ·rename_i hn
   have:=(A0 hd).1.2
   rw [hn,Int.add_zero] at v2
   refine ⟨v,?_,v2⟩
   have l1:c.Old.toNat < a.length:=by rw [ha.len];omega
   have l2:(c.Old+c.OldLen).toNat < a.length:=by rw [ha.len];omega
   have hx:x[c.Old.toNat]?=some x[c.Old.toNat]:=K97 (by omega)
   have ea:a[c.Old.toNat]?=some (atI a c.Old):=by unfold atI;rw [L00,K97 l1];rfl
   have eb:a[(c.Old+c.OldLen).toNat]?=some (atI a (c.Old+c.OldLen)):=by unfold atI;rw [L00,K97 l2];rfl
   rw [←this] at eb
   have:=ha.inj _ _ _ _ _ hx v1 ea eb
   rw [hx,this]
  ·split at hd
   ·rename_i _ hn
    have:=(A0 hd).1.2
    rw [hn,Int.add_zero] at v1
    refine ⟨v,v1,?_⟩
    have l1:c.New.toNat < b.length:=by rw [hb.len];omega
    have l2:(c.New+c.NewLen).toNat < b.length:=by rw [hb.len];omega
    have hx:y[c.New.toNat]?=some y[c.New.toNat]:=K97 (by omega)
    have ea:b[c.New.toNat]?=some (atI b c.New):=by unfold atI;rw [L00,K97 l1];rfl
    have eb:b[(c.New+c.NewLen).toNat]?=some (atI b (c.New+c.NewLen)):=by unfold atI;rw [L00,K97 l2];rfl
    rw [←this] at eb
    have:=hb.inj _ _ _ _ _ hx v2 ea eb
    rw [hx,this]
   ·cases hd
 obtain ⟨v,v1,v2⟩:=hv
 have hen0:0≤eoI 0 l k∧0≤enI 0 l k:=by
  cases k with
  | zero=>simp [eoI,enI]
  | succ k =>
   obtain ⟨f1,f2,f3,f4,_⟩:=hg k (by omega)
   unfold L9 at f1 f2 f3 f4
   rw [B67,B68];unfold B35 G76;omega
 have htail:sub x (c.Old+c.OldLen+1) E=sub y (c.New+c.NewLen+1) E':=by
  have:=B69 (e:=E - (c.Old+c.OldLen) - 1) hE1 (by omega) (by omega) (by omega) (by omega) hE2
  rw [show E - (E - (c.Old+c.OldLen) - 1)=c.Old+c.OldLen+1 by omega,show E' - (E - (c.Old+c.OldLen) - 1)=c.New+c.NewLen+1 by omega] at this
  exact this
 refine ⟨hlx,hly,I96 _ _ _ 0 0 0 (fun q hql=>?_) ?_,I97 _ _ _ 0 0 (fun q hql=>?_) ?_⟩
 ·rw [p9] at hql
  rw [C00 l hk,D07 l hk,D08 l hk]
  by_cases e:q=k
  ·rw [if_pos e,if_neg (show ¬q=k+1 by omega),e,←hc]
   unfold L9
   simp only [D54]
   refine ⟨by omega,g2,by omega,g4,g5,by omega,by omega,fun _=>by omega⟩
  ·rw [if_neg e]
   obtain ⟨f1,f2,f3,f4,f5,f6,f7,f8⟩:=hg q hql
   refine ⟨f1,f2,f3,f4,f5,?_,?_,?_⟩
   ·by_cases e2:q=k+1
    ·rw [if_pos e2];omega
    ·rw [if_neg e2];omega
   ·by_cases e2:q=k+1
    ·rw [if_pos e2];have:=f8 (by omega);omega
    ·rw [if_neg e2];omega
   ·intro h0
    by_cases e2:q=k+1
    ·rw [if_pos e2,e2,eo1]
     have:=(hEn (by omega))
     omega
    ·rw [if_neg e2];have:=f8 h0;omega
 ·rw [p9,D07 l hk,D08 l hk]
  by_cases e2:l.length=k+1
  ·rw [if_pos e2,e2,eo1,en1]
   rw [e2,eo1,en1] at hge
   have h1:E≤x.length:=hE3
   omega
  ·rw [if_neg e2];omega
 ·rw [p9] at hql
  rw [C00 l hk,D07 l hk,D08 l hk]
  by_cases e:q=k
  ·rw [if_pos e,if_neg (show ¬q=k+1 by omega),e,←hc]
   simp only [D54,Int.add_zero]
   have:=hq k hk
   rw [←hc] at this
   rw [H57 hen0.1 g7 v1,H57 hen0.2 (by omega) v2,this]
  ·rw [if_neg e]
   by_cases e2:q=k+1
   ·rw [if_pos e2]
    subst e2
    obtain ⟨q1,q2,_⟩:=hEn hql
    rw [eo1,en1,←q1,←q2];exact htail
   ·rw [if_neg e2,Int.add_zero,Int.add_zero]
    exact hq q hql
 ·rw [p9,D07 l hk,D08 l hk]
  by_cases e2:l.length=k+1
  ·rw [if_pos e2]
   rw [e2,eo1,en1] at hqe hge ⊢
   have:=B69 (e:=x.length - (c.Old+c.OldLen) - 1) hqe (by omega) (by omega) (by omega) (by omega) (by omega)
   rw [show (x.length:Int) - (x.length - (c.Old+c.OldLen) - 1)=c.Old+c.OldLen+1 by omega,show (y.length:Int) - (x.length - (c.Old+c.OldLen) - 1)=c.New+c.NewLen+1 by omega] at this
   exact this
  ·rw [if_neg e2,Int.add_zero,Int.add_zero];exact hqe
section
variable {x y:List Str} {a b:List Int} (ha:IdsOf x a) (hb:IdsOf y b)
include ha hb
omit ha hb in
omit ha hb in
end
end Go.AL
namespace Go.AL
open Go
structure Made12 (on nn a b:Str) (l:List Change) (ctx:Int):Prop where
 chk:D01 ⟨on,nn,c9 l (C3 a) (C3 b) ctx⟩=0
 wr:(I91 ⟨on,nn,c9 l (C3 a) (C3 b) ctx⟩).length≤16777216
 fit:PFit ⟨on,nn,c9 l (C3 a) (C3 b) ctx⟩
 rg:∀h∈c9 l (C3 a) (C3 b) ctx,(-4611686018427387904≤h.Old∧h.Old≤4611686018427387904)∧(-4611686018427387904≤h.New∧h.New≤4611686018427387904)
 sz:szP (c9 l (C3 a) (C3 b) ctx)≤268435456
end Go.AL
namespace Go.AL
open Go
section
variable {x y:List Str} {l:List Change}
end
end Go.AL
namespace Go.AL
open Go
def ChainH (x y:List Str) (i j:Int):List PatchHunk→Prop
 | []=>sub x i x.length=sub y j y.length∧0≤i∧0≤j∧i≤x.length∧j≤y.length
 | h::r=>(sub x i h.Old=sub y j h.New∧G5 h.Lines 43=sub x h.Old (h.Old+A84 h)∧G5 h.Lines 45=sub y h.New (h.New+A85 h))∧(0≤i∧0≤j∧i≤h.Old∧j≤h.New∧h.Old+A84 h≤x.length∧h.New+A85 h≤y.length)∧ChainH x y (h.Old+A84 h) (h.New+A85 h) r
theorem ScFit.chain {x y:List Str} {l:List Change} (h:ScFit x y l) {ctx:Int} (hc:0≤ctx):∀(hs:List Hunk) (a:Nat),GrOk l x.length ctx a hs l.length →
  ∀(i j e:Int),i=eoI 0 l a+e→j=enI 0 l a+e→0≤e→e≤ctx→(a=0→e=0)→i≤x.length→j≤y.length→ChainH x y i j (hs.map (X4 l x y))
 | [],a,hr,i,j,e,hi,hj,he,_,_,hix,hjy=>by
  have hr:a=l.length:=hr
  have hq:=G78 _ _ _ _ _ h.eq
  have hge:=G77 _ _ _ 0 0 0 h.sc
  obtain ⟨r1,r2,r3,r4⟩:=h.nn a (by omega)
  rw [←hr] at hq hge
  refine ⟨?_,by omega,by omega,hix,hjy⟩
  have:=B69 (e:=x.length - i) hq r1 r2 (by omega) (by omega) (by omega)
  rw [show (x.length:Int) - (x.length - i)=i by omega,show (y.length:Int) - (x.length - i)=j by omega] at this
  exact this
 | hk::hs,a,⟨b,hab,ho,hE,hr⟩,i,j,e,hi,hj,he,hec,he0,hix,hjy=>by
  have hb:=hr.le
  have hob:b < l.length→opens l ctx b:=by
   intro hlt
   cases hs with
   | nil=>exact absurd hr (by show ¬b=l.length;omega)
   | cons h2 hs2=>obtain ⟨_,_,ho2,_⟩:=hr;exact ho2
  obtain ⟨w1,w2,w3,w4,w5⟩:=h.after hc hb hob (by omega)
  obtain ⟨q1,q2,q3⟩:=h.before hc (show a < l.length by omega) ho
  have H:=h.hunk hc hab hb ho hob
  rw [←hE] at H
  obtain ⟨P,hP⟩:∃P,P=X4 l x y hk:=⟨_,rfl⟩
  rw [←hP] at H
  have ih:=ScFit.chain h hc hs b hr (P.Old+A84 P) (P.New+A85 P) (eB l x.length ctx b) H.oe H.ne w1 w2 (by omega) H.ox H.ny
  obtain ⟨k1,⟨k2,k2'⟩,k3,⟨k4,k4'⟩,k5,k6,k7,k8⟩:=A07 _ _ _ _ _ _ h.sc a (show a < l.length by omega)
  have h1:=H.old
  have h2:=H.new
  have h3:=H.o0
  have h4:=H.n0
  have hgap:e+eA l ctx a≤(cAt l a).Old - eoI 0 l a:=by
   by_cases h0:a=0
   ·have:=he0 h0;omega
   ·have:=B96 ho h0;omega
  obtain ⟨r1,r2,r3,r4⟩:=h.nn a (by omega)
  have hij:i≤P.Old∧j≤P.New∧P.Old - i=P.New - j∧0≤i∧0≤j:=by omega
  have hrun:=E88 _ _ _ _ _ h.eq a (show a < l.length by omega)
  have t1:=B69 (e:=(cAt l a).Old - i) hrun r1 r2 (by omega) (by omega) (by omega)
  rw [show (cAt l a).Old - ((cAt l a).Old - i)=i by omega,show (cAt l a).New - ((cAt l a).Old - i)=j by omega] at t1
  have t2:=E89 (e:=P.Old - i) t1 (by omega) (by omega) (by omega) (by omega) (by omega)
  rw [show i+(P.Old - i)=P.Old by omega,show j+(P.Old - i)=P.New by omega] at t2
  rw [L04,←hP]
  exact ⟨⟨t2,H.ol,H.nl⟩,⟨by omega,by omega,hij.1,hij.2.1,H.ox,H.ny⟩,ih⟩
theorem B19:∀(y:List Str),(∀s∈y,J7 s=true)→R2 y=true→B60 y=true
 | [],_,_=>rfl
 | s::r,h,he=>by
  simp only [R2,K98] at he
  simp only [B60,K98]
  exact ⟨⟨h s (List.mem_cons_self ..),he.1⟩,B19 r (fun t ht=>h t (List.mem_cons_of_mem _ ht)) he.2⟩
end Go.AL
namespace Go.AL
open Go
def Z8 (c:UInt8):Bool:=decide (48≤c.toNat∧c.toNat≤57)
def L6 (s:Str):Str:=s.takeWhile Z8
def A43 (ds:Str):Nat:=ds.foldl (fun n c=>10*n+(c.toNat - 48)) 0
def a8 (s:Str):Option (Nat × Nat) :=
 if L6 s=[]∨(s.head?=some 48∧1 < (L6 s).length)∨2147483647 < A43 (L6 s) then none else some (A43 (L6 s),(L6 s).length)
theorem G11 (ds:Str) (c:UInt8):A43 (ds++[c])=10*A43 ds+(c.toNat - 48):=by
 unfold A43;rw [L40];rfl
theorem x3 (k:Nat) (h:k < 10):(UInt8.ofNat (48+k)).toNat=48+k:=by
 rw [UInt8.toNat_ofNat'];omega
theorem C51 (u:Nat):(∀c∈Lib.decDigits u,Z8 c=true)∧A43 (Lib.decDigits u)=u∧Lib.decDigits u≠[]∧((Lib.decDigits u).head?=some 48→u=0)∧(1 < (Lib.decDigits u).length→10≤u):=by
 induction u using Nat.strongRecOn with
 | _ u ih =>
  rw [Lib.decDigits]
  split
  ·rename_i h
   refine ⟨?_,?_,by simp,?_,by simp⟩
   ·intro c hc
    simp only [L22,L24,or_false] at hc
    subst hc;unfold Z8;rw [x3 u h];simp;omega
   ·unfold A43;simp only [L31,List.foldl_nil];rw [x3 u h];omega
   ·intro h1
    simp only [List.head?_cons,Option.some.injEq] at h1
    have:=congrArg UInt8.toNat h1
    rw [x3 u h] at this
    have e:(48:UInt8).toNat=48:=rfl
    omega
  ·rename_i h
   obtain ⟨h1,h2,h3,h4,h5⟩:=ih (u / 10) (by omega)
   have h6:u % 10 < 10:=Nat.mod_lt _ (by omega)
   refine ⟨?_,?_,by simp,?_,fun _=>by omega⟩
   ·intro c hc
    rcases List.mem_append.1 hc with hc | hc
    ·exact h1 c hc
    ·simp only [L22,L24,or_false] at hc
     subst hc;unfold Z8;rw [x3 _ h6];simp;omega
   ·rw [G11,h2,x3 _ h6];omega
   ·intro h7
    rw [List.head?_append] at h7
    cases hd:(Lib.decDigits (u / 10)).head? with
    | none=>exact absurd (List.head?_eq_none_iff.1 hd) h3
    | some x =>
     rw [hd] at h7
     have h7:x=48:=by simpa using h7
     have:=h4 (by rw [hd,h7])
     omega
theorem K28 {ds t:Str} (h:∀c∈ds,Z8 c=true) (ht:∀c,t.head?=some c→Z8 c=false):L6 (ds++t)=ds:=by
 unfold L6
 rw [List.takeWhile_append_of_pos h]
 cases t with
 | nil=>simp
 | cons c r=>rw [List.takeWhile_cons,ht c rfl];simp
theorem D09 {n:Int} (h0:0≤n) (h1:n≤2147483647):K0 n=Lib.decDigits n.toNat:=by
 unfold K0 Lib.itoa;rw [if_neg (by omega),if_neg (by omega)]
theorem C01 {n:Int} {t:Str} (h0:0≤n) (h1:n≤2147483647) (ht:∀c,t.head?=some c→Z8 c=false):a8 (K0 n++t)=some (n.toNat,(K0 n).length):=by
 rw [D09 h0 h1]
 obtain ⟨h2,h3,h4,h5,h6⟩:=C51 n.toNat
 have e:=K28 h2 ht
 unfold a8
 rw [e,h3]
 rw [if_neg]
 rintro (h | ⟨h,h'⟩ | h)
 ·exact h4 h
 ·have h7:(Lib.decDigits n.toNat).head?=some 48:=by
   rw [List.head?_append] at h
   cases hd:(Lib.decDigits n.toNat).head? with
   | none=>exact absurd (List.head?_eq_none_iff.1 hd) h4
   | some x=>rw [hd] at h;simpa using h
  have:=h5 h7;have:=h6 h';omega
 ·omega
def D55 (s:Str) (a c:Nat) (e:Nat):Option (Int × Int × Nat) :=
 if J0 (if 0 < c then (a:Int) - 1 else a) c=s.take e then some ((if 0 < c then (a:Int) - 1 else a),(c:Int),e) else none
def t7 (s:Str):Option (Int × Int × Nat) :=
 match a8 s with
 | none=>none
 | some (a,k)=>if s[k]?=some 44 then (match a8 (s.drop (k+1)) with | none=>none | some (c,k2)=>D55 s a c (k+1+k2)) else D55 s a 1 k
theorem D56 {s:Str} {a c e:Nat} {st:Int} (hst:st=if 0 < c then (a:Int) - 1 else a) (h:J0 st c=s.take e):D55 s a c e=some (st,(c:Int),e):=by
 unfold D55;rw [←hst,if_pos h]
theorem J64 {a n:Int} {t:Str} (h0:0≤a) (h1:0≤n) (h2:a≤2147483647) (h3:n≤2147483647 - a) (ht:∀c,t.head?=some c→Z8 c=false∧c≠44):t7 (J0 a n++t)=some (a,n,(J0 a n).length):=by
 have hr:J0 a n=if n=0 then K0 a++[44,48] else if n=1 then K0 (a+1) else K0 (a+1)++[44]++K0 n:=by
  unfold J0;rw [if_neg (by omega)]
 have hf0:K0 0=[48]:=by rw [D09 (by omega) (by omega)];rw [Lib.decDigits];rfl
 have hd44:Z8 44=false:=by decide
 have hT:(J0 a n++t).take (J0 a n).length=J0 a n:=List.take_left
 by_cases hn0:n=0
 ·subst hn0
  rw [if_pos rfl] at hr
  have e1:J0 a 0++t=K0 a++(44::(K0 0++t)):=by rw [hr,hf0];simp
  have ed:(K0 a++(44::(K0 0++t))).drop ((K0 a).length+1)=K0 0++t:=by rw [List.drop_append];simp
  have el:(K0 a).length+1+(K0 0).length=(J0 a 0).length:=by rw [hr,hf0];simp
  rw [e1] at hT ⊢
  unfold t7
  rw [C01 h0 h2 (by intro c hc;cases hc;exact hd44)]
  dsimp only
  rw [if_pos (by simp),ed,C01 (n:=0) (by omega) (by omega) (fun c hc=>(ht c hc).1)]
  dsimp only
  rw [el]
  exact D56 (st:=a) (c:=0) (by simp;omega) hT.symm
 ·by_cases hn1:n=1
  ·subst hn1
   rw [if_neg (by omega),if_pos rfl] at hr
   rw [hr] at hT ⊢
   unfold t7
   rw [C01 (by omega) (by omega) (fun c hc=>(ht c hc).1)]
   dsimp only
   rw [if_neg]
   ·exact D56 (st:=a) (c:=1) (by simp;omega) (by rw [hT];exact hr)
   ·rw [L12 (Nat.le_refl _),L51]
    cases t with
    | nil=>simp
    | cons c r=>simp;exact fun e=>(ht c rfl).2 e
  ·rw [if_neg hn0,if_neg hn1] at hr
   have e1:J0 a n++t=K0 (a+1)++(44::(K0 n++t)):=by rw [hr];simp
   have ed:(K0 (a+1)++(44::(K0 n++t))).drop ((K0 (a+1)).length+1)=K0 n++t:=by rw [List.drop_append];simp
   have el:(K0 (a+1)).length+1+(K0 n).length=(J0 a n).length:=by rw [hr];simp;omega
   have e4:((n.toNat:Nat):Int)=n:=by omega
   rw [e1] at hT ⊢
   unfold t7
   rw [C01 (by omega) (by omega) (by intro c hc;cases hc;exact hd44)]
   dsimp only
   rw [if_pos (by simp),ed,C01 (n:=n) (by omega) (by omega) (fun c hc=>(ht c hc).1)]
   dsimp only
   rw [el]
   have:=D56 (s:=K0 (a+1)++(44::(K0 n++t))) (a:=(a+1).toNat) (c:=n.toNat) (e:=(J0 a n).length) (st:=a) (by rw [if_pos (by omega)];omega) (by rw [hT,e4])
   rw [this,e4]
def octV (a b c:UInt8):Option UInt8 :=
 if ((((((a.toNat < 48∨55 < a.toNat)∨b.toNat < 48)∨55 < b.toNat)∨c.toNat < 48)∨55 < c.toNat)∨256≤64*(a.toNat - 48)+8*(b.toNat - 48)+(c.toNat - 48)) then none
 else some (UInt8.ofNat (64*(a.toNat - 48)+8*(b.toNat - 48)+(c.toNat - 48)))
def B33:Str→Option (UInt8 × Nat)
 | []=>none
 | d::r=>if d.toNat=34∨d.toNat=92 then some (d,1) else if d.toNat=110 then some (10,1) else if d.toNat=116 then some (9,1) else match r with
  | e::f::_=>(octV d e f).map fun x=>(x,3)
  | _=>none
theorem G12 {s:Str} {x:UInt8} {k:Nat} (h:B33 s=some (x,k)):1≤k∧k≤s.length:=by
 cases s with
 | nil=>cases h
 | cons d r =>
  simp only [B33] at h
  split at h
  ·cases h;simp
  ·split at h
   ·cases h;simp
   ·split at h
    ·cases h;simp
    ·split at h
     ·simp only [Option.map_eq_some_iff] at h
      obtain ⟨_,_,h⟩:=h
      cases h;simp
     ·cases h
def L8 (s:Str) (i:Nat) (acc:Str):Option (Str × Nat) :=
 if h:i < s.length then
  if s[i].toNat=34 then some (acc,i+1)
  else if s[i].toNat=92 then (match he:B33 (s.drop (i+1)) with | none=>none | some (x,k)=>L8 s (i+1+k) (acc++[x]))
  else L8 s (i+1) (acc++[s[i]])
 else none
termination_by s.length - i
decreasing_by all_goals omega
def Y7 (s:Str):Option (Str × Nat) :=
 if s.head?=some 34 then (match L8 s 1 [] with | none=>none | some (w,k)=>if I9 w=s.take k then some (w,k) else none)
 else if s.takeWhile R9=[] then none else some (s.takeWhile R9,(s.takeWhile R9).length)
theorem I47 {s:Str} (n:Nat):∀{i:Nat} {acc w:Str} {k:Nat},s.length - i≤n→L8 s i acc=some (w,k)→i < k∧k≤s.length∧w.length+i≤acc.length+k:=by
 induction n with
 | zero =>
  intro i acc w k hn h
  rw [L8,dif_neg (by omega)] at h;cases h
 | succ n ih =>
  intro i acc w k hn h
  rw [L8] at h
  split at h
  ·rename_i hi
   split at h
   ·cases h;omega
   ·split at h
    ·split at h
     ·cases h
     ·rename_i x k' he
      have h1:=G12 he
      rw [L05] at h1
      have:=ih (by omega) h
      rw [K96] at this;simp only [K99,L02] at this;omega
    ·have:=ih (by omega) h
     rw [K96] at this;simp only [K99,L02] at this;omega
  ·cases h
theorem K29 (c:UInt8) (pre r acc:Str):L8 (pre++(U1 c++(r++[34]))) pre.length acc=L8 (pre++(U1 c++(r++[34]))) (pre.length+(U1 c).length) (acc++[c]):=by
 have hc:=c.toNat_lt
 have hget:∀(d:UInt8) (l:Str),(pre++d::l)[pre.length]?=some d:=by intro d l;rw [L12 (Nat.le_refl _),L51];rfl
 have hdrop:∀(d:UInt8) (l:Str),(pre++d::l).drop (pre.length+1)=l:=by intro d l;rw [List.drop_append];simp
 have e92:(92:UInt8).toNat=92:=rfl
 have e110:(110:UInt8).toNat=110:=rfl
 have e116:(116:UInt8).toNat=116:=rfl
 have key:∀(l:Str) (k:Nat),B33 (l++(r++[34]))=some (c,k)→k=l.length→L8 (pre++((92::l)++(r++[34]))) pre.length acc=L8 (pre++((92::l)++(r++[34]))) (pre.length+(92::l).length) (acc++[c]):=by
  intro l k hl hk
  subst hk
  rw [L8,dif_pos (by simp)]
  have hg:(pre++((92::l)++(r++[34])))[pre.length]'(by simp)=92:=by
   have:=hget 92 (l++(r++[34]))
   rw [K97 (by simp)] at this
   exact Option.some.inj this
  rw [hg,if_neg (by decide),if_pos e92]
  have hd:(pre++((92::l)++(r++[34]))).drop (pre.length+1)=l++(r++[34]):=hdrop 92 _
  split
  ·rename_i he;rw [hd,hl] at he;cases he
  ·rename_i x k' he
   rw [hd,hl] at he;cases he
   rw [K99,show pre.length+1+l.length=pre.length+(l.length+1) by omega]
 unfold U1
 split
 ·rename_i h
  refine key [c] 1 ?_ rfl
  simp only [L23,L18,B33]
  rw [if_pos h]
 ·rename_i h
  split
  ·rename_i h1
   refine key [110] 1 ?_ rfl
   simp only [L23,L18,B33]
   rw [if_neg (by decide),if_pos (by decide)]
   have:c=10:=UInt8.toNat_inj.1 h1
   rw [this]
  ·rename_i h1
   split
   ·rename_i h2
    refine key [116] 1 ?_ rfl
    simp only [L23,L18,B33]
    rw [if_neg (by decide),if_neg (by decide),if_pos (by decide)]
    have:c=9:=UInt8.toNat_inj.1 h2
    rw [this]
   ·rename_i h2
    split
    ·rename_i h3
     refine key (G03 c) 3 ?_ (by rw [A54];rfl)
     rw [A54]
     have t:∀k,k < 8→(UInt8.ofNat (48+k)).toNat=48+k:=fun k hk=>x3 k (by omega)
     have t1:=t (c.toNat / 64) (by omega)
     have t2:=t (c.toNat / 8 % 8) (by omega)
     have t3:=t (c.toNat % 8) (by omega)
     simp only [L23,L18,B33]
     rw [t1,if_neg (by omega),if_neg (by omega),if_neg (by omega)]
     unfold octV
     rw [t1,t2,t3,if_neg (by omega)]
     simp only [Option.map_some,Option.some.injEq,Prod.mk.injEq,and_true]
     apply UInt8.toNat_inj.1
     rw [UInt8.toNat_ofNat'];omega
    ·rw [L8,dif_pos (by simp)]
     have hg:(pre++([c]++(r++[34])))[pre.length]'(by simp)=c:=by
      have:=hget c (r++[34])
      rw [K97 (by simp)] at this
      exact Option.some.inj this
     rw [hg,if_neg (by omega),if_neg (by omega)]
     rfl
theorem word_go (w:Str):∀(pre acc:Str),L8 (pre++((w.map U1).flatten++[34])) pre.length acc=some (acc++w,(pre++((w.map U1).flatten++[34])).length):=by
 induction w with
 | nil =>
  intro pre acc
  rw [L8,dif_pos (by simp)]
  have hg:(pre++((([]:Str).map U1).flatten++[34]))[pre.length]'(by simp)=34:=by simp
  rw [hg,if_pos (show (34:UInt8).toNat=34 from rfl)];simp
 | cons c r ih =>
  intro pre acc
  have e:(((c::r).map U1).flatten++[34])=U1 c++((r.map U1).flatten++[34]):=by simp
  rw [e,K29]
  have h1:=ih (pre++U1 c) (acc++[c])
  rw [L09,K96,L09 acc] at h1
  exact h1
theorem C28 {p:UInt8→Bool}:∀{w:Str},w.all p=true→w.takeWhile p=w
 | [],_=>rfl
 | c::r,h=>by
  simp only [List.all_cons,K98] at h
  rw [List.takeWhile_cons,if_pos h.1,C28 h.2]
theorem I48 (w:Str):Y7 (I9 w)=some (w,(I9 w).length):=by
 unfold Y7
 by_cases h:w≠[]∧w.all R9=true
 ·have e:I9 w=w:=by unfold I9;rw [if_pos h]
  rw [e]
  have e2:w.takeWhile R9=w:=by
   exact C28 h.2
  rw [e2,if_neg,if_neg h.1]
  intro h34
  cases w with
  | nil=>exact h.1 rfl
  | cons c r =>
   simp only [List.head?_cons,Option.some.injEq] at h34
   subst h34
   have:=h.2
   simp only [List.all_cons,K98] at this
   exact absurd this.1 (by decide)
 ·have e:I9 w=[34]++((w.map U1).flatten++[34]):=by unfold I9;rw [if_neg h];rfl
  have e2:=word_go w [34] []
  rw [←e] at e2
  rw [if_pos (by rw [e];rfl),show L8 (I9 w) 1 []=_ from e2]
  dsimp only
  rw [L18,L27,if_pos rfl]
end Go.AL
namespace Go.AL
open Go
def x4 (s:Str):Option (List Str):=if s=[] then some [] else if ended s=true then some ((C3 s).map List.dropLast) else none
theorem B20 (a b cur:Str) (h:(10:UInt8)∉a):F7 cur (a++10::b)=(cur++a++[10])::F7 [] b:=by
 induction a generalizing cur with
 | nil=>simp [F7]
 | cons c r ih =>
  simp only [L22,not_or] at h
  rw [L23,W3,if_neg (fun e=>h.1 e.symm),ih _ h.2];simp
def Q3 (ts:List Str):Str:=(ts.map fun t=>t++[10]).flatten
theorem D10:∀(ts:List Str),(∀t∈ts,(10:UInt8)∉t)→C3 (Q3 ts)=ts.map fun t=>t++[10]
 | [],_=>rfl
 | t::r,h=>by
  have ih:=D10 r (fun x hx=>h x (by simp [hx]))
  have e:Q3 (t::r)=t++10::Q3 r:=by unfold Q3;simp
  have h1:=B20 t (Q3 r) [] (h t (by simp))
  unfold C3 at ih ⊢
  rw [e,h1,ih];simp
theorem D57 (a:Str):ended (a++[10])=true:=by unfold ended;simp
theorem ended_iff {s:Str}:ended s=true↔∃a,s=a++[10]:=by
 constructor
 ·intro h
  unfold ended at h
  have h:s.getLast?=some 10:=by simpa using h
  obtain ⟨ys,hy⟩:=List.getLast?_eq_some_iff.1 h
  exact ⟨ys,hy⟩
 ·rintro ⟨a,rfl⟩;exact D57 a
theorem G83 {ts:List Str} (h:ts≠[]):ended (Q3 ts)=true:=by
 have hl:=List.dropLast_concat_getLast h
 rw [ended_iff]
 refine ⟨Q3 ts.dropLast++ts.getLast h,?_⟩
 conv=>lhs;rw [←hl]
 unfold Q3;simp
theorem H65 (ts:List Str) (h:∀t∈ts,(10:UInt8)∉t):x4 (Q3 ts)=some ts:=by
 unfold x4
 by_cases hn:ts=[]
 ·subst hn;rfl
 ·have he:=G83 hn
  have h0:Q3 ts≠[]:=fun e=>by rw [e] at he;cases he
  rw [if_neg h0,if_pos he,D10 ts h,L34]
  congr 1
  conv=>rhs;rw [←List.map_id ts]
  refine List.map_congr_left fun t _=>?_
  simp
def noNl:Str:=[92,32,78,111,32,110,101,119,108,105,110,101,32,97,116,32,101,110,100,32,111,102,32,102,105,108,101]
theorem K30:markS=[10]++noNl++[10]:=rfl
theorem F04 (a b:List Str):Q3 (a++b)=Q3 a++Q3 b:=by unfold Q3;simp
theorem B74 (a:Str) (b:List Str):Q3 (a::b)=a++[10]++Q3 b:=by unfold Q3;simp
theorem J65 {n:Int} (h0:0≤n) (h1:n≤2147483647):(10:UInt8)∉K0 n:=by
 rw [D09 h0 h1]
 intro h
 have:=(C51 n.toNat).1 _ h
 revert this;decide
theorem K31 (n:Int):(10:UInt8)∉K0 n:=by
 by_cases h:n < 0∨2147483647 < n
 ·unfold K0;rw [if_pos h];simp
 ·exact J65 (by omega) (by omega)
theorem K32 (c:UInt8):(10:UInt8)∉U1 c:=by
 have hc:=c.toNat_lt
 have hn:∀{d:UInt8},d.toNat≠10→(10:UInt8)≠d:=fun h e=>h (by rw [←e];rfl)
 unfold U1
 split
 ·rename_i h;simp only [L22,L24,or_false,not_or];exact ⟨by decide,hn (by omega)⟩
 ·split
  ·decide
  ·split
   ·decide
   ·split
    ·rw [A54]
     have t:∀k,k < 8→(10:UInt8)≠UInt8.ofNat (48+k):=fun k hk=>hn (by rw [x3 k (by omega)];omega)
     simp only [L22,L24,or_false,not_or]
     exact ⟨by decide,t _ (by omega),t _ (by omega),t _ (by omega)⟩
    ·simp only [L22,L24,or_false];exact hn (by omega)
theorem I49 (w:Str):(10:UInt8)∉I9 w:=by
 unfold I9
 split
 ·rename_i h
  intro hm
  have:=List.all_eq_true.1 h.2 _ hm
  revert this;decide
 ·simp only [L22,L50,List.mem_flatten,List.mem_map,L24,or_false,not_or,not_exists,not_and]
  refine ⟨by decide,?_,by decide⟩
  rintro l ⟨x,_,rfl⟩
  exact K32 x
def B75 (t:Str):Str:=if ended t=true then t.dropLast else t
theorem check12_good {p:Patch} (h:D01 p=0):D50 p.Hunks=true:=by
 unfold D01 at h
 split at h
 ·cases h
 ·split at h
  ·cases h
  ·rename_i h1;simpa using h1
end Go.AL
namespace Go.AL
open Go
structure CHunk where
 At:List Int
 Rows:List Row
 deriving DecidableEq
structure Comb where
 Path:Str
 Dense:Bool
 Parents:Int
 Hunks:List CHunk
 deriving DecidableEq
def L2:CHunk→Nat→Cell:=fun h j=>match j with
 | 0=>.list Int 1 G6 h.At
 | _=>.list Row 3 rowC h.Rows
abbrev G84 (h:CHunk):PV:=.agg [.list Int 1 G6 h.At,.list Row 3 rowC h.Rows]
abbrev N4 (c:Comb):PV:=.agg [.v (.string ⟨c.Path.toArray⟩),.v (.bool c.Dense),.v (.int .i64 c.Parents),.list CHunk 2 L2 c.Hunks]
def comb0:Comb:=⟨[],false,0,[]⟩
def A08 (n k:Nat):Int:=if k=n then -1 else k
def M2 (rows:List Row) (n k:Nat):Int:=(N7 rows (A08 n k)).length
def G1 (rows:List Row) (n:Nat):List Int:=(List.range (n+1)).map (M2 rows n)
def atS (n:Nat):Str:=List.replicate n 64
def A20 (n k:Nat):UInt8:=if k=n then 43 else 45
def B76 (n:Nat) (h:CHunk) (k:Nat):Str:=[32,A20 n k]++J0 (h.At.getD k 0) (M2 h.Rows n k)
def V3 (n:Nat) (h:CHunk) (k:Nat):Str:=((List.range k).map (B76 n h)).flatten
def Y8 (n:Nat) (h:CHunk):Str:=atS (n+1)++V3 n h (n+1)++[32]++atS (n+1)
def A58 (r:Row) (p:Nat):UInt8:=if U6 r.Marks p=false then 32 else if r.Lost then 45 else 43
def P2 (n:Nat) (r:Row):Str:=(List.range n).map (A58 r)
def C29 (n:Nat) (r:Row):List Str:=if ended r.Text=true then [P2 n r++r.Text.dropLast] else [P2 n r++r.Text,noNl]
def A15 (n:Nat) (r:Row):List Str:=if ended r.Text=true then [P2 n r++r.Text] else [P2 n r++r.Text,markS]
def A21 (n:Nat) (h:CHunk):List Str:=Y8 n h::(h.Rows.map (C29 n)).flatten
def X5 (n:Nat) (h:CHunk):List Str:=(Y8 n h++[10])::(h.Rows.map (A15 n)).flatten
def ccS:Str:=[100,105,102,102,32,45,45,99,99,32]
def combS:Str:=[100,105,102,102,32,45,45,99,111,109,98,105,110,101,100,32]
def parS:Str:=[112,97,114,101,110,116,115,32]
def C30 (d:Bool):Str:=if d=true then ccS else combS
def B77 (c:Comb):List Str:=(C30 c.Dense++I9 c.Path)::(parS++K0 c.Parents)::(c.Hunks.map (A21 c.Parents.toNat)).flatten
def I50 (c:Comb):List Str:=(C30 c.Dense++I9 c.Path++[10])::(parS++K0 c.Parents++[10])::(c.Hunks.map (X5 c.Parents.toNat)).flatten
def S0 (c:Comb):Str:=(I50 c).flatten
theorem I51 (n:Nat) (r:Row):Q3 (C29 n r)=(A15 n r).flatten:=by
 unfold C29 A15
 by_cases h:ended r.Text=true
 ·rw [if_pos h,if_pos h]
  obtain ⟨a,ha⟩:=ended_iff.1 h
  rw [ha];unfold Q3;simp
 ·rw [if_neg h,if_neg h,K30];unfold Q3;simp
theorem H66 (n:Nat) (rs:List Row):Q3 ((rs.map (C29 n)).flatten)=((rs.map (A15 n)).flatten).flatten:=by
 induction rs with
 | nil=>rfl
 | cons x r ih=>simp only [L04,L16,F04,ih,I51,L28]
theorem G85 (n:Nat) (h:CHunk):Q3 (A21 n h)=(X5 n h).flatten:=by
 unfold A21 X5
 rw [B74,H66,L16]
theorem H67 (c:Comb):Q3 (B77 c)=S0 c:=by
 unfold B77 S0 I50
 rw [B74,B74]
 have h:∀(n:Nat) (hs:List CHunk),Q3 ((hs.map (A21 n)).flatten)=((hs.map (X5 n)).flatten).flatten:=by
  intro n hs
  induction hs with
  | nil=>rfl
  | cons x r ih=>simp only [L04,L16,F04,ih,G85,L28]
 rw [h];simp
def C52 (n:Nat) (ends:List Int) (h:CHunk):Bool:=decide (h.At.length=n+1∧h.Rows≠[])&&(List.range (n+1)).all fun k=>decide ((ends.getD k 0≤h.At.getD k 0∧h.At.getD k 0≤4096)∧h.At.getD k 0+M2 h.Rows n k≤4096)
def U2 (n:Nat) (h:CHunk):List Int:=(List.range (n+1)).map fun k=>h.At.getD k 0+M2 h.Rows n k
def b8 (n:Nat) (ends:List Int):List CHunk→Bool
 | []=>true
 | h::r=>C52 n ends h&&b8 n (U2 n h) r
def r5 (hs:List CHunk):List Row:=(hs.map (·.Rows)).flatten
def W0 (n:Nat) (hs:List CHunk):Bool:=b8 n (List.replicate (n+1) 0) hs&&p6 (r5 hs) n
def x5 (n:Nat) (hs:List CHunk):Bool:=hs.all fun h=>P3 h.Rows n
def J1 (c:Comb):Int:=if V2 c.Path=false then 120 else if c.Parents < 1∨32 < c.Parents then 2 else if x5 c.Parents.toNat c.Hunks=false then 180 else if W0 c.Parents.toNat c.Hunks=false then 121 else if 16777216 < (S0 c).length then 1 else 0
theorem D11 {n:Nat} {r:Row} (h:T6 n r=true):0≤r.Marks∧r.Marks < 2 ^ n∧(r.Lost=true→r.Marks≠0):=by
 unfold T6 at h
 simp only [K98,beq_iff_eq,Bool.not_eq_true',Bool.and_eq_false_iff,beq_eq_false_iff_ne] at h
 obtain ⟨h1,h2⟩:=h
 have hp:(0:Int) < 2 ^ n:=Int.pow_pos (by decide)
 have h3:=Int.emod_add_mul_ediv r.Marks (2 ^ n)
 have h4:=Int.emod_nonneg r.Marks (Int.ne_of_gt hp)
 have h5:=Int.emod_lt_of_pos r.Marks hp
 rw [h1,Int.mul_zero,Int.add_zero] at h3
 rw [h3] at h4 h5
 refine ⟨h4,h5,fun hl=>?_⟩
 rcases h2 with h2 | h2
 ·rw [hl] at h2;cases h2
 ·exact h2
theorem pow32 {n:Nat} (h:n≤32):(2:Int) ^ n≤4294967296:=by
 have h1:(2:Nat) ^ n≤2 ^ 32:=Nat.pow_le_pow_right (by omega) h
 have h2:((2 ^ n:Nat):Int)=2 ^ n:=by simp
 have h3:(2:Nat) ^ 32=4294967296:=rfl
 omega
theorem K33 {n:Nat} (hn:n≤32) {rows:List Row} (h:P3 rows n=true):K3 rows:=by
 intro r hr
 have h1:=D11 (List.all_eq_true.1 h r hr)
 have:=pow32 hn
 omega
def Y9 (n:Nat) (ends:List Int) (h:CHunk):Bool:=decide (h.At.length=n+1∧h.Rows≠[])&&(List.range (n+1)).all fun k=>decide (ends.getD k 0≤h.At.getD k 0∧h.At.getD k 0≤4096)
def r7 (res:Bool) (rows:List Row):Bool:=rows.foldl B64 res
def r8 (par:Int) (rows:List Row):Int:=rows.foldl B65 par
def r9 (n:Nat) (ends:List Int) (res:Bool) (par:Int):List CHunk→Bool
 | []=>decide (∀e∈ends,e≤4096)
 | h::r=>Y9 n ends h&&(Q1 res par h.Rows&&r9 n (U2 n h) (r7 res h.Rows) (r8 par h.Rows) r)
theorem F05:∀(a b:List Row) (res:Bool) (par:Int),Q1 res par (a++b)=(Q1 res par a&&Q1 (r7 res a) (r8 par a) b)
 | [],b,res,par=>by simp [Q1,r7,r8]
 | x::a,b,res,par=>by
  rw [L23,Q1,Q1,F05 a b]
  simp only [r7,r8,L31,Bool.and_assoc]
theorem A39 (f:Nat→Int) (n k:Nat) (h:k < n):((List.range n).map f).getD k 0=f k:=by
 rw [L00,L30,L37 h];rfl
theorem F06 {n:Nat} {ends:List Int} (hl:ends.length=n+1):(∀e∈ends,e≤4096)↔∀k,k < n+1→ends.getD k 0≤4096:=by
 constructor
 ·intro h k hk
  rw [L00,K97 (by omega)]
  exact h _ (L15 _)
 ·intro h e he
  obtain ⟨k,hk,rfl⟩:=List.getElem_of_mem he
  have:=h k (by omega)
  rwa [L00,K97 hk] at this
theorem C53 (n:Nat) (h:CHunk):(U2 n h).length=n+1:=by unfold U2;simp
theorem D95 (n:Nat):∀(hs:List CHunk) (ends:List Int) (res:Bool) (par:Int),ends.length=n+1 →
  r9 n ends res par hs=(decide (∀e∈ends,e≤4096)&&b8 n ends hs&&Q1 res par (r5 hs))
 | [],ends,res,par,_=>by simp [r9,b8,r5,Q1]
 | h::r,ends,res,par,hl=>by
  have ih:=D95 n r (U2 n h) (r7 res h.Rows) (r8 par h.Rows) (C53 n h)
  have e1:r5 (h::r)=h.Rows++r5 r:=by simp [r5]
  rw [r9,ih,b8,e1,F05]
  have e2:(Y9 n ends h&&decide (∀e∈U2 n h,e≤4096))=(decide (∀e∈ends,e≤4096)&&C52 n ends h):=by
   rw [Bool.eq_iff_iff]
   unfold Y9 C52
   simp only [K98,decide_eq_true_eq,List.all_eq_true,List.mem_range]
   rw [F06 hl,F06 (C53 n h)]
   have e3:∀k,k < n+1→(U2 n h).getD k 0=h.At.getD k 0+M2 h.Rows n k:=fun k hk=>A39 _ _ _ hk
   constructor
   ·rintro ⟨⟨h1,h2⟩,h3⟩
    exact ⟨fun k hk=>by have:=h2 k hk;omega,h1,fun k hk=>⟨h2 k hk,by have:=h3 k hk;rwa [e3 k hk] at this⟩⟩
   ·rintro ⟨_,h2,h3⟩
    exact ⟨⟨h2,fun k hk=>(h3 k hk).1⟩,fun k hk=>by rw [e3 k hk];exact (h3 k hk).2⟩
  generalize Y9 n ends h=A at e2 ⊢
  generalize decide (∀e∈U2 n h,e≤4096)=B at e2 ⊢
  generalize decide (∀e∈ends,e≤4096)=C at e2 ⊢
  generalize C52 n ends h=D at e2 ⊢
  generalize Q1 res par h.Rows=E
  generalize b8 n (U2 n h) r=F
  generalize Q1 (r7 res h.Rows) (r8 par h.Rows) (r5 r)=G
  cases A<;>cases B<;>cases C<;>cases D<;>first | (cases e2;done) | (cases E<;>cases F<;>cases G<;>rfl)
theorem G13 {n:Nat} {hs:List CHunk} (h:x5 n hs=true):P3 (r5 hs) n=true:=by
 unfold P3 r5
 rw [List.all_eq_true]
 intro r hr
 obtain ⟨l,h1,h2⟩:=List.mem_flatten.1 hr
 obtain ⟨x,hx,rfl⟩:=List.mem_map.1 h1
 exact List.all_eq_true.1 (List.all_eq_true.1 h x hx) r h2
theorem H68 {n:Nat} (hn:n≤32) {hs:List CHunk} (h:x5 n hs=true):r9 n (List.replicate (n+1) 0) false 0 hs=W0 n hs:=by
 rw [D95 n hs _ _ _ (List.length_replicate ..),E85 _ n hn (G13 h) (K33 hn (G13 h))]
 have:∀L:List Int,(∀e∈L,e≤4096)→decide (∀e∈L,e≤4096)=true:=fun L h=>decide_eq_true h
 rw [this _ (fun e he=>by have:=(List.mem_replicate.1 he).2;omega)];rfl
theorem D58 {n:Nat}:∀(hs:List CHunk) (ends:List Int),(∀k,k < n+1→0≤ends.getD k 0)→b8 n ends hs=true→∀h∈hs,h.At.length=n+1∧h.Rows≠[]∧∀k,k < n+1→0≤h.At.getD k 0∧h.At.getD k 0+M2 h.Rows n k≤4096
 | [],_,_,_,h,hm=>by cases hm
 | x::r,ends,he,hg,h,hm=>by
  rw [b8,K98] at hg
  obtain ⟨h1,h2⟩:=hg
  unfold C52 at h1
  simp only [K98,decide_eq_true_eq,List.all_eq_true,List.mem_range] at h1
  obtain ⟨⟨h3,h4⟩,h5⟩:=h1
  have hx:∀k,k < n+1→0≤x.At.getD k 0∧x.At.getD k 0+M2 x.Rows n k≤4096:=fun k hk=>by have:=h5 k hk;have:=he k hk;omega
  rcases List.mem_cons.1 hm with rfl | hm
  ·exact ⟨h3,h4,hx⟩
  ·refine D58 r _ (fun k hk=>?_) h2 h hm
   rw [show (U2 n x).getD k 0=x.At.getD k 0+M2 x.Rows n k from A39 _ _ _ hk]
   have:=hx k hk
   have:0≤M2 x.Rows n k:=by unfold M2;omega
   omega
structure CRead (n:Nat) (h:CHunk):Prop where
 len:h.At.length=n+1
 ne:h.Rows≠[]
 at0:∀k,k < n+1→0≤h.At.getD k 0∧h.At.getD k 0+M2 h.Rows n k≤4096
 rows:∀r∈h.Rows,T6 n r=true∧J7 r.Text=true
theorem B21 {c:Comb} (h:J1 c=0):(1≤c.Parents.toNat∧c.Parents.toNat≤32)∧c.Parents=(c.Parents.toNat:Int)∧(∀x∈c.Hunks,CRead c.Parents.toNat x)∧(S0 c).length≤16777216∧V2 c.Path=true:=by
 unfold J1 at h
 split at h
 ·cases h
 ·rename_i h0
  split at h
  ·cases h
  ·rename_i h1
   split at h
   ·cases h
   ·rename_i h2
    split at h
    ·cases h
    ·rename_i h3
     split at h
     ·cases h
     ·rename_i h4
      refine ⟨by omega,by omega,?_,by omega,by simpa using h0⟩
      intro x hx
      have h2:x5 c.Parents.toNat c.Hunks=true:=by simpa using h2
      have h3:W0 c.Parents.toNat c.Hunks=true:=by simpa using h3
      unfold W0 at h3
      rw [K98] at h3
      obtain ⟨a1,a2,a3⟩:=D58 c.Hunks _ (fun k hk=>by rw [L00,List.getElem?_replicate_of_lt hk];exact Int.le_refl _) h3.1 x hx
      refine ⟨a1,a2,a3,fun r hr=>⟨List.all_eq_true.1 (List.all_eq_true.1 h2 x hx) r hr,?_⟩⟩
      have h5:=h3.2
      unfold p6 at h5
      rw [K98] at h5
      exact List.all_eq_true.1 h5.1 r (List.mem_flatten.2 ⟨x.Rows,List.mem_map.2 ⟨x,hx,rfl⟩,hr⟩)
def H6 (c:UInt8) (s:Str):Nat→Nat
 | 0=>0
 | k+1=>H6 c s k+if s.getD k 0=c then 2 ^ k else 0
def A86 (c:UInt8):Bool:=decide (c=32∨c=43∨c=45)
def rowAt (s:Str) (n:Nat):Option Row :=
 if n < 1∨32 < n∨s.length < n∨(s.take n).all A86=false∨(H6 43 s n≠0∧H6 45 s n≠0) then none
 else some ⟨decide (H6 45 s n≠0),((H6 43 s n+H6 45 s n:Nat):Int),s.drop n⟩
theorem E23 (c:UInt8) (s:Str):∀k,H6 c s k < 2 ^ k
 | 0=>by simp [H6]
 | k+1=>by
  have:=E23 c s k
  rw [H6,Nat.pow_succ]
  split<;>omega
theorem H69 {c d:UInt8} (h:c≠d) (s:Str):∀k,H6 c s k+H6 d s k < 2 ^ k
 | 0=>by simp [H6]
 | k+1=>by
  have:=H69 h s k
  rw [H6,H6,Nat.pow_succ]
  by_cases h1:s.getD k 0=c
  ·rw [if_pos h1,if_neg (fun e=>h (h1.symm.trans e))];omega
  ·rw [if_neg h1];split<;>omega
theorem W5 (n:Nat) (r:Row):(P2 n r).length=n:=by simp [P2]
theorem J66 (n:Nat) (r:Row) (t:Str) {k:Nat} (h:k < n):(P2 n r++t).getD k 0=A58 r k:=by
 rw [L00,L10 (by rw [W5];exact h)]
 unfold P2
 rw [L30,L37 h];rfl
theorem C54 (n:Nat) (r:Row):(P2 n r).all A86=true:=by
 rw [List.all_eq_true]
 intro c hc
 obtain ⟨p,_,rfl⟩:=List.mem_map.1 hc
 unfold A58
 split
 ·rfl
 ·split<;>rfl
theorem F07 {n m:Nat} {r:Row} (hm:r.Marks=(m:Int)) (t:Str):∀k,k≤n→H6 43 (P2 n r++t) k=(if r.Lost=true then 0 else m % 2 ^ k)∧H6 45 (P2 n r++t) k=(if r.Lost=true then m % 2 ^ k else 0)
 | 0,_=>by simp [H6,Nat.mod_one]
 | k+1,hk=>by
  obtain ⟨h1,h2⟩:=F07 (n:=n) hm t k (by omega)
  have hb:U6 r.Marks k=m.testBit k:=by rw [hm,w9]
  have h3:m % 2 ^ (k+1)=m % 2 ^ k+2 ^ k*(m / 2 ^ k % 2):=Nat.mod_pow_succ
  have h4:m.testBit k=decide (m / 2 ^ k % 2=1):=Nat.testBit_eq_decide_div_mod_eq
  rw [H6,H6,h1,h2,J66 n r t (k:=k) (by omega)]
  unfold A58
  rw [hb,h4]
  by_cases h5:m / 2 ^ k % 2=1
  ·rw [h5] at h3
   cases hl:r.Lost<;>simp [h5,h3]
  ·have h6:m / 2 ^ k % 2=0:=by omega
   rw [h6] at h3
   cases hl:r.Lost<;>simp [h6,h3]
theorem K34 {n:Nat} {r:Row} (hn:1≤n∧n≤32) (h:T6 n r=true) (t:Str):rowAt (P2 n r++t) n=some ⟨r.Lost,r.Marks,t⟩:=by
 obtain ⟨h1,h2,h3⟩:=D11 h
 obtain ⟨m,hm⟩:∃m:Nat,r.Marks=m:=⟨r.Marks.toNat,by omega⟩
 obtain ⟨h4,h5⟩:=F07 hm t n (Nat.le_refl _)
 have hmn:m < 2 ^ n:=by
  have e:((2 ^ n:Nat):Int)=2 ^ n:=by simp
  omega
 rw [Nat.mod_eq_of_lt hmn] at h4 h5
 have ht:(P2 n r++t).take n=P2 n r:=by rw [List.take_append_of_le_length (by rw [W5];omega),L32 (by rw [W5];omega)]
 have hd:(P2 n r++t).drop n=t:=by
  have:=List.drop_left (l₁:=P2 n r) (l₂:=t)
  rwa [W5] at this
 cases hl:r.Lost
 ·rw [hl,if_neg (by decide)] at h4 h5
  unfold rowAt
  rw [ht,hd,h4,h5,C54,K96,W5,if_neg (by simp;omega),hm];simp
 ·have h6:m≠0:=fun e=>h3 hl (by omega)
  rw [hl,if_pos rfl] at h4 h5
  unfold rowAt
  rw [ht,hd,h4,h5,C54,K96,W5,if_neg (by simp;omega),hm];simp [h6]
def M9 (c:UInt8):Str→List Str
 | []=>[[]]
 | x::r=>if x=c then []::M9 c r else match M9 c r with
  | []=>[[x]]
  | a::b=>(x::a)::b
theorem J67 (c:UInt8):∀s,M9 c s≠[]
 | []=>by simp [M9]
 | x::r=>by
  unfold M9
  split
  ·simp
  ·split<;>simp
theorem B78 {c:UInt8}:∀{a:Str},c∉a→M9 c a=[a]
 | [],_=>rfl
 | x::r,h=>by
  simp only [L22,not_or] at h
  unfold M9
  rw [if_neg (fun e=>h.1 e.symm),B78 h.2]
theorem C55 {c:UInt8} (b:Str):∀{a:Str},c∉a→M9 c (a++c::b)=a::M9 c b
 | [],_=>by
  show M9 c (c::b)=_
  rw [M9,if_pos rfl]
 | x::r,h=>by
  simp only [L22,not_or] at h
  rw [L23,M9,if_neg (fun e=>h.1 e.symm),C55 b h.2]
theorem s5 (c:UInt8):∀s,(M9 c s).length=s.count c+1
 | []=>rfl
 | x::r=>by
  have ih:=s5 c r
  unfold M9
  by_cases h:x=c
  ·rw [if_pos h,K99,ih,List.count_cons,if_pos (by simp [h])]
  ·rw [if_neg h,List.count_cons,if_neg (by simp [h])]
   split
   ·rename_i e;exact absurd e (J67 c r)
   ·rename_i a b e;rw [e] at ih;simpa using ih
def P4 (n:Nat):Nat→List Str→Option (List Int)
 | _,[]=>some []
 | k,w::r=>if w.take 1=[A20 n k] then (match t7 (w.drop 1) with
  | some (a,_,e)=>if e=(w.drop 1).length then (P4 n (k+1) r).map (a::·) else none
  | none=>none) else none
def C56 (n:Nat):Str:=[32]++atS (n+1)
def D12 (n:Nat):Str:=atS (n+1)++[32]
def R4 (s p:Str):Bool:=decide (p.length≤s.length∧s.drop (s.length - p.length)=p)
def A40 (n:Nat) (l:Str):Option (List Int) :=
 if l.take (n+2)=D12 n∧R4 (l.drop (n+2)) (C56 n)=true then
  (match P4 n 0 (M9 32 ((l.drop (n+2)).take ((l.drop (n+2)).length - (n+2)))) with
   | some a=>if a.length=n+1 then some a else none
   | none=>none)
 else none
theorem H70 {d:UInt8} (hd:d=10∨d=32) (a n:Int):d∉J0 a n:=by
 have hf:∀n:Int,d∉K0 n:=by
  intro n
  by_cases h:n < 0∨2147483647 < n
  ·unfold K0;rw [if_pos h];simp
  ·rw [D09 (by omega) (by omega)]
   intro h
   have:=(C51 n.toNat).1 _ h
   rcases hd with rfl | rfl<;>(revert this;decide)
 have h1:=hf a;have h2:=hf (a+1);have h3:=hf n
 have h4:d≠44:=by rcases hd with rfl | rfl<;>decide
 have h5:d≠48:=by rcases hd with rfl | rfl<;>decide
 unfold J0
 split
 ·simp
 ·split
  ·simp [h1,h4,h5]
  ·split
   ·exact h2
   ·simp [h2,h3,h4]
theorem sgn_ne (n k:Nat):(32:UInt8)≠A20 n k∧(10:UInt8)≠A20 n k:=by unfold A20;split<;>decide
def D96 (n:Nat) (h:CHunk) (k:Nat):Str:=A20 n k::J0 (h.At.getD k 0) (M2 h.Rows n k)
theorem H71 (n:Nat) (h:CHunk) (k:Nat):(32:UInt8)∉D96 n h k:=by
 unfold D96
 simp only [L22,not_or]
 exact ⟨(sgn_ne n k).1,H70 (.inr rfl) _ _⟩
theorem E24 (n:Nat) (h:CHunk) (k:Nat):B76 n h k=32::D96 n h k:=rfl
def z8 (n:Nat) (h:CHunk):Nat→Nat→Str
 | 0,_=>[]
 | m+1,k=>B76 n h k++z8 n h m (k+1)
theorem H72 (n:Nat) (h:CHunk):∀(m k:Nat),z8 n h m k=((List.range' k m).map (B76 n h)).flatten
 | 0,_=>rfl
 | m+1,k=>by rw [z8,H72 n h m (k+1),List.range'_succ];simp
theorem I52 (n:Nat) (h:CHunk) (m:Nat):V3 n h m=z8 n h m 0:=by
 unfold V3;rw [H72,List.range_eq_range']
theorem G14 (n:Nat) (h:CHunk):∀(m k:Nat),M9 32 (z8 n h (m+1) k).tail=(List.range' k (m+1)).map (D96 n h)
 | 0,k=>by
  rw [z8,z8,L21,E24,List.tail_cons,B78 (H71 n h k)];rfl
 | m+1,k=>by
  have ih:=G14 n h m (k+1)
  have e:z8 n h (m+1+1) k=32::(D96 n h k++32::(z8 n h (m+1) (k+1)).tail):=by
   rw [z8,E24]
   have:z8 n h (m+1) (k+1)=32::(z8 n h (m+1) (k+1)).tail:=by rw [z8,E24];rfl
   conv=>lhs;rw [this]
   rfl
  rw [e,List.tail_cons,C55 _ (H71 n h k),ih,List.range'_succ (n:=m+1)];rfl
theorem F08 {l:List Int} {k:Nat} (h:k < l.length):l.drop k=l.getD k 0::l.drop (k+1):=by
 rw [L03 h,L00,K97 h];rfl
theorem F09 {n:Nat} {h:CHunk} (hl:h.At.length=n+1) (ha:∀k,k < n+1→0≤h.At.getD k 0∧h.At.getD k 0+M2 h.Rows n k≤4096):∀(m k:Nat),k+m=n+1→P4 n k ((List.range' k m).map (D96 n h))=some (h.At.drop k)
 | 0,k,hk=>by
  have:h.At.drop k=[]:=L07 (by omega)
  rw [this];rfl
 | m+1,k,hk=>by
  have ih:=F09 hl ha m (k+1) (by omega)
  obtain ⟨a1,a2⟩:=ha k (by omega)
  have hc:0≤M2 h.Rows n k:=by unfold M2;omega
  have hr:=J64 (t:=[]) a1 hc (by omega) (by omega) (by intro c hc;cases hc)
  rw [L21] at hr
  rw [List.range'_succ,L04,P4]
  have e1:(D96 n h k).take 1=[A20 n k]:=rfl
  have e2:(D96 n h k).drop 1=J0 (h.At.getD k 0) (M2 h.Rows n k):=rfl
  rw [if_pos e1,e2,hr]
  dsimp only
  rw [if_pos rfl,ih,F08 (l:=h.At) (k:=k) (by omega)];rfl
theorem y1 (n:Nat):(atS n).length=n:=by simp [atS]
theorem I53 {n:Nat} {h:CHunk} (hr:CRead n h):A40 n (Y8 n h)=some h.At:=by
 have hj:z8 n h (n+1) 0=32::(z8 n h (n+1) 0).tail:=by rw [z8,E24];rfl
 obtain ⟨T,hT⟩:∃T,T=(z8 n h (n+1) 0).tail:=⟨_,rfl⟩
 have e:Y8 n h=D12 n++(T++C56 n):=by
  unfold Y8 D12 C56
  rw [I52,hj,←hT];simp
 have hp:(D12 n).length=n+2:=by simp [D12,y1]
 have hs:(C56 n).length=n+2:=by simp [C56,y1]
 have t1:(Y8 n h).take (n+2)=D12 n:=by rw [e,←hp,List.take_left]
 have d1:(Y8 n h).drop (n+2)=T++C56 n:=by rw [e,←hp,List.drop_left]
 have l1:(T++C56 n).length - (n+2)=T.length:=by rw [K96,hs];omega
 unfold A40
 rw [t1,d1,if_pos ⟨rfl,by unfold R4;rw [hs,l1,List.drop_left];simp [hs]⟩,l1,List.take_left,hT,G14,F09 hr.len hr.at0 (n+1) 0 (by omega)]
 dsimp only
 rw [List.drop_zero,if_pos hr.len]
end Go.AL
namespace Go.AL
open Go
def A09 (a:Str):Option (Bool × Str):=if a.take 10=ccS then some (true,a.drop 10) else if a.take 16=combS then some (false,a.drop 16) else none
def s6 (q:Bool) (a b:Str):Option (Bool × Str × Int) :=
 match A09 a with
 | none=>none
 | some (d,x)=>if b.take 8=parS then (match Y7 x,a8 (b.drop 8) with
  | some (w,e),some (n,e2)=>if (q=true→e=x.length∧e2=(b.drop 8).length)∧1≤n∧n≤32 then some (d,w,(n:Int)) else none
  | _,_=>none) else none
theorem I54 (q d:Bool) (p:Str) (n:Int) (hn:1≤n∧n≤32):s6 q (C30 d++I9 p) (parS++K0 n)=some (d,p,n):=by
 have hk:A09 (C30 d++I9 p)=some (d,I9 p):=by
  cases d
  ·have h2:(combS++I9 p).take 16=combS:=rfl
   have h1:(combS++I9 p).take 10≠ccS:=by
    intro h
    have:=congrArg (fun l=>l[8]?) h
    revert this
    show ¬(some (111:UInt8)=some 99)
    decide
   show A09 (combS++I9 p)=_
   unfold A09
   rw [if_neg h1,if_pos h2];rfl
  ·show A09 (ccS++I9 p)=_
   have h2:(ccS++I9 p).take 10=ccS:=rfl
   unfold A09
   rw [if_pos h2];rfl
 have hf:=C01 (n:=n) (t:=[]) (by omega) (by omega) (by intro c hc;cases hc)
 rw [L21] at hf
 have h8:(parS++K0 n).take 8=parS:=rfl
 have d8:(parS++K0 n).drop 8=K0 n:=rfl
 unfold s6
 rw [hk]
 dsimp only
 rw [if_pos h8,d8,I48,hf]
 dsimp only
 rw [if_pos ⟨fun _=>⟨rfl,rfl⟩,by omega,by omega⟩,show ((n.toNat:Nat):Int)=n by omega]
def G86 (hs:List CHunk) (r:Row):Option (List CHunk):=match hs.getLast? with
 | none=>none
 | some h=>some (hs.dropLast++[⟨h.At,h.Rows++[r]⟩])
def F10 (hs:List CHunk):Option (List CHunk):=match hs.getLast? with
 | none=>none
 | some h=>match h.Rows.getLast? with
  | none=>none
  | some r=>some (hs.dropLast++[⟨h.At,h.Rows.dropLast++[⟨r.Lost,r.Marks,B75 r.Text⟩]⟩])
def U8 (n:Nat) (hs:List CHunk) (l:Str):Option (List CHunk) :=
 if l.take 1=[64] then (match A40 n l with | none=>none | some a=>some (hs++[⟨a,[]⟩]))
 else if hs=[] then none
 else if l=noNl then F10 hs
 else match rowAt (l++[10]) n with
  | none=>none
  | some r=>G86 hs r
def Z0 (n:Nat) (hs:List CHunk):List Str→Option (List CHunk)
 | []=>some hs
 | x::r=>match U8 n hs x with
  | none=>none
  | some g=>Z0 n g r
def Z1 (l:List Str):Option Comb:=match l with
 | a::b::r=>(match s6 true a b with
  | some (d,p,n)=>(match Z0 n.toNat [] r with | some hs=>some ⟨p,d,n,hs⟩ | none=>none)
  | none=>none)
 | _=>none
theorem K35 {n:Nat} (r:Row) (hn:1≤n) (t:Str):∃s,P2 n r++t=A58 r 0::s:=by
 obtain ⟨m,rfl⟩:∃m,n=m+1:=⟨n - 1,by omega⟩
 unfold P2
 rw [List.range_succ_eq_map]
 exact ⟨_,rfl⟩
theorem K36 (r:Row) (p:Nat):A58 r p≠64∧A58 r p≠92∧A58 r p≠10:=by unfold A58;split;decide;split<;>decide
theorem K37 {n:Nat} (hn:1≤n∧n≤32) (hs:List CHunk) (a:List Int) (rs:List Row) (r:Row) (rest:List Str) (hg:T6 n r=true):Z0 n (hs++[⟨a,rs⟩]) (C29 n r++rest)=Z0 n (hs++[⟨a,rs++[r]⟩]) rest:=by
 have hadd:∀t:Str,U8 n (hs++[⟨a,rs⟩]) (P2 n r++t)=some (hs++[⟨a,rs++[⟨r.Lost,r.Marks,t++[10]⟩]⟩]):=by
  intro t
  obtain ⟨s,e⟩:=K35 r hn.1 t
  have hb:=K36 r 0
  unfold U8
  rw [if_neg (by rw [e];simpa using hb.1),if_neg (by simp),if_neg (by rw [e];intro h;injection h with h;exact hb.2.1 h),L09,K34 hn hg]
  unfold G86;simp
 unfold C29
 split
 ·rename_i he
  obtain ⟨x,hx⟩:=ended_iff.1 he
  rw [L23,L18,Z0,hadd]
  dsimp only
  rw [hx,List.dropLast_concat,←hx]
 ·rename_i he
  rw [L23,Z0,hadd]
  dsimp only
  have h2:U8 n (hs++[⟨a,rs++[⟨r.Lost,r.Marks,r.Text++[10]⟩]⟩]) noNl=some (hs++[⟨a,rs++[r]⟩]):=by
   unfold U8
   rw [if_neg (by decide),if_neg (by simp),if_pos rfl]
   unfold F10
   simp only [List.getLast?_append,List.getLast?_singleton,Option.some_or,List.dropLast_concat]
   unfold B75
   rw [if_pos (D57 _),List.dropLast_concat]
  rw [L23,L18,Z0,h2]
theorem G15 {n:Nat} (hn:1≤n∧n≤32) (hs:List CHunk) (a:List Int):∀(xs rs:List Row) (rest:List Str),(∀r∈xs,T6 n r=true)→Z0 n (hs++[⟨a,rs⟩]) ((xs.map (C29 n)).flatten++rest)=Z0 n (hs++[⟨a,rs++xs⟩]) rest
 | [],rs,rest,_=>by simp
 | x::r,rs,rest,hg=>by
  rw [L04,L16,L09,K37 hn _ _ _ _ _ (hg x (by simp)),G15 hn hs a r _ _ (fun y hy=>hg y (by simp [hy])),L09];rfl
theorem K38 (n:Nat) (h:CHunk):(Y8 n h).take 1=[64]:=by
 unfold Y8 atS
 rw [List.replicate_succ];rfl
theorem D97 {n:Nat} (hn:1≤n∧n≤32):∀(xs hs:List CHunk),(∀h∈xs,CRead n h)→Z0 n hs ((xs.map (A21 n)).flatten)=some (hs++xs)
 | [],hs,_=>by simp [Z0]
 | h::r,hs,hg=>by
  have h1:=hg h (by simp)
  have e:((h::r).map (A21 n)).flatten=Y8 n h::((h.Rows.map (C29 n)).flatten++(r.map (A21 n)).flatten):=by simp [A21]
  have hs1:U8 n hs (Y8 n h)=some (hs++[⟨h.At,[]⟩]):=by
   unfold U8
   rw [if_pos (K38 n h),I53 h1]
  rw [e,Z0,hs1]
  dsimp only
  rw [G15 hn _ _ _ _ _ (fun x hx=>(h1.rows x hx).1),L18,D97 hn r _ (fun x hx=>hg x (by simp [hx])),L09];rfl
theorem H73 {c:Comb} (h:J1 c=0):Z1 (B77 c)=some c:=by
 obtain ⟨h1,h2,h3,_⟩:=B21 h
 unfold Z1 B77
 dsimp only
 rw [I54 true _ _ _ (by omega)]
 dsimp only
 rw [D97 h1 c.Hunks [] h3]
 rfl
def B22 (f:List Str→Option Comb) (s:Str):Comb × Int :=
 if 16777216 < s.length then (comb0,1) else match x4 s with
 | none=>(comb0,4)
 | some l=>match f l with
  | none=>(comb0,4)
  | some p=>if J1 p≠0∨S0 p≠s then (comb0,4) else (p,0)
theorem J68 (n:Nat) (h:CHunk):(10:UInt8)∉Y8 n h:=by
 have hw:(10:UInt8)∉V3 n h (n+1):=by
  unfold V3
  intro hm
  obtain ⟨l,h1,h2⟩:=List.mem_flatten.1 hm
  obtain ⟨k,_,rfl⟩:=List.mem_map.1 h1
  unfold B76 at h2
  simp only [L23,L18,L22] at h2
  rcases h2 with h2 | h2 | h2
  ·revert h2;decide
  ·exact (sgn_ne n k).2 h2
  ·exact H70 (.inl rfl) _ _ h2
 have ha:(10:UInt8)∉atS (n+1):=by unfold atS;intro h;have:=(List.mem_replicate.1 h).2;revert this;decide
 unfold Y8
 simp [hw,ha]
theorem K39 {n:Nat} {r:Row} (hl:J7 r.Text=true):∀t∈C29 n r,(10:UInt8)∉t:=by
 have hm:(10:UInt8)∉P2 n r:=by
  intro h
  have:=List.all_eq_true.1 (C54 n r) _ h
  revert this;decide
 obtain ⟨hne,hd⟩:=(C47 _).1 hl
 intro t ht
 unfold C29 at ht
 split at ht
 ·simp only [L22,L24,or_false] at ht
  subst ht
  simp [hm,hd]
 ·rename_i he
  simp only [L22,L24,or_false] at ht
  rcases ht with rfl | rfl
  ·simp only [L50,not_or]
   refine ⟨hm,fun h10=>?_⟩
   rw [←List.dropLast_concat_getLast hne] at h10
   rcases List.mem_append.1 h10 with h10 | h10
   ·exact hd h10
   ·simp only [L22,L24,or_false] at h10
    refine he (ended_iff.2 ⟨r.Text.dropLast,?_⟩)
    conv=>lhs;rw [←List.dropLast_concat_getLast hne]
    rw [h10]
  ·decide
theorem J69 {c:Comb} (h:J1 c=0):∀t∈B77 c,(10:UInt8)∉t:=by
 obtain ⟨h1,h2,h3,_⟩:=B21 h
 intro t ht
 unfold B77 at ht
 rcases List.mem_cons.1 ht with rfl | ht
 ·have:=I49 c.Path
  have hk:(10:UInt8)∉C30 c.Dense:=by cases c.Dense<;>decide
  simp [this,hk]
 ·rcases List.mem_cons.1 ht with rfl | ht
  ·have:=K31 c.Parents
   have hk:(10:UInt8)∉parS:=by decide
   simp [this,hk]
  ·obtain ⟨l,hl1,hl2⟩:=List.mem_flatten.1 ht
   obtain ⟨x,hx,rfl⟩:=List.mem_map.1 hl1
   unfold A21 at hl2
   rcases List.mem_cons.1 hl2 with rfl | hl2
   ·exact J68 _ _
   ·obtain ⟨l2,h4,h5⟩:=List.mem_flatten.1 hl2
    obtain ⟨y,hy,rfl⟩:=List.mem_map.1 h4
    exact K39 ((h3 x hx).rows y hy).2 t h5
theorem J70 {f:List Str→Option Comb} (hf:∀p:Comb,J1 p=0→f (B77 p)=some p) {p:Comb} (hc:J1 p=0):B22 f (S0 p)=(p,0):=by
 have hl:x4 (S0 p)=some (B77 p):=by rw [←H67];exact H65 _ (J69 hc)
 obtain ⟨_,_,_,h4,_⟩:=B21 hc
 unfold B22
 rw [if_neg (by omega),hl]
 dsimp only
 rw [hf p hc]
 dsimp only
 rw [if_neg]
 simp [hc]
end Go.AL
namespace Go.AL
open Go
def Q6 (r:Row):Nat:=r.Text.length+96
def D13 (h:CHunk):Nat:=2048+h.At.length+(h.Rows.map Q6).sum
def szC (hs:List CHunk):Nat:=(hs.map D13).sum
theorem j6 (rows:List Row):rows.length*96≤(rows.map Q6).sum:=by
 induction rows with
 | nil=>simp
 | cons x r ih=>simp only [L04,L29,K99,Q6] at ih ⊢;omega
theorem C57 (rows:List Row):V7 rows≤(rows.map Q6).sum:=by
 unfold V7
 induction rows with
 | nil=>simp
 | cons x r ih=>simp only [L04,L16,K96,L29,Q6] at ih ⊢;omega
theorem D59 {rows:List Row} {r:Row} (h:r∈rows):Q6 r≤(rows.map Q6).sum:=by
 induction rows with
 | nil=>cases h
 | cons x l ih =>
  simp only [L04,L29]
  rcases List.mem_cons.1 h with rfl | h
  ·omega
  ·have:=ih h;omega
theorem C02 {hs:List CHunk} {h:CHunk} (hm:h∈hs):D13 h≤szC hs:=by
 unfold szC
 induction hs with
 | nil=>cases hm
 | cons x l ih =>
  simp only [L04,L29]
  rcases List.mem_cons.1 hm with rfl | hm
  ·omega
  ·have:=ih hm;omega
theorem C03 (hs:List CHunk):hs.length*2048≤szC hs:=by
 unfold szC
 induction hs with
 | nil=>simp
 | cons x l ih =>
  have h2:2048≤D13 x:=by unfold D13;exact Nat.le_trans (Nat.le_add_right _ _) (Nat.le_add_right _ _)
  rw [L04,L29,K99,L20,Nat.one_mul,Nat.add_comm]
  exact Nat.add_le_add h2 ih
theorem I55 (rows:List Row) (k:Nat):((rows.take k).map Q6).sum≤(rows.map Q6).sum:=by
 conv=>rhs;rw [←L35 k rows,L14,L39]
 omega
theorem K40 (hs:List CHunk) (k:Nat):szC (hs.take k)≤szC hs:=by
 unfold szC
 conv=>rhs;rw [←L35 k hs,L14,L39]
 omega
theorem getI {l:List Int} {i:Nat} (h:i < l.length):l[i]?=some (l.getD i 0):=by simp [h]
theorem F11 (rows:List Row) (n k:Nat):0≤M2 rows n k∧M2 rows n k≤rows.length:=by
 have:=D46 rows (A08 n k)
 unfold M2;omega
theorem K41 (rows:List Row) (n k i:Nat) (h:i < rows.length):M2 (rows.take (i+1)) n k=M2 (rows.take i) n k+if s9 rows[i] (A08 n k)=true then 1 else 0:=by
 unfold M2 N7
 rw [L06 h,L44,L14,K96]
 by_cases hv:s9 rows[i] (A08 n k)=true<;>simp [hv]
def u0 (rows:List Row) (n i p:Nat):List Int:=(List.range (n+1)).map fun k=>M2 (rows.take (if k < p then i+1 else i)) n k
theorem J71 (rows:List Row) (n i p:Nat):(u0 rows n i p).length=n+1:=by unfold u0;simp
theorem I56 (rows:List Row) (n:Nat):u0 rows n 0 0=List.replicate (n+1) 0:=by
 unfold u0
 refine List.ext_getElem (by simp) fun k h1 h2=>?_
 simp [M2,N7]
theorem J72 (rows:List Row) (n i p:Nat) (hp:p≤n):(u0 rows n i p)[p]?=some (M2 (rows.take i) n p):=by
 unfold u0
 rw [L30,L37 (by omega)];simp
theorem F12 (f:Nat→Int) (n p:Nat) (v:Int):((List.range n).map f).set p v=(List.range n).map (fun k=>if k=p then v else f k):=by
 refine List.ext_getElem (by simp) fun k h1 h2=>?_
 rw [List.getElem_set,List.getElem_map,List.getElem_map,List.getElem_range]
 by_cases e:p=k
 ·rw [if_pos e,if_pos e.symm]
 ·rw [if_neg e,if_neg (fun h=>e h.symm)]
theorem I57 (rows:List Row) (n i p:Nat) (hi:i < rows.length) (hp:p≤n):u0 rows n i (p+1)=if s9 rows[i] (A08 n p)=true then (u0 rows n i p).set p (M2 (rows.take i) n p+1) else u0 rows n i p:=by
 have hs:=K41 rows n p i hi
 by_cases hv:s9 rows[i] (A08 n p)=true
 ·rw [if_pos hv] at hs ⊢
  unfold u0
  rw [F12]
  refine List.map_congr_left fun k hk=>?_
  by_cases e:k=p
  ·subst e;rw [if_pos rfl,if_pos (by omega),hs]
  ·rw [if_neg e]
   by_cases h3:k < p
   ·rw [if_pos (by omega),if_pos h3]
   ·rw [if_neg (by omega),if_neg h3]
 ·rw [if_neg hv] at hs ⊢
  unfold u0
  refine List.map_congr_left fun k hk=>?_
  by_cases e:k=p
  ·subst e;rw [if_pos (by omega),if_neg (by omega),hs];omega
  ·by_cases h3:k < p
   ·rw [if_pos (by omega),if_pos h3]
   ·rw [if_neg (by omega),if_neg h3]
theorem I58 (rows:List Row) (n i:Nat):u0 rows n i (n+1)=u0 rows n (i+1) 0:=by
 unfold u0
 refine List.map_congr_left fun k hk=>?_
 rw [if_pos (List.mem_range.1 hk),if_neg (by omega)]
theorem I59 (rows:List Row) (n:Nat):u0 rows n rows.length 0=G1 rows n:=by
 unfold u0 G1
 refine List.map_congr_left fun k hk=>?_
 rw [if_neg (by omega),L27]
theorem F13 (rows:List Row) (n:Nat):(G1 rows n).length=n+1:=by unfold G1;simp
theorem I60 (rows:List Row) (n k:Nat) (h:k < n+1):(G1 rows n)[k]?=some (M2 rows n k):=by
 unfold G1
 rw [L30,L37 h];rfl
def A10 (n:Nat) (h:CHunk) (k:Nat):List Int:=(List.range (n+1)).map fun j=>if j < k then h.At.getD j 0+M2 h.Rows n j else M2 h.Rows n j
theorem I61 (n:Nat) (h:CHunk) (k:Nat):(A10 n h k).length=n+1:=by unfold A10;simp
theorem H74 (n:Nat) (h:CHunk):A10 n h 0=G1 h.Rows n:=by
 unfold A10 G1
 refine List.map_congr_left fun k hk=>?_
 rw [if_neg (by omega)]
theorem I62 (n:Nat) (h:CHunk) (k:Nat) (hk:k < n+1):(A10 n h k)[k]?=some (M2 h.Rows n k):=by
 unfold A10
 rw [L30,L37 hk];simp
theorem I63 (n:Nat) (h:CHunk) (k:Nat):(A10 n h k).set k (M2 h.Rows n k+h.At.getD k 0)=A10 n h (k+1):=by
 unfold A10
 rw [F12]
 refine List.map_congr_left fun j hj=>?_
 by_cases e:j=k
 ·subst e;rw [if_pos rfl,if_pos (by omega)];omega
 ·rw [if_neg e]
  by_cases h3:j < k
  ·rw [if_pos h3,if_pos (by omega)]
  ·rw [if_neg h3,if_neg (by omega)]
theorem H75 (n:Nat) (h:CHunk):A10 n h (n+1)=U2 n h:=by
 unfold A10 U2
 refine List.map_congr_left fun k hk=>?_
 rw [if_pos (List.mem_range.1 hk)]
theorem D98 (n:Nat) (ends:List Int) (h:CHunk):Y9 n ends h=true↔(h.At.length=n+1∧h.Rows≠[])∧∀k,k < n+1→ends.getD k 0≤h.At.getD k 0∧h.At.getD k 0≤4096:=by
 unfold Y9
 simp only [K98,decide_eq_true_eq,List.all_eq_true,List.mem_range]
theorem J73 (n:Nat) (h:CHunk) (k:Nat):(B76 n h k).length≤26:=by
 have:=B66 (h.At.getD k 0) (M2 h.Rows n k)
 unfold B76;simp only [K96,K99,L02];omega
theorem B79 (n:Nat) (h:CHunk) (k:Nat):V3 n h (k+1)=V3 n h k++B76 n h k:=by
 unfold V3
 rw [L38,L14,L28];simp
theorem B23 (n:Nat) (h:CHunk):∀k,(V3 n h k).length≤26*k
 | 0=>by simp [V3]
 | k+1=>by
  have:=B23 n h k
  have:=J73 n h k
  rw [B79,K96];omega
theorem D60 {n:Nat} (hn:n≤32) (h:CHunk):(Y8 n h).length≤925:=by
 have:=B23 n h (n+1)
 unfold Y8
 simp only [K96,y1,K99,L02];omega
theorem G16 {n:Nat} (hn:n≤32) (r:Row):(A15 n r).flatten.length≤Q6 r:=by
 have hm:markS.length=29:=rfl
 unfold A15 Q6
 split<;>simp only [L16,L46,K96,W5,L02]<;>omega
theorem F14 {n:Nat} (hn:n≤32) (rs:List Row):((rs.map (A15 n)).flatten).flatten.length≤(rs.map Q6).sum:=by
 induction rs with
 | nil=>simp
 | cons x r ih =>
  have:=G16 hn x
  simp only [L04,L16,L28,K96,L29];omega
theorem H76 {n:Nat} (hn:n≤32) (h:CHunk):(X5 n h).flatten.length≤D13 h:=by
 have h1:=D60 hn h
 have h2:=F14 hn h.Rows
 unfold X5 D13
 simp only [L16,K96,K99,L02];omega
theorem G87 {n:Nat} (hn:n≤32) (hs:List CHunk):((hs.map (X5 n)).flatten).flatten.length≤szC hs:=by
 unfold szC
 induction hs with
 | nil=>simp
 | cons x r ih =>
  have:=H76 hn x
  simp only [L04,L16,L28,K96,L29];omega
def B24 (c:Comb):Str:=C30 c.Dense++I9 c.Path++[10]++(parS++K0 c.Parents++[10])
def cTo (c:Comb) (k:Nat):Str:=B24 c++(((c.Hunks.take k).map (X5 c.Parents.toNat)).flatten).flatten
theorem F15 (c:Comb):cTo c 0=B24 c:=by simp [cTo]
theorem H77 (c:Comb) (k:Nat) (h:k < c.Hunks.length):cTo c (k+1)=cTo c k++(X5 c.Parents.toNat c.Hunks[k]).flatten:=by
 unfold cTo
 rw [L06 h];simp only [L14,L04,L36,L28,L16,L46,L21,L09]
theorem F16 (c:Comb):cTo c c.Hunks.length=S0 c:=by
 unfold cTo B24 S0 I50
 rw [L27];simp
def rTo (n:Nat) (rs:List Row) (k:Nat):Str:=(((rs.take k).map (A15 n)).flatten).flatten
theorem H78 (n:Nat) (rs:List Row):rTo n rs 0=[]:=by simp [rTo]
theorem H79 (n:Nat) (rs:List Row) (k:Nat) (h:k < rs.length):rTo n rs (k+1)=rTo n rs k++(A15 n rs[k]).flatten:=by
 unfold rTo
 rw [L06 h];simp only [L14,L04,L36,L28,L16,L46,L21,L09]
theorem J00 {n:Nat} (hn:n≤32) (rs:List Row) (k:Nat):(rTo n rs k).length≤(rs.map Q6).sum:=by
 have:=F14 hn (rs.take k)
 have:=I55 rs k
 unfold rTo;omega
theorem G17 (n:Nat) (h:CHunk):(X5 n h).flatten=Y8 n h++[10]++rTo n h.Rows h.Rows.length:=by
 unfold X5 rTo
 rw [L27];simp
theorem F17 (p:Str):(I9 p).length≤4*p.length+2:=H51 p
theorem J01 (n:Int):(K0 n).length≤10:=x1 n
theorem F18 (c:Comb):(B24 c).length≤4*c.Path.length+48:=by
 have h1:=F17 c.Path
 have h2:=J01 c.Parents
 have h3:(C30 c.Dense).length≤16:=by cases c.Dense<;>decide
 have h4:parS.length=8:=rfl
 unfold B24
 simp only [K96,K99,L02];omega
theorem J02 (c:Comb) (hn:c.Parents.toNat≤32) (k:Nat):(cTo c k).length≤4*c.Path.length+48+szC c.Hunks:=by
 have h1:=F18 c
 have h2:=G87 hn (c.Hunks.take k)
 have h3:=K40 c.Hunks k
 unfold cTo
 rw [K96];omega
theorem H80 (n:Nat) (r:Row):P2 (n+1) r=P2 n r++[A58 r n]:=by
 unfold P2
 rw [L38,L14];rfl
theorem F19 (n:Nat) (r:Row):(A15 n r).flatten=P2 n r++r.Text++(if ended r.Text=true then [] else markS):=by
 unfold A15
 split<;>simp
end Go.AL
namespace Go.AL
open Go
def A44 (s:Str) (n:Int):Option Row:=if n < 1 then none else rowAt s n.toNat
theorem shl_nat (p:Nat) (h:p < 32):IntKind.u32.wrap (1*2 ^ (min ((p:Int)).toNat IntKind.u32.bits))=((2 ^ p:Nat):Int):=by
 have h2:2 ^ p < 2 ^ 32:=Nat.pow_lt_pow_right (by decide) h
 have e:(2:Int) ^ p=((2 ^ p:Nat):Int):=by simp
 rw [show min ((p:Int)).toNat IntKind.u32.bits=p by rw [L01];exact Nat.min_eq_left (by show p≤32;omega),Int.one_mul,e,A18 _ (by omega)]
theorem or_bit {x p:Nat} (h:x < 2 ^ p) (hp:p < 32):J9 (x:Int) ((2 ^ p:Nat):Int)=((x+2 ^ p:Nat):Int):=by
 have h2:2 ^ p < 2 ^ 32:=Nat.pow_lt_pow_right (by decide) hp
 rw [(y8 x (2 ^ p) (by omega) (by omega)).1]
 have h3:=Nat.two_pow_add_eq_or_of_lt h 1
 rw [Nat.mul_one] at h3
 rw [Nat.or_comm,←h3,Nat.add_comm]
theorem or_zero {x:Nat} (h:x < 4294967296):J9 (x:Int) 0=(x:Int):=by
 have:=(y8 x 0 h (by omega)).1
 simpa using this
theorem zero_or {x:Nat} (h:x < 4294967296):J9 0 (x:Int)=(x:Int):=by
 have:=(y8 0 x (by omega) h).1
 simpa using this
theorem G18 {s:Str} {p:Nat} {c:UInt8} (hv:s[p]?=some c) (d:UInt8):H6 d s (p+1)=H6 d s p+if c=d then 2 ^ p else 0:=by
 rw [H6,L00,hv];rfl
theorem J74 {s:Str} {p:Nat} {c:UInt8} (hv:s[p]?=some c):(s.take (p+1)).all A86=((s.take p).all A86&&A86 c):=by
 obtain ⟨h,rfl⟩:=List.getElem?_eq_some_iff.1 hv
 rw [L06 h,L45];simp
theorem sign_no {s:Str} {p N:Nat} {c:UInt8} (hp:p < N) (hv:s[p]?=some c) (hc:A86 c=false):(s.take N).all A86=false:=by
 rw [Bool.eq_false_iff]
 intro h
 have:=List.all_eq_true.1 h c (L13 (i:=p) (by rw [L17 hp];exact hv))
 rw [hc] at this;cases this
theorem rowI_no {s:Str} {n:Int} (h:n < 1∨32 < n∨(s.length:Int) < n):A44 s n=none:=by
 unfold A44
 by_cases h1:n < 1
 ·rw [if_pos h1]
 ·rw [if_neg h1];unfold rowAt;rw [if_pos (by omega)]
theorem J75 {s:Str} {N:Nat} (h:(s.take N).all A86=false):A44 s N=none:=by
 unfold A44
 by_cases h1:(N:Int) < 1
 ·rw [if_pos h1]
 ·rw [if_neg h1];unfold rowAt;rw [if_pos (.inr (.inr (.inr (.inl (by rw [L01];exact h)))))]
theorem J76 {s:Str} {N:Nat} (h:H6 43 s N≠0∧H6 45 s N≠0):A44 s N=none:=by
 unfold A44
 by_cases h1:(N:Int) < 1
 ·rw [if_pos h1]
 ·rw [if_neg h1];unfold rowAt;rw [if_pos (.inr (.inr (.inr (.inr (by rw [L01];exact h)))))]
theorem K42 {s:Str} {N:Nat} (h1:1≤N∧N≤32) (h2:N≤s.length) (h3:(s.take N).all A86=true) (h4:¬(H6 43 s N≠0∧H6 45 s N≠0)) :
  A44 s N=some ⟨decide (H6 45 s N≠0),((H6 43 s N+H6 45 s N:Nat):Int),s.drop N⟩:=by
 unfold A44
 rw [if_neg (by omega)]
 unfold rowAt
 rw [L01,if_neg]
 simp only [not_or]
 exact ⟨by omega,by omega,by omega,by rw [h3];decide,h4⟩
theorem G19 (c:UInt8) (s:Str) {k:Nat} (h:k≤32):H6 c s k < 4294967296:=by
 have h1:=E23 c s k
 have h2:2 ^ k≤2 ^ 32:=Nat.pow_le_pow_right (by decide) h
 omega
theorem bits_or {s:Str} {N:Nat} (hN:N≤32) (h:¬(H6 43 s N≠0∧H6 45 s N≠0)):J9 (H6 43 s N:Nat) (H6 45 s N:Nat)=((H6 43 s N+H6 45 s N:Nat):Int):=by
 have h1:=G19 43 s hN
 have h2:=G19 45 s hN
 by_cases h3:H6 43 s N=0
 ·rw [h3]
  have:=zero_or h2
  rw [Nat.zero_add];exact this
 ·have h4:H6 45 s N=0:=by omega
  rw [h4]
  have:=or_zero h1
  rw [Nat.add_zero];exact this
theorem J77 {s:Str} {n:Int} {r:Row} (h:A44 s n=some r):(1≤n∧n≤32)∧r.Text=s.drop n.toNat∧(0≤r.Marks∧r.Marks < 4294967296)∧n.toNat≤s.length:=by
 unfold A44 at h
 split at h
 ·cases h
 ·rename_i h0
  unfold rowAt at h
  split at h
  ·cases h
  ·rename_i h1
   simp only [not_or,Nat.not_lt] at h1
   obtain ⟨a1,a2,a3,a4,a5⟩:=h1
   have hb:=H69 (c:=43) (d:=45) (by decide) s n.toNat
   have hp:2 ^ n.toNat≤2 ^ 32:=Nat.pow_le_pow_right (by decide) a2
   cases h
   refine ⟨by omega,rfl,?_,a3⟩
   dsimp only
   omega
theorem F20 {c:UInt8}:∀(s:Str) (v:Str),v∈M9 c s→v.length≤s.length
 | [],v,h=>by simp [M9] at h;simp [h]
 | x::r,v,h=>by
  have ih:=F20 (c:=c) r
  unfold M9 at h
  split at h
  ·rcases List.mem_cons.1 h with rfl | h
   ·simp
   ·have:=ih v h;simp;omega
  ·split at h
   ·simp at h;simp [h]
   ·rename_i a b e
    rw [e] at ih
    rcases List.mem_cons.1 h with rfl | h
    ·have:=ih a (by simp);simp;omega
    ·have:=ih v (by simp [h]);simp;omega
end Go.AL
namespace Go.AL
open Go
abbrev D14:Bool→Nat→Cell:=fun b _=>.v (.bool b)
def j7 (n:Nat) (rows:List Row):Int→List CHunk→List Span→Option (List CHunk)
 | _,hs,[]=>some hs
 | e,hs,s::r=>if s.From < e∨s.To≤s.From∨(rows.length:Int) < s.To then none else j7 n rows s.To (hs++[⟨G1 (rows.take s.From.toNat) n,(rows.drop s.From.toNat).take (s.To.toNat - s.From.toNat)⟩]) r
def b9 (path:Str) (t:Table) (sp:List Span) (d:Bool):Comb × Int :=
 if V2 path=false then (comb0,120) else if J2 t≠0 then (comb0,J2 t) else match j7 t.Parents.toNat t.Rows 0 [] sp with
  | none=>(comb0,3)
  | some hs=>if J1 ⟨path,d,t.Parents,hs⟩≠0 then (comb0,J1 ⟨path,d,t.Parents,hs⟩) else (⟨path,d,t.Parents,hs⟩,0)
theorem E25 (f:Row→Nat) (c n:Nat) (rows:List Row):∀(sp:List Span) (e:Int) (hs hs':List CHunk),0≤e→j7 n rows e hs sp=some hs'→(hs.map fun h=>c+(h.Rows.map f).sum).sum≤c*hs.length+((rows.take e.toNat).map f).sum→hs.length≤e.toNat →
  (hs'.map fun h=>c+(h.Rows.map f).sum).sum≤c*hs'.length+(rows.map f).sum∧hs'.length≤max rows.length hs.length
 | [],e,hs,hs',he,h,hw,hl=>by
  cases h
  refine ⟨?_,by omega⟩
  have:((rows.take e.toNat).map f).sum≤(rows.map f).sum:=by
   conv=>rhs;rw [←L35 e.toNat rows,L14,L39]
   omega
  omega
 | s :: r,e,hs,hs',he,h,hw,hl=>by
  rw [j7] at h
  split at h
  ·cases h
  ·rename_i hc
   simp only [not_or,Int.not_lt,Int.not_le] at hc
   obtain ⟨c1,c2,c3⟩:=hc
   have ih:=E25 f c n rows r s.To _ hs' (by omega) h
   have hsum:((rows.take e.toNat).map f).sum+(((rows.drop s.From.toNat).take (s.To.toNat - s.From.toNat)).map f).sum≤((rows.take s.To.toNat).map f).sum:=by
    have e1:rows.take s.To.toNat=rows.take s.From.toNat++(rows.drop s.From.toNat).take (s.To.toNat - s.From.toNat):=by
     have:=List.take_add (l:=rows) (i:=s.From.toNat) (j:=s.To.toNat - s.From.toNat)
     rw [show s.From.toNat+(s.To.toNat - s.From.toNat)=s.To.toNat by omega] at this
     exact this
    have e2:rows.take s.From.toNat=rows.take e.toNat++(rows.drop e.toNat).take (s.From.toNat - e.toNat):=by
     have:=List.take_add (l:=rows) (i:=e.toNat) (j:=s.From.toNat - e.toNat)
     rw [show e.toNat+(s.From.toNat - e.toNat)=s.From.toNat by omega] at this
     exact this
    rw [e1,L14,L39]
    conv=>rhs;rw [e2,L14,L39]
    omega
   have hih:=ih (by
    rw [L14,L39,K96]
    simp only [L04,L36,L29,L52,K99,L02,Nat.mul_add,Nat.mul_one,Nat.mul_zero]
    omega) (by rw [K96];simp;omega)
   refine ⟨hih.1,?_⟩
   have:=hih.2
   rw [K96] at this
   simp only [K99,L02] at this
   have h3:hs.length+1≤rows.length:=by omega
   omega
def CInvA (n:Nat) (hs:List CHunk):Prop:=∀h∈hs,h.At.length=n+1∧K3 h.Rows
theorem F21 {n:Nat} {rows:List Row} (hr:K3 rows):∀(sp:List Span) (e:Int) (hs hs':List CHunk),j7 n rows e hs sp=some hs'→CInvA n hs→CInvA n hs'
 | [],e,hs,hs',h,hi=>by cases h;exact hi
 | s::r,e,hs,hs',h,hi=>by
  rw [j7] at h
  split at h
  ·cases h
  ·refine F21 hr r _ _ hs' h ?_
   intro x hx
   rcases List.mem_append.1 hx with hx | hx
   ·exact hi x hx
   ·simp only [L22,L24,or_false] at hx
    rw [hx]
    exact ⟨F13 _ _,fun y hy=>hr y (List.mem_of_mem_drop (List.mem_of_mem_take hy))⟩
def D15 (n:Nat) (r:Row):Nat:=r.Text.length+n+29
theorem headC_w (n:Nat) (h:CHunk):(Y8 n h).length≤28*(n+1)+1:=by
 have:=B23 n h (n+1)
 unfold Y8
 simp only [K96,y1,K99,L02];omega
theorem K43 (n:Nat) (rs:List Row):((rs.map (A15 n)).flatten).flatten.length≤(rs.map (D15 n)).sum:=by
 have hm:markS.length=29:=rfl
 induction rs with
 | nil=>simp
 | cons x r ih =>
  have:(A15 n x).flatten.length≤D15 n x:=by
   unfold A15 D15
   split<;>simp only [L16,L46,K96,W5,L02]<;>omega
  simp only [L04,L16,L28,K96,L29];omega
theorem I64 (n:Nat) (hs:List CHunk):((hs.map (X5 n)).flatten).flatten.length≤(hs.map fun h=>(28*(n+1)+2)+(h.Rows.map (D15 n)).sum).sum:=by
 induction hs with
 | nil=>simp
 | cons x r ih =>
  have h1:=headC_w n x
  have h2:=K43 n x.Rows
  have h3:(X5 n x).flatten.length≤(28*(n+1)+2)+(x.Rows.map (D15 n)).sum:=by
   unfold X5
   simp only [L16,K96,K99,L02];omega
  rw [L04,L16,L28,K96,L04,L29]
  exact Nat.add_le_add h3 ih
theorem F22 (c:Comb):(S0 c).length≤4*c.Path.length+48+(c.Hunks.map fun h=>(28*(c.Parents.toNat+1)+2)+(h.Rows.map (D15 c.Parents.toNat)).sum).sum:=by
 have h1:=F18 c
 have h2:=I64 c.Parents.toNat c.Hunks
 rw [←F16]
 unfold cTo
 rw [L27,K96];omega
theorem B25:∀(s cur:Str),(F7 cur s).length≤s.count 10+1
 | [],cur=>by unfold F7;split<;>simp
 | c::r,cur=>by
  rw [W3]
  split
  ·rename_i h
   have:=B25 r []
   rw [K99,List.count_cons,h];simp;omega
  ·have:=B25 r (cur++[c])
   rw [List.count_cons];omega
theorem D99 (s:Str):(C3 s).length≤s.count 10+1:=B25 s []
theorem G88 (result:Str) (parents:List Str) (L B:Nat) (h0:(C3 result).length≤L∧result.length≤B) (h1:∀b∈parents,(C3 b).length≤L∧b.length≤B) :
  K3 (E9 result parents).1.Rows∧(E9 result parents).1.Rows.length≤(L+1)*(parents.length*L+1)∧∀r∈(E9 result parents).1.Rows,r.Text.length≤B:=by
 have hnil:K3 []∧([]:List Row).length≤(L+1)*(parents.length*L+1)∧∀r∈([]:List Row),r.Text.length≤B:=⟨fun r hr=>(by cases hr),(by simp),fun r hr=>(by cases hr)⟩
 by_cases hn:parents.length < 1∨32 < parents.length
 ·rw [E9,if_pos hn];exact hnil
 obtain ⟨fs,hfs⟩:∃fs,fs=C3 result::parents.map C3:=⟨_,rfl⟩
 obtain ⟨names,hnames⟩:∃names,names=I8 fs:=⟨_,rfl⟩
 obtain ⟨s,hs⟩:∃s,s=W9 (fs.map (O9 names)) (C3 result).length parents.length parents.length:=⟨_,rfl⟩
 have hm:E9 result parents=if ∃k,k < (C3 result).length+1∧(H2 (s.2 k)).2≠0 then (⟨0,[]⟩,1) else (⟨parents.length,X0 names (C3 result) s ((C3 result).length+1)⟩,0):=by
  rw [E9,if_neg hn,hs,hnames,hfs]
 rw [hm]
 split
 ·exact hnil
 have hfB:∀f∈fs,f.length≤L∧∀t∈f,t.length≤B:=by
  intro f hf
  rw [hfs] at hf
  rcases List.mem_cons.1 hf with rfl | hf
  ·exact ⟨h0.1,fun t ht=>by have:=H56 _ _ ht;omega⟩
  ·obtain ⟨b,hb,rfl⟩:=List.mem_map.1 hf
   have:=h1 b hb
   exact ⟨this.1,fun t ht=>by have:=H56 _ _ ht;omega⟩
 have hnB:∀t∈names,t.length≤B:=by
  intro t ht
  rw [hnames] at ht
  obtain ⟨f,hf,h2⟩:=List.mem_flatten.1 (D84 fs t ht)
  exact (hfB f hf).2 t h2
 have hid:∀x∈fs.map (O9 names),x.length≤L∧∀v∈x,(fun _:Int=>True) v:=by
  intro x hx
  obtain ⟨f,hf,rfl⟩:=List.mem_map.1 hx
  exact ⟨by rw [O9,L26];exact (hfB f hf).1,fun _ _=>trivial⟩
 have hok:LoomOk (fun _=>True) L (C3 result).length parents.length s:=by rw [hs];exact A82 hid _
 have hL:(C3 result).length≤L:=h0.1
 have hcs:∀k,(H2 (s.2 k)).1.length≤parents.length*L∧∀m∈(H2 (s.2 k)).1,0≤m.Parents∧m.Parents < 4294967296:=fun k=>by
  have h2:=hok.gaps k
  have h3:=A69 (fun _=>True) L (s.2 k) h2.2
  rw [h2.1] at h3
  exact ⟨h3.1,fun m hmem=>(h3.2 m hmem).1⟩
 have hgetD:∀(l:List Str) (k:Nat),(∀t∈l,t.length≤B)→(l.getD k []).length≤B:=by
  intro l k hl
  rw [L00]
  cases h:l[k]? with
  | none=>simp
  | some t=>exact hl t (L13 h)
 have key:∀k,k≤(C3 result).length+1→K3 (X0 names (C3 result) s k)∧(X0 names (C3 result) s k).length≤k*(parents.length*L+1)∧∀r∈X0 names (C3 result) s k,r.Text.length≤B:=by
  intro k
  induction k with
  | zero=>intro _;simp only [X0,List.range_zero,L36,L46];exact ⟨fun r hr=>(by cases hr),by simp,fun r hr=>(by cases hr)⟩
  | succ k ih =>
   intro hk
   obtain ⟨i1,i2,i3⟩:=ih (by omega)
   have hc:=hcs k
   have hgap:∀r∈S6 names (C3 result) s k,(0≤r.Marks∧r.Marks < 4294967296)∧r.Text.length≤B:=by
    intro r hr
    unfold S6 at hr
    rcases List.mem_append.1 hr with h | h
    ·obtain ⟨m,hmem,rfl⟩:=List.mem_map.1 h
     exact ⟨hc.2 m hmem,hgetD _ _ hnB⟩
    ·split at h
     ·rename_i hkl
      simp only [List.mem_singleton] at h
      subst h
      refine ⟨?_,hgetD _ _ (hfB _ (by rw [hfs];simp)).2⟩
      have:k < s.1.length:=by rw [hok.len];exact hkl
      show 0≤s.1.getD k 0∧s.1.getD k 0 < 4294967296
      rw [L00,K97 this]
      exact hok.marks _ (L15 this)
     ·cases h
   have hgl:(S6 names (C3 result) s k).length≤parents.length*L+1:=by
    unfold S6
    rw [K96,L26]
    have:=hc.1
    split<;>simp<;>omega
   rw [D83]
   refine ⟨fun r hr=>?_,by rw [K96,L20,Nat.one_mul];omega,fun r hr=>?_⟩
   ·rcases List.mem_append.1 hr with h | h
    ·exact i1 r h
    ·exact (hgap r h).1
   ·rcases List.mem_append.1 hr with h | h
    ·exact i3 r h
    ·exact (hgap r h).2
 obtain ⟨k1,k2,k3⟩:=key _ (Nat.le_refl _)
 have:((C3 result).length+1)*(parents.length*L+1)≤(L+1)*(parents.length*L+1):=L11 _ (by omega)
 exact ⟨k1,by simp only;omega,k3⟩
end Go.AL
namespace Go.AL
open Go
def x6 (r:Row):Bool:=!r.Lost&&decide (r.Marks=0)
def A00 (out:List Span) (v:Int):List Span:=match out.getLast? with
 | some s=>out.dropLast++[⟨s.From,v⟩]
 | none=>out
def D16:List Bool→Nat→Bool→List Span→List Span
 | [],_,_,out=>out
 | b::r,i,p,out=>D16 r (i+1) b (if b=true then A00 (if p=true then out else out++[⟨i,i⟩]) ((i:Int)+1) else out)
def X6 (l:List Bool):List Span:=D16 l 0 false []
def C58 (n:Nat) (out:List Span):Prop:=out.length≤n∧∀s∈out,(0≤s.From∧s.From≤n)∧(0≤s.To∧s.To≤n)
theorem G20 {n:Nat} {out:List Span} (h:C58 n out):C58 (n+1) out:=⟨by have:=h.1;omega,fun s hs=>by have:=h.2 s hs;omega⟩
theorem K44 {n:Nat} {out:List Span} (h:C58 n out):C58 (n+1) (out++[⟨n,n⟩]):=by
 refine ⟨by rw [K96];have:=h.1;simp;omega,fun x hx=>?_⟩
 rcases List.mem_append.1 hx with hx | hx
 ·have:=h.2 x hx;omega
 ·simp only [L22,L24,or_false] at hx
  rw [hx];dsimp only;omega
theorem F23 {n:Nat} {out:List Span} {v:Int} (h:C58 n out) (hv:0≤v∧v≤(n:Int)):C58 n (A00 out v):=by
 unfold A00
 cases hl:out.getLast? with
 | none=>dsimp only;exact h
 | some s =>
  dsimp only
  have hm:=h.2 s (List.mem_of_getLast? hl)
  have hne:out≠[]:=fun e=>by rw [e] at hl;cases hl
  have hp:=List.length_pos_iff.2 hne
  refine ⟨by rw [K96,List.length_dropLast];have:=h.1;simp;omega,fun x hx=>?_⟩
  rcases List.mem_append.1 hx with hx | hx
  ·exact h.2 x ((List.dropLast_sublist _).subset hx)
  ·simp only [L22,L24,or_false] at hx
   rw [hx];dsimp only;omega
theorem J03 {i:Nat} {out:List Span} (b p:Bool) (h:C58 i out):C58 (i+1) (if b=true then A00 (if p=true then out else out++[⟨i,i⟩]) ((i:Int)+1) else out):=by
 split
 ·split
  ·exact F23 (G20 h) (by omega)
  ·exact F23 (K44 h) (by omega)
 ·exact G20 h
theorem J04:∀(l:List Bool) (i:Nat) (p:Bool) (out:List Span),C58 i out→C58 (i+l.length) (D16 l i p out)
 | [],i,p,out,h=>h
 | b::r,i,p,out,h=>by
  rw [D16,K99,show i+(r.length+1)=(i+1)+r.length by omega]
  exact J04 r (i+1) b _ (J03 b p h)
theorem F24 (l:List Bool):C58 l.length (X6 l):=by
 have:=J04 l 0 false [] ⟨Nat.le_refl _,fun s hs=>by cases hs⟩
 rwa [Nat.zero_add] at this
def A11 (t:Table):List Span × Int:=if J2 t≠0 then ([],J2 t) else (X6 (t.Rows.map fun r=>!x6 r),0)
def E00 (rows:List Row):Int:=rows.foldl (fun a r=>J9 a r.Marks) 0
def A59 (t:Table) (s:Span):Bool:=(List.range t.Parents.toNat).all fun p=>!decide (E00 ((t.Rows.drop s.From.toNat).take (s.To.toNat - s.From.toNat)) / 2 ^ p % 2=0)
def H0 (t:Table) (d:Bool):List Span × Int:=if (A11 t).2≠0 then ([],(A11 t).2) else ((A11 t).1.filter fun s=>!d||A59 t s,0)
def S2 (l:List Span) (ctx:Int) (k:Nat):Bool:=l.any fun s=>decide (s.From - ctx≤k∧(k:Int) < s.To+ctx)
def M3 (t:Table) (ctx:Int) (d:Bool):List Span × Int :=
 if (H0 t d).2≠0 then ([],(H0 t d).2) else if ctx < 0∨1048576 < ctx then ([],3)
 else (X6 ((List.range t.Rows.length).map (S2 (H0 t d).1 ctx)),0)
theorem runs_in (t:Table):C58 t.Rows.length (A11 t).1:=by
 unfold A11
 split
 ·exact ⟨Nat.zero_le _,fun s hs=>by cases hs⟩
 ·have:=F24 (t.Rows.map fun r=>!x6 r)
  rwa [L26] at this
theorem F25 (t:Table) (d:Bool):C58 t.Rows.length (H0 t d).1:=by
 have h:=runs_in t
 unfold H0
 split
 ·exact ⟨Nat.zero_le _,fun s hs=>by cases hs⟩
 ·refine ⟨?_,fun s hs=>h.2 s (List.mem_filter.1 hs).1⟩
  have:=List.length_filter_le (fun s=>!d||A59 t s) (A11 t).1
  have:=h.1
  dsimp only;omega
theorem K45 (t:Table) (ctx:Int) (d:Bool):C58 t.Rows.length (M3 t ctx d).1:=by
 unfold M3
 split
 ·exact ⟨Nat.zero_le _,fun s hs=>by cases hs⟩
 ·split
  ·exact ⟨Nat.zero_le _,fun s hs=>by cases hs⟩
  ·have:=F24 ((List.range t.Rows.length).map (S2 (H0 t d).1 ctx))
   rwa [L26,L43] at this
def E01 (l:List Bool) (i:Nat):Bool:=if i=0 then false else l.getD (i - 1) false
theorem J78 {l:List Bool} {i:Nat} {p:Bool} {out:List Span} (h:i < l.length):D16 (l.drop i) i p out=D16 (l.drop (i+1)) (i+1) (l.getD i false) (if l.getD i false=true then A00 (if p=true then out else out++[⟨i,i⟩]) ((i:Int)+1) else out):=by
 rw [L03 h,D16,L00,K97 h];rfl
end Go.AL
namespace Go.AL
open Go
theorem A25 (out:List Span) (a b v:Int):A00 (out++[⟨a,b⟩]) v=out++[⟨a,v⟩]:=by unfold A00;simp
def SpUp (n:Int) (out:List Span):Prop:=(∀s∈out,s.From≤n)∧out.Pairwise fun a b=>a.From≤b.From
theorem K46 {n:Int} {out:List Span} (h:SpUp n out) (v:Int):SpUp n (out++[⟨n,v⟩]):=by
 refine ⟨fun s hs=>?_,?_⟩
 ·rcases List.mem_append.1 hs with hs | hs
  ·exact h.1 s hs
  ·simp only [L22,L24,or_false] at hs
   rw [hs];exact Int.le_refl _
 ·rw [List.pairwise_append]
  refine ⟨h.2,List.pairwise_singleton _ _,fun a ha b hb=>?_⟩
  simp only [L22,L24,or_false] at hb
  rw [hb];exact h.1 a ha
theorem K47 {n:Int} {out:List Span} (h:SpUp n out) (v:Int):SpUp n (A00 out v):=by
 unfold A00
 cases hl:out.getLast? with
 | none=>exact h
 | some s =>
  dsimp only
  have e:out=out.dropLast++[s]:=by
   have hne:out≠[]:=fun e=>by rw [e] at hl;cases hl
   have h2:=List.dropLast_concat_getLast hne
   rw [List.getLast?_eq_some_getLast hne] at hl
   cases hl
   exact h2.symm
  rw [e] at h
  obtain ⟨h1,h2⟩:=h
  rw [List.pairwise_append] at h2
  refine ⟨fun x hx=>?_,?_⟩
  ·rcases List.mem_append.1 hx with hx | hx
   ·exact h1 x (List.mem_append.2 (.inl hx))
   ·simp only [L22,L24,or_false] at hx
    rw [hx];exact h1 s (by simp)
  ·rw [List.pairwise_append]
   refine ⟨h2.1,List.pairwise_singleton _ _,fun a ha b hb=>?_⟩
   simp only [L22,L24,or_false] at hb
   rw [hb];exact h2.2.2 a ha s (by simp)
theorem J79 {n m:Int} {out:List Span} (h:SpUp n out) (hm:n≤m):SpUp m out:=⟨fun s hs=>Int.le_trans (h.1 s hs) hm,h.2⟩
theorem J05:∀(l:List Bool) (i:Nat) (p:Bool) (out:List Span),SpUp i out→∃m,SpUp m (D16 l i p out)
 | [],i,p,out,h=>⟨_,h⟩
 | b::r,i,p,out,h=>by
  rw [D16]
  refine J05 r (i+1) b _ (J79 (n:=(i:Int)) ?_ (by omega))
  split
  ·split
   ·exact K47 h _
   ·rw [A25];exact K46 h _
  ·exact h
theorem K48 (l:List Bool):(X6 l).Pairwise fun a b=>a.From≤b.From:=by
 obtain ⟨m,h⟩:=J05 l 0 false [] ⟨fun s hs=>(by cases hs),List.Pairwise.nil⟩
 exact h.2
theorem F26 (t:Table) (d:Bool):(H0 t d).1.Pairwise fun a b=>a.From≤b.From:=by
 unfold H0 A11
 split
 ·exact List.Pairwise.nil
 ·dsimp only
  split
  ·exact List.Pairwise.nil
  ·exact List.Pairwise.sublist List.filter_sublist (K48 _)
theorem up_get {L:List Span} (h:L.Pairwise fun a b=>a.From≤b.From) {k:Nat} (hk:k+1 < L.length):L[k].From≤L[k+1].From:=(List.pairwise_iff_getElem.1 h) k (k+1) (by omega) hk (by omega)
theorem K49 {n:Int} {out:List Span} (h:∀s∈out,s.From≤s.To∧s.From≤n) (v:Int) (hv:n≤v):∀s∈A00 out v,s.From≤s.To∧s.From≤n:=by
 unfold A00
 cases hl:out.getLast? with
 | none=>exact h
 | some x =>
  dsimp only
  intro s hs
  rcases List.mem_append.1 hs with hs | hs
  ·exact h s ((List.dropLast_sublist _).subset hs)
  ·simp only [L22,L24,or_false] at hs
   rw [hs]
   have:=h x (List.mem_of_getLast? hl)
   exact ⟨by dsimp only;omega,this.2⟩
theorem J06:∀(l:List Bool) (i:Nat) (p:Bool) (out:List Span),(∀s∈out,s.From≤s.To∧s.From≤(i:Int))→∀s∈D16 l i p out,s.From≤s.To
 | [],i,p,out,h=>fun s hs=>(h s hs).1
 | b :: r,i,p,out,h=>by
  rw [D16]
  refine J06 r (i+1) b _ ?_
  have hmore:∀q:List Span,(∀s∈q,s.From≤s.To∧s.From≤(i:Int))→∀s∈q,s.From≤s.To∧s.From≤((i+1:Nat):Int):=fun q hq s hs=>by have:=hq s hs;omega
  split
  ·refine hmore _ (K49 ?_ _ (by omega))
   split
   ·exact h
   ·intro s hs
    rcases List.mem_append.1 hs with hs | hs
    ·exact h s hs
    ·simp only [L22,L24,or_false] at hs
     rw [hs];exact ⟨Int.le_refl _,Int.le_refl _⟩
  ·exact hmore _ h
theorem K50 (l:List Bool):∀s∈X6 l,s.From≤s.To:=J06 l 0 false [] (fun s hs=>by cases hs)
theorem G89 (L:List Span) (ctx:Int) (k:Nat) (h:k < L.length) (i:Nat):S2 (L.take (k+1)) ctx i=(S2 (L.take k) ctx i||decide (L[k].From - ctx≤i∧(i:Int) < L[k].To+ctx)):=by
 unfold S2
 rw [L06 h,List.any_append];simp
theorem G21 {n:Nat} (hn:n≤32):∀(rows:List Row) (a:Int),(0≤a∧a < ((2 ^ n:Nat):Int))→(∀r∈rows,0≤r.Marks∧r.Marks < ((2 ^ n:Nat):Int))→0≤rows.foldl (fun a r=>J9 a r.Marks) a∧rows.foldl (fun a r=>J9 a r.Marks) a < ((2 ^ n:Nat):Int)
 | [],a,h,_=>h
 | x::r,a,h,hr=>by
  have hx:=hr x (by simp)
  have h32:2 ^ n≤2 ^ 32:=Nat.pow_le_pow_right (by decide) hn
  rw [L31]
  refine G21 hn r _ ?_ fun y hy=>hr y (by simp [hy])
  obtain ⟨q,rfl⟩:∃q:Nat,a=q:=⟨a.toNat,by omega⟩
  obtain ⟨m,hm⟩:∃m:Nat,x.Marks=m:=⟨x.Marks.toNat,by omega⟩
  rw [hm] at hx ⊢
  obtain ⟨h3,_⟩:=y8 q m (by omega) (by omega)
  rw [h3]
  have:=Nat.or_lt_two_pow (n:=n) (x:=q) (y:=m) (by omega) (by omega)
  omega
theorem K51 (n A:Nat) (hA:A < 2 ^ n):A=2 ^ n - 1↔((List.range n).all fun p=>!decide ((A:Int) / 2 ^ p % 2=0))=true:=by
 have hbit:∀p,decide ((A:Int) / 2 ^ p % 2=0)=!A.testBit p:=by
  intro p
  have e1:(A:Int) / 2 ^ p % 2=((A / 2 ^ p % 2:Nat):Int):=by simp
  rw [e1,Nat.testBit_eq_decide_div_mod_eq]
  have h2:A / 2 ^ p % 2=0∨A / 2 ^ p % 2=1:=by omega
  rcases h2 with h2 | h2<;>rw [h2]<;>rfl
 rw [List.all_eq_true]
 constructor
 ·rintro rfl p hp
  rw [hbit,Bool.not_not,Nat.testBit_two_pow_sub_one]
  exact decide_eq_true (List.mem_range.1 hp)
 ·intro h
  refine Nat.eq_of_testBit_eq fun p=>?_
  rw [Nat.testBit_two_pow_sub_one]
  by_cases hp:p < n
  ·have:=h p (List.mem_range.2 hp)
   rw [hbit,Bool.not_not] at this
   rw [this,decide_eq_true hp]
  ·rw [decide_eq_false hp]
   exact Nat.testBit_lt_two_pow (Nat.lt_of_lt_of_le hA (Nat.pow_le_pow_right (by decide) (by omega)))
theorem K52 {t:Table} {s:Span} {n:Nat} (hn:t.Parents=n) (hn2:1≤n∧n≤32) (hm:∀r∈t.Rows,0≤r.Marks∧r.Marks < ((2 ^ n:Nat):Int)) (F T:Nat) (hs:s=⟨F,T⟩) :
  decide (E00 ((t.Rows.drop F).take (T - F))=((2 ^ n - 1:Nat):Int))=A59 t s:=by
 obtain ⟨A,hA⟩:∃A,A=E00 ((t.Rows.drop F).take (T - F)):=⟨_,rfl⟩
 have hlow:0≤A∧A < ((2 ^ n:Nat):Int):=by
  rw [hA]
  refine G21 hn2.2 _ 0 ⟨Int.le_refl _,by have:=Nat.pow_pos (n:=n) (show 0 < 2 by decide);omega⟩ fun r hr=>hm r (List.mem_of_mem_drop (List.mem_of_mem_take hr))
 obtain ⟨q,rfl⟩:∃q:Nat,A=q:=⟨A.toNat,by omega⟩
 have hD:A59 t s=(List.range n).all fun p=>!decide ((q:Int) / 2 ^ p % 2=0):=by
  unfold A59;rw [hs,hn];dsimp only;rw [L01,L01,L01,←hA]
 rw [←hA,hD,Bool.eq_iff_iff,decide_eq_true_eq,←K51 n q (by omega)]
 omega
theorem J80 {rows:List Row} {n:Nat} (hr:K3 rows) (h:P3 rows n=true):∀r∈rows,0≤r.Marks∧r.Marks < ((2 ^ n:Nat):Int):=by
 intro r hm
 have h1:=List.all_eq_true.1 h r hm
 unfold T6 at h1
 simp only [K98,beq_iff_eq] at h1
 refine ⟨(hr r hm).1,?_⟩
 have e:(2:Int) ^ n=((2 ^ n:Nat):Int):=by simp
 have h2:=h1.1
 rw [e] at h2
 have hp:(0:Int) < ((2 ^ n:Nat):Int):=by have:=Nat.pow_pos (n:=n) (show 0 < 2 by decide);omega
 have h3:=Int.emod_lt_of_pos r.Marks hp
 have h4:=Int.mul_ediv_add_emod r.Marks ((2 ^ n:Nat):Int)
 rw [h2,Int.mul_zero,Int.zero_add] at h4
 omega
theorem K53 (n:Nat) (hn:1≤n∧n≤32):(4294967295:Int).fdiv (2 ^ (min (32 - (n:Int)).toNat IntKind.u32.bits))=((2 ^ n - 1:Nat):Int):=by
 have h1:min (32 - (n:Int)).toNat IntKind.u32.bits=32 - n:=by
  rw [show (32 - (n:Int)).toNat=32 - n by omega];exact Nat.min_eq_left (by show 32 - n≤32;omega)
 rw [h1,Int.fdiv_eq_ediv_of_nonneg _ (Int.pow_nonneg (by decide))]
 have key:∀k:Fin 33,1≤k.val→(4294967295:Int) / 2 ^ (32 - k.val)=((2 ^ k.val - 1:Nat):Int):=by decide
 exact key ⟨n,by omega⟩ hn.1
end Go.AL
namespace Go.AL
open Go
theorem D17 {p:Nat} (hp:p < 32):2 ^ p < 4294967296:=Nat.pow_lt_pow_right (a:=2) (by decide) hp
theorem D18 {m:Int} {p q:Nat} (hm:0≤m∧m < 4294967296) (hp:p < 32):U6 (J9 m (J4 p)) q=(U6 m q||decide (p=q)):=by
 obtain ⟨k,rfl⟩:∃k:Nat,m=k:=⟨m.toNat,by omega⟩
 have:=D17 hp
 rw [B98 hp,(y8 k (2 ^ p) (by omega) (by omega)).1,w9,w9,Nat.testBit_or,Nat.testBit_two_pow]
theorem G22 {p q:Nat} (hp:p < 32):U6 (J4 p) q=decide (p=q):=by
 rw [B98 hp,w9,Nat.testBit_two_pow]
theorem G23 {m:Int} {p q:Nat} (h:0≤m∧m < ((2 ^ p:Nat):Int)) (hq:p≤q):U6 m q=false:=by
 obtain ⟨k,rfl⟩:∃k:Nat,m=k:=⟨m.toNat,by omega⟩
 rw [w9]
 exact Nat.testBit_lt_two_pow (Nat.lt_of_lt_of_le (by omega) (Nat.pow_le_pow_right (by decide) hq))
def s7 (q:Nat) (l:List Merged):List Int:=H5 (l.filter fun m=>U6 m.Parents q)
theorem c5 (q:Nat) (a b:List Merged):s7 q (a++b)=s7 q a++s7 q b:=by unfold s7 H5;rw [L44,L14]
theorem D61 {q:Nat} {l:List Merged} (h:∀m∈l,U6 m.Parents q=false):s7 q l=[]:=by
 unfold s7
 rw [List.filter_eq_nil_iff.2 (fun m hm=>by rw [h m hm];decide)];rfl
theorem D19 {p q:Nat} (hp:p < 32) (l:List Int):s7 q (l.map fun v=>(⟨v,J4 p⟩:Merged))=if p=q then l else []:=by
 by_cases h:p=q
 ·rw [if_pos h]
  unfold s7 H5
  rw [List.filter_eq_self.2 (fun m hm=>by obtain ⟨v,_,rfl⟩:=List.mem_map.1 hm;rw [G22 hp];exact decide_eq_true h),L34]
  exact List.map_id _
 ·rw [if_neg h]
  exact D61 fun m hm=>by obtain ⟨v,_,rfl⟩:=List.mem_map.1 hm;rw [G22 hp];exact decide_eq_false h
def LowP (p:Nat) (l:List Merged):Prop:=∀m∈l,0 < m.Parents∧m.Parents < ((2 ^ p:Nat):Int)
theorem LowP.sub {p:Nat} {l l':List Merged} (h:LowP p l) (hs:∀m∈l',m∈l):LowP p l':=fun m hm=>h m (hs m hm)
theorem LowP.up {p:Nat} {l:List Merged} (h:LowP p l):LowP (p+1) l:=fun m hm=>by
 have:=h m hm
 have:2 ^ p≤2 ^ (p+1):=Nat.pow_le_pow_right (by decide) (by omega)
 omega
theorem D20 {p:Nat} {a b:List Merged} (ha:LowP p a) (hb:LowP p b):LowP p (a++b):=fun m hm=>by
 rcases List.mem_append.1 hm with h | h
 ·exact ha m h
 ·exact hb m h
theorem H81 {p:Nat} (hp:p < 32) (l:List Int):LowP (p+1) (l.map fun v=>(⟨v,J4 p⟩:Merged)):=fun m hm=>by
 obtain ⟨v,_,rfl⟩:=List.mem_map.1 hm
 have h1:0 < 2 ^ p:=Nat.pow_pos (by decide)
 have h2:2 ^ (p+1)=2*2 ^ p:=by rw [Nat.pow_succ];omega
 show 0 < J4 p∧J4 p < _
 rw [B98 hp];omega
theorem or_pos {m:Int} {p:Nat} (hp:p < 32) (h:0 < m∧m < ((2 ^ p:Nat):Int)):0 < J9 m (J4 p)∧J9 m (J4 p) < ((2 ^ (p+1):Nat):Int):=by
 have h1:=or_low hp (m:=m) (by omega)
 refine ⟨?_,h1.2⟩
 have h2:=D17 hp
 have h3:=D18 (m:=m) (q:=p) (by omega) hp
 rw [decide_eq_true rfl,Bool.or_true] at h3
 have:J9 m (J4 p)≠0:=fun e=>by rw [e] at h3;simp [U6] at h3
 omega
theorem A41 {α:Type} (l:List α) {a b:Nat} (h:a≤b):l.drop a=(l.drop a).take (b - a)++l.drop b:=by
 have:=L35 (b - a) (l.drop a)
 rw [List.drop_drop,show a+(b - a)=b by omega] at this
 exact this.symm
theorem G24 {l:List Merged} {list:List Int} {p:Nat} (hp:p < 32) (hl:LowP p l):∀(ps:List Span) (i j:Nat),Asc l.length list.length i j ps→(∀x∈ps,(H5 l)[x.From.toNat]?=list[x.To.toNat]?) →
  s7 p (Y4 l list (J4 p) i j ps)=list.drop j∧(∀q,q≠p→s7 q (Y4 l list (J4 p) i j ps)=s7 q (l.drop i))∧LowP (p+1) (Y4 l list (J4 p) i j ps)
 | [],i,j,ha,_=>by
  have e1:(l.drop i).take (l.length - i)=l.drop i:=L32 (by simp)
  have e2:(list.drop j).take (list.length - j)=list.drop j:=L32 (by simp)
  unfold Y4
  rw [e1,e2]
  refine ⟨?_,fun q hq=>?_,D20 ((hl.sub fun m hm=>List.mem_of_mem_drop hm).up) (H81 hp _)⟩
  ·rw [c5,D19 hp,if_pos rfl,D61 fun m hm=>G23 (p:=p) (by have:=hl m (List.mem_of_mem_drop hm);omega) (Nat.le_refl _)];rfl
  ·rw [c5,D19 hp,if_neg (Ne.symm hq),L21]
 | x :: r,i,j,ha,hx=>by
  obtain ⟨h1,h2,h3⟩:=ha
  have h4:=h3.le
  have e1:((x.From.toNat+1:Nat):Int)=x.From+1:=by omega
  have e2:((x.To.toNat+1:Nat):Int)=x.To+1:=by omega
  obtain ⟨i1,i2,i3⟩:=G24 hp hl r (x.From.toNat+1) (x.To.toNat+1) (by rw [e1,e2];exact h3) (fun y hy=>hx y (List.mem_cons_of_mem _ hy))
  have hF:x.From.toNat < l.length:=by omega
  have hT:x.To.toNat < list.length:=by omega
  have hy:=hl l[x.From.toNat] (L15 hF)
  have hline:l[x.From.toNat].Line=list[x.To.toNat]:=by
   have:=hx x (by simp)
   rw [K97 hT] at this
   unfold H5 at this
   rw [L30,K97 hF] at this
   exact Option.some.inj this
  have h2p:=D17 hp
  have d1:l.drop i=(l.drop i).take (x.From.toNat - i)++l[x.From.toNat]::l.drop (x.From.toNat+1):=by
   rw [←L03 hF];exact A41 l (by omega)
  have d2:list.drop j=(list.drop j).take (x.To.toNat - j)++list[x.To.toNat]::list.drop (x.To.toNat+1):=by
   rw [←L03 hT];exact A41 list (by omega)
  have hM:(l[x.From.toNat]?.map fun y=>(⟨y.Line,J9 y.Parents (J4 p)⟩:Merged)).toList=[⟨l[x.From.toNat].Line,J9 l[x.From.toNat].Parents (J4 p)⟩]:=by rw [K97 hF];rfl
  have hbit:=fun q=>D18 (m:=l[x.From.toNat].Parents) (p:=p) (q:=q) (by omega) hp
  have hA:LowP p ((l.drop i).take (x.From.toNat - i)):=hl.sub fun m hm=>W4 hm
  unfold Y4
  rw [hM]
  generalize ha':(l.drop i).take (x.From.toNat - i)=A at hA d1 ⊢
  generalize hb':(list.drop j).take (x.To.toNat - j)=A2 at d2 ⊢
  refine ⟨?_,fun q hq=>?_,?_⟩
  ·rw [c5,c5,c5,i1,D19 hp,if_pos rfl,D61 (l:=A) fun m hm=>G23 (p:=p) (by have:=hA m hm;omega) (Nat.le_refl _),L18,d2]
   have:s7 p [(⟨l[x.From.toNat].Line,J9 l[x.From.toNat].Parents (J4 p)⟩:Merged)]=[list[x.To.toNat]]:=by
    unfold s7
    rw [List.filter_cons_of_pos (by rw [hbit,decide_eq_true rfl,Bool.or_true])]
    show [l[x.From.toNat].Line]=_
    rw [hline]
   rw [this]
   simp
  ·have d3:s7 q (l.drop i)=s7 q A++(s7 q [l[x.From.toNat]]++s7 q (l.drop (x.From.toNat+1))):=by
    rw [d1,←c5,←c5];rfl
   rw [c5,c5,c5,i2 q hq,D19 hp,if_neg (Ne.symm hq),L21,d3]
   have:s7 q [(⟨l[x.From.toNat].Line,J9 l[x.From.toNat].Parents (J4 p)⟩:Merged)]=s7 q [l[x.From.toNat]]:=by
    unfold s7
    have hb:U6 (J9 l[x.From.toNat].Parents (J4 p)) q=U6 l[x.From.toNat].Parents q:=by rw [hbit,decide_eq_false (Ne.symm hq),Bool.or_false]
    cases hc:U6 l[x.From.toNat].Parents q
    ·rw [List.filter_cons_of_neg (by rw [hb,hc];decide),List.filter_cons_of_neg (by rw [hc];decide)]
    ·rw [List.filter_cons_of_pos (by rw [hb,hc]),List.filter_cons_of_pos (by rw [hc])]
     rfl
   rw [this]
  ·refine D20 (D20 hA.up (H81 hp _)) (D20 ?_ i3)
   intro m hm
   rw [List.mem_singleton.1 hm]
   exact or_pos hp hy
theorem H82 {l:List Merged} {list:List Int} {p:Nat} (hp:p < 32) (hl:LowP p l) :
  s7 p (Y5 l list p)=list∧(∀q,q≠p→s7 q (Y5 l list p)=s7 q l)∧LowP (p+1) (Y5 l list p):=by
 have hasc:=V1 (H5 l) list 0 0
 rw [Int.zero_add,Int.zero_add,show (H5 l).length=l.length by simp [H5]] at hasc
 have:=G24 (list:=list) hp hl (H1 0 0 (H5 l) list) 0 0 hasc (fun x hx=>by
  obtain ⟨_,_,v,h1,h2⟩:=G05 (H5 l) list 0 0 x hx
  rw [Int.sub_zero] at h1 h2
  rw [h1,h2])
 exact this
theorem C31:∀(ls:List (List Int)) (acc:List Merged) (p:Nat),p+ls.length≤32→LowP p acc→(H8 acc p ls).2=0 →
  LowP (p+ls.length) (H8 acc p ls).1∧(∀q,q < p→s7 q (H8 acc p ls).1=s7 q acc)∧∀t,t < ls.length→s7 (p+t) (H8 acc p ls).1=ls.getD t []
 | [],acc,p,_,ha,_=>⟨ha,fun _ _=>rfl,fun t ht=>absurd ht (Nat.not_lt_zero _)⟩
 | x :: r,acc,p,hp,ha,h=>by
  rw [K99] at hp
  unfold H8 at h ⊢
  split at h
  ·cases h
  ·rename_i hc
   rw [if_neg hc]
   obtain ⟨j1,j2,j3⟩:=H82 (list:=x) (p:=p) (by omega) ha
   obtain ⟨i1,i2,i3⟩:=C31 r (Y5 acc x p) (p+1) (by omega) j3 h
   refine ⟨?_,fun q hq=>?_,fun t ht=>?_⟩
   ·rw [K99,show p+(r.length+1)=p+1+r.length by omega];exact i1
   ·exact (i2 q (by omega)).trans (j2 q (by omega))
   ·cases t with
    | zero=>exact (i2 p (by omega)).trans j1
    | succ t =>
     have:=i3 t (by rw [K99] at ht;omega)
     rw [show p+1+t=p+(t+1) by omega] at this
     exact this
theorem E10 {ls:List (List Int)} (h:(H2 ls).2=0):LowP ls.length (H2 ls).1∧∀q,q < ls.length→s7 q (H2 ls).1=ls.getD q []:=by
 unfold H2 at h ⊢
 split at h
 ·cases h
 ·rename_i hc
  rw [if_neg hc]
  obtain ⟨h1,_,h3⟩:=C31 ls [] 0 (by omega) (fun m hm=>by cases hm) h
  rw [Nat.zero_add] at h1
  exact ⟨h1,fun q hq=>by have:=h3 q hq;rwa [Nat.zero_add] at this⟩
theorem C32 (B:Nat):∀(ls:List (List Int)) (acc:List Merged) (p:Nat),(∀x∈ls,x.length≤B)→acc.length+ls.length*B≤4096→(H8 acc p ls).2=0
 | [],acc,p,_,_=>rfl
 | x::r,acc,p,hl,h=>by
  have hx:=hl x (by simp)
  have hj:=A52 acc x p
  rw [K99,L20,Nat.one_mul] at h
  unfold H8
  rw [if_neg (by omega)]
  exact C32 B r (Y5 acc x p) (p+1) (fun y hy=>hl y (List.mem_cons_of_mem _ hy)) (by omega)
theorem E11 {B:Nat} {ls:List (List Int)} (hl:∀x∈ls,x.length≤B) (hn:ls.length≤32) (h:ls.length*B≤4096):(H2 ls).2=0:=by
 unfold H2
 rw [if_neg (by omega)]
 exact C32 B ls [] 0 hl (by simpa using h)
end Go.AL
namespace Go.AL
open Go
def x7 {α:Type} (G:Nat→List α) (a b:Nat):List α:=((List.range (b - a)).map fun t=>G (a+t)).flatten
theorem A42 {α:Type} (G:Nat→List α) {a b c:Nat} (h1:a≤b) (h2:b≤c):x7 G a c=x7 G a b++x7 G b c:=by
 unfold x7
 rw [show c - a=(b - a)+(c - b) by omega,List.range_add,L14,L28,L34]
 congr 3
 funext t
 show G (a+(b - a+t))=G (b+t)
 rw [show a+(b - a+t)=b+t by omega]
theorem B80 {α:Type} (G:Nat→List α) (a:Nat):x7 G a (a+1)=G a:=by
 unfold x7
 rw [show a+1 - a=1 by omega]
 simp [L38]
theorem G25 {α:Type} (G:Nat→List α) (a:Nat):x7 G a a=[]:=by unfold x7;simp
theorem B26 {α:Type} {G G':Nat→List α} {a b:Nat} (h:∀k,a≤k→k < b→G k=G' k):x7 G a b=x7 G' a b:=by
 unfold x7
 congr 1
 exact List.map_congr_left fun t ht=>h _ (by omega) (by have:=List.mem_range.1 ht;omega)
theorem F27 {α:Type} {G:Nat→List α} {a b:Nat} (h:∀k,a≤k→k < b→G k=[]):x7 G a b=[]:=by
 rw [B26 (G':=fun _=>[]) h]
 unfold x7
 exact List.flatten_eq_nil_iff.2 fun l hl=>by obtain ⟨t,_,rfl⟩:=List.mem_map.1 hl;rfl
theorem K54 {α β:Type} (f:α→β) (G:Nat→List α) (a b:Nat):x7 (fun k=>(G k).map f) a b=(x7 G a b).map f:=by
 unfold x7
 rw [List.map_flatten,L34];rfl
theorem H83 {α:Type} (l:List α):∀d i,i+d=l.length→x7 (fun k=>(l[k]?).toList) i (l.length+1)=l.drop i
 | 0,i,h=>by
  rw [show l.length+1=i+1 by omega,B80,L19 (by omega),List.drop_of_length_le (by omega)];rfl
 | d+1,i,h=>by
  have hi:i < l.length:=by omega
  rw [A42 _ (show i≤i+1 by omega) (show i+1≤l.length+1 by omega),B80,H83 l d (i+1) (by omega),K97 hi,L03 hi];rfl
def piece (file:List Int) (c:Change):List Int:=(file.drop c.Old.toNat).take ((c.Old+c.OldLen).toNat - c.Old.toNat)
def A60 (file:List Int) (cs:List Change) (k:Nat) (a:List Int):List Int:=cs.foldl (fun a c=>if k=c.New.toNat then piece file c else a) a
theorem G26 {file:List Int} {k:Nat}:∀{cs:List Change} {a:List Int},(∀c∈cs,k≠c.New.toNat)→A60 file cs k a=a
 | [],_,_=>rfl
 | c::r,a,h=>by
  unfold A60
  rw [L31,if_neg (h c (by simp))]
  exact G26 (fun d hd=>h d (List.mem_cons_of_mem _ hd))
theorem G27 (file:List Int) (a b:List Change) (k:Nat) (z:List Int):A60 file (a++b) k z=A60 file b k (A60 file a k z):=by unfold A60;rw [L40]
theorem H84 (p:Nat) (file:List Int) (k:Nat):∀(cs:List Change) (g:Nat→List (List Int)),cs.foldl (P1 p file) g k=(g k).set p (A60 file cs k ((g k).getD p []))
 | [],g=>by
  refine List.ext_getElem? fun q=>?_
  show (g k)[q]?=((g k).set p ((g k).getD p []))[q]?
  rw [List.getElem?_set]
  split
  ·rename_i h;subst h
   split
   ·rename_i h;rw [L00,K97 h];rfl
   ·rename_i h;exact L19 (by omega)
  ·rfl
 | c::r,g=>by
  rw [L31,H84 p file k r]
  have e:P1 p file g c k=if k=c.New.toNat then (g k).set p (piece file c) else g k:=rfl
  rw [e]
  show _=(g k).set p (A60 file r k (if k=c.New.toNat then piece file c else (g k).getD p []))
  split
  ·rw [List.set_set]
   by_cases hp:p < (g k).length
   ·rw [L00,List.getElem?_set_self hp];rfl
   ·rw [List.set_eq_of_length_le (by omega),List.set_eq_of_length_le (by omega)]
  ·rfl
theorem G28 (a b:List Change) (k:Nat):R3 (a++b) k=(R3 a k||R3 b k):=by unfold R3;rw [List.any_append]
theorem J81 {cs:List Change} {k:Nat} (h:∀c∈cs,(k:Int) < c.New):R3 cs k=false:=by
 unfold R3
 rw [List.any_eq_false]
 intro c hc
 have:=h c hc
 rw [decide_eq_true_eq];omega
def F28 (file base:List Int) (cs:List Change) (k:Nat):List Int:=A60 file cs k []++(if R3 cs k=true then [] else (base[k]?).toList)
theorem H85 {file base:List Int}:∀(ps:List Span) (i j:Nat),Asc file.length base.length i j ps→(∀x∈ps,file[x.From.toNat]?=base[x.To.toNat]?) →
  x7 (F28 file base (P0 i j ps file.length base.length)) j (base.length+1)=file.drop i
 | [],i,j,ha,_=>by
  have h1:(i:Int)≤file.length∧(j:Int)≤base.length:=ha
  unfold P0
  rw [A42 _ (show j≤j+1 by omega) (show j+1≤base.length+1 by omega),B80]
  by_cases h:(file.length:Int) > i∨(base.length:Int) > j
  ·rw [if_pos h]
   have e1:∀k,A60 file [⟨i,(file.length:Int) - i,j,(base.length:Int) - j⟩] k []=if k=j then file.drop i else []:=by
    intro k
    show (if k=(j:Int).toNat then piece file _ else [])=_
    rw [L01]
    have e2:piece file ⟨i,(file.length:Int) - i,j,(base.length:Int) - j⟩=file.drop i:=by
     unfold piece
     dsimp only
     rw [L01,L32 (by rw [L05];omega)]
    rw [e2]
   have e3:∀k,j≤k→(if R3 [⟨i,(file.length:Int) - i,j,(base.length:Int) - j⟩] k=true then [] else (base[k]?).toList)=([]:List Int):=by
    intro k hk
    by_cases hk2:k < base.length
    ·rw [if_pos]
     unfold R3
     simp only [List.any_cons,List.any_nil,Bool.or_false,decide_eq_true_eq,L01]
     omega
    ·rw [L19 (by omega)]
     split<;>rfl
   rw [F27 (fun k hk _=>by unfold F28;rw [e1,e3 k (by omega),if_neg (by omega)];rfl)]
   unfold F28
   rw [e1,e3 j (Nat.le_refl _),if_pos rfl];simp
  ·rw [if_neg h,F27 (fun k hk hk2=>by omega)]
   unfold F28
   rw [L19 (by omega),List.drop_of_length_le (by omega)]
   rfl
 | x :: r,i,j,ha,hx=>by
  obtain ⟨h1,h2,h3⟩:=ha
  have h4:=h3.le
  have e1:((x.From.toNat+1:Nat):Int)=x.From+1:=by omega
  have e2:((x.To.toNat+1:Nat):Int)=x.To+1:=by omega
  have ih:=H85 r (x.From.toNat+1) (x.To.toNat+1) (by rw [e1,e2];exact h3) (fun y hy=>hx y (List.mem_cons_of_mem _ hy))
  rw [e1,e2] at ih
  have hbd:=h3.made
  have hv:=hx x (by simp)
  have hF:x.From.toNat < file.length:=by omega
  have hT:x.To.toNat < base.length:=by omega
  have hd:file.drop i=(file.drop i).take (x.From.toNat - i)++(base[x.To.toNat]?.toList++file.drop (x.From.toNat+1)):=by
   rw [←hv,K97 hF]
   show _=_++(file[x.From.toNat]::file.drop (x.From.toNat+1))
   rw [←L03 hF];exact A41 file (by omega)
  unfold P0
  obtain ⟨R,hR⟩:∃R,R=P0 (x.From+1) (x.To+1) r file.length base.length:=⟨_,rfl⟩
  rw [←hR] at hbd ih ⊢
  have outR:∀k:Nat,(k:Int)≤x.To→∀z,A60 file R k z=z:=fun k hk z=>G26 fun c hc=>by have:=hbd c hc;omega
  have outN:∀k:Nat,(k:Int)≤x.To→R3 R k=false:=fun k hk=>J81 fun c hc=>by have:=hbd c hc;omega
  rw [A42 _ (show j≤x.To.toNat by omega) (show x.To.toNat≤base.length+1 by omega),A42 _ (show x.To.toNat≤x.To.toNat+1 by omega) (show x.To.toNat+1≤base.length+1 by omega),B80]
  by_cases h:x.From > i∨x.To > j
  ·rw [if_pos h]
   have l1:∀k,A60 file [⟨i,x.From - i,j,x.To - j⟩] k []=if k=j then (file.drop i).take (x.From.toNat - i) else []:=by
    intro k
    show (if k=(j:Int).toNat then piece file _ else [])=_
    rw [L01]
    have e3:piece file ⟨i,x.From - i,j,x.To - j⟩=(file.drop i).take (x.From.toNat - i):=by
     unfold piece
     dsimp only
     rw [L01,show ((i:Int)+(x.From - i)).toNat=x.From.toNat by omega]
    rw [e3]
   have l2:∀k,R3 [⟨i,x.From - i,j,x.To - j⟩] k=decide (j≤k∧k < x.To.toNat):=by
    intro k
    unfold R3
    simp only [List.any_cons,List.any_nil,Bool.or_false,L01]
    refine decide_eq_decide.2 ?_
    omega
   have hlow:∀k:Nat,(k:Int)≤x.To→F28 file base ([⟨i,x.From - i,j,x.To - j⟩]++R) k=(if k=j then (file.drop i).take (x.From.toNat - i) else [])++(if j≤k∧k < x.To.toNat then [] else (base[k]?).toList):=by
    intro k hk
    unfold F28
    rw [G27,outR k hk,l1,G28,outN k hk,l2,Bool.or_false]
    by_cases hq:j≤k∧k < x.To.toNat
    ·rw [decide_eq_true hq,if_pos (show true=true from rfl),if_pos hq]
    ·rw [decide_eq_false hq,if_neg (show ¬false=true by decide),if_neg hq]
   have hhigh:x7 (F28 file base ([⟨i,x.From - i,j,x.To - j⟩]++R)) (x.To.toNat+1) (base.length+1)=file.drop (x.From.toNat+1):=by
    rw [←ih]
    refine B26 fun k hk hk2=>?_
    unfold F28
    rw [G27,l1,if_neg (by omega),G28,l2,decide_eq_false (by omega),Bool.false_or]
   rw [hhigh,hlow _ (by omega),if_neg (show ¬(j≤x.To.toNat∧x.To.toNat < x.To.toNat) by omega)]
   conv=>rhs;rw [hd]
   by_cases hj:x.To.toNat=j
   ·rw [if_pos hj,hj,G25];simp
   ·rw [if_neg hj,A42 _ (show j≤j+1 by omega) (show j+1≤x.To.toNat by omega),B80,F27 (fun k hk hk2=>by rw [hlow k (by omega),if_neg (by omega),if_pos (by omega)];rfl),hlow j (by omega),if_pos rfl,if_pos (by omega)]
    simp
  ·rw [if_neg h,L18,ih]
   have e3:x.From.toNat=i:=by omega
   have e4:x.To.toNat=j:=by omega
   conv=>rhs;rw [hd]
   rw [e3,e4,G25]
   unfold F28
   rw [outR j (by omega),outN j (by omega),if_neg (by decide)]
   simp
theorem K55 (file base:List Int):x7 (F28 file base (N6 file base)) 0 (base.length+1)=file:=by
 have hasc:=V1 file base 0 0
 rw [Int.zero_add,Int.zero_add] at hasc
 have:=H85 (H1 0 0 file base) 0 0 hasc (fun x hx=>by
  obtain ⟨_,_,v,h1,h2⟩:=G05 file base 0 0 x hx
  rw [Int.sub_zero] at h1 h2
  rw [h1,h2])
 exact this
theorem H86 (ids:List (List Int)) (lines n:Nat):∀p,p≤n→∀k,((W9 ids lines n p).2 k).length=n∧∀q,((W9 ids lines n p).2 k).getD q []=if q < p then A60 (ids.getD (q+1) []) (N6 (ids.getD (q+1) []) (ids.getD 0 [])) k [] else []
 | 0,_,k=>by
  refine ⟨by simp [W9,E83],fun q=>?_⟩
  rw [if_neg (by omega)]
  show (List.replicate n []).getD q []=[]
  rw [L00,List.getElem?_replicate]
  split<;>rfl
 | p+1,hp,k=>by
  obtain ⟨h1,h2⟩:=H86 ids lines n p (by omega) k
  rw [B62]
  have e:(g9 ids (W9 ids lines n p) p).2 k=((W9 ids lines n p).2 k).set p (A60 (ids.getD (p+1) []) (N6 (ids.getD (p+1) []) (ids.getD 0 [])) k (((W9 ids lines n p).2 k).getD p [])):=H84 p _ k _ _
  rw [e,h2 p,if_neg (by omega)]
  refine ⟨by rw [L49,h1],fun q=>?_⟩
  rw [L00,List.getElem?_set]
  by_cases hq:p=q
  ·subst hq
   rw [if_pos rfl,if_pos (by omega),if_pos (by omega)];rfl
  ·rw [if_neg hq,←L00,h2 q]
   by_cases hq2:q < p
   ·rw [if_pos hq2,if_pos (by omega)]
   ·rw [if_neg hq2,if_neg (by omega)]
theorem G29 {ids:List (List Int)} {base:List Int} {n:Nat} (hb:base=ids.getD 0 []) (hl:∀x∈ids,x.length≤4096) (hbl:base.length≤4096):∀p,p≤32→∀(q k:Nat) (v:Int),(x2 ids base.length n p).1[k]?=some v→U6 v q=(decide (q < p)&&R3 (N6 (ids.getD (q+1) []) base) k)
 | 0,_,q,k,v,h=>by
  have:=List.eq_of_mem_replicate (show v∈List.replicate base.length 0 from L13 h)
  subst this
  rw [decide_eq_false (by omega),Bool.false_and]
  simp [U6]
 | p+1,hp,q,k,v,h=>by
  obtain ⟨h1,h2,h3⟩:=B99 (n:=n) hb hl hbl p (by omega)
  rw [B72] at h
  have e:(z7 ids (x2 ids base.length n p) p).1=(N6 (ids.getD (p+1) []) (ids.getD 0 [])).foldl (M8 p) (x2 ids base.length n p).1:=rfl
  rw [e,E99,←hb] at h
  cases hw:(x2 ids base.length n p).1[k]? with
  | none=>rw [hw] at h;cases h
  | some w =>
   rw [hw] at h
   have ih:=G29 (n:=n) hb hl hbl p (by omega) q k w hw
   have hlow:=h2 w (L13 hw)
   have h2p:=D17 (p:=p) (by omega)
   have h:(if R3 (N6 (ids.getD (p+1) []) base) k=true then J9 w (J4 p) else w)=v:=Option.some.inj h
   rw [←h]
   by_cases hq:p=q
   ·subst hq
    rw [decide_eq_false (Nat.lt_irrefl _),Bool.false_and] at ih
    rw [decide_eq_true (by omega),Bool.true_and]
    cases R3 (N6 (ids.getD (p+1) []) base) k
    ·rw [if_neg (by decide),ih]
    ·rw [if_pos rfl,D18 (by omega) (by omega),decide_eq_true rfl,Bool.or_true]
   ·have e2:decide (q < p+1)=decide (q < p):=by by_cases h:q < p<;>simp [h]<;>omega
    rw [e2,←ih]
    split
    ·rw [D18 (by omega) (by omega),decide_eq_false hq,Bool.or_false]
    ·rfl
end Go.AL
namespace Go.AL
open Go
theorem H87 (s:Str):∀(l:List Str) (k:Int),0≤k→s∈l→l[(I7 l s k - k).toNat]?=some s
 | [],_,_,h=>(by cases h)
 | x::r,k,hk,h=>by
  unfold I7
  by_cases hx:x=s
  ·rw [if_pos hx,Int.sub_self,hx];rfl
  ·rw [if_neg hx]
   have hm:s∈r:=by rcases List.mem_cons.1 h with rfl | h;exact absurd rfl hx;exact h
   have h1:=B07 r s (k+1) (by omega) hm
   have h2:=H87 s r (k+1) (by omega) hm
   rw [show (I7 r s (k+1) - k).toNat=(I7 r s (k+1) - (k+1)).toNat+1 by omega,List.getElem?_cons_succ]
   exact h2
def B81 (names:List Str) (v:Int):Str:=names.getD v.toNat []
theorem J07 {names:List Str} {s:Str} (h:s∈names):B81 names (I7 names s 0)=s:=by
 have:=H87 s names 0 (Int.le_refl _) h
 rw [Int.sub_zero] at this
 unfold B81
 rw [L00,this];rfl
theorem I65 {names f:List Str} (h:∀s∈f,s∈names):(O9 names f).map (B81 names)=f:=by
 unfold O9
 rw [L34]
 conv=>rhs;rw [←List.map_id f]
 exact List.map_congr_left fun s hs=>J07 (h s hs)
theorem G30 (G:Nat→List Row) (a b:Nat) (c:Int):N7 (x7 G a b) c=x7 (fun k=>N7 (G k) c) a b:=by
 unfold N7 x7
 rw [List.filter_flatten,List.map_flatten,L34,L34];rfl
theorem D62 (a b:List Row) (c:Int):N7 (a++b) c=N7 a c++N7 b c:=by unfold N7;rw [L44,L14]
theorem H88 (w:Row) {q:Nat} (hq:q < 32):s9 w q=(U6 w.Marks q == w.Lost):=by
 rw [s9,if_neg (by omega),if_neg (by omega),L01]
theorem H89 (f:Int→Str) {q:Nat} (hq:q < 32):∀l:List Merged,N7 (l.map fun m=>(⟨true,m.Parents,f m.Line⟩:Row)) q=(s7 q l).map f
 | []=>rfl
 | m::r=>by
  have ih:=H89 f hq r
  unfold N7 s7 H5 at ih ⊢
  rw [L04,L48,L48,H88 _ hq]
  dsimp only
  rw [show (U6 m.Parents q == true)=U6 m.Parents q by simp]
  cases U6 m.Parents q
  ·rw [if_neg (by decide),if_neg (by decide)];exact ih
  ·rw [if_pos rfl,if_pos rfl,L04,L04,L04,ih]
theorem J82 (f:Int→Str) (l:List Merged):N7 (l.map fun m=>(⟨true,m.Parents,f m.Line⟩:Row)) (-1)=[]:=by
 unfold N7
 rw [List.filter_eq_nil_iff.2]
 ·rfl
 ·intro w hw
  obtain ⟨m,_,rfl⟩:=List.mem_map.1 hw
  simp [s9]
structure Made16 (x:Str) (r:List Str) (rows:List Row):Prop where
 res:N7 rows (-1)=C3 x
 par:∀q,q < r.length→N7 rows q=C3 (r.getD q [])
 marks:P3 rows r.length=true
 texts:∀w∈rows,J7 w.Text=true
theorem E02 {x:Str} {r:List Str} (hx:(C3 x).length≤4096) (hr:∀b∈r,(C3 b).length≤4096) (h:(E9 x r).2=0) :
  (1≤r.length∧r.length≤32)∧(E9 x r).1.Parents=r.length∧Made16 x r (E9 x r).1.Rows:=by
 by_cases hn:r.length < 1∨32 < r.length
 ·rw [E9,if_pos hn] at h;cases h
 obtain ⟨F,hF⟩:∃F,F=C3 x:=⟨_,rfl⟩
 obtain ⟨N,hN⟩:∃N,N=I8 (F::r.map C3):=⟨_,rfl⟩
 obtain ⟨ids,hids⟩:∃ids,ids=(F::r.map C3).map (O9 N):=⟨_,rfl⟩
 obtain ⟨s,hs⟩:∃s,s=W9 ids F.length r.length r.length:=⟨_,rfl⟩
 have hm:E9 x r=if ∃k,k < F.length+1∧(H2 (s.2 k)).2≠0 then (⟨0,[]⟩,1) else (⟨r.length,X0 N F s (F.length+1)⟩,0):=by
  rw [E9,if_neg hn,hs,hids,hN,hF]
 rw [hm] at h ⊢
 split at h
 ·cases h
 rename_i hno
 rw [if_neg hno]
 have hz:∀k,k < F.length+1→(H2 (s.2 k)).2=0:=fun k hk=>Classical.byContradiction fun hc=>hno ⟨k,hk,hc⟩
 refine ⟨by omega,rfl,?_⟩
 dsimp only
 have hrun:X0 N F s (F.length+1)=x7 (S6 N F s) 0 (F.length+1):=by
  unfold X0 x7
  rw [Nat.sub_zero]
  congr 1
  exact List.map_congr_left fun t _=>by rw [Nat.zero_add]
 rw [hrun]
 have hmem:∀f∈F::r.map C3,∀t∈f,t∈N:=fun f hf t ht=>by rw [hN];exact B63 _ t f hf ht
 have hlok:∀f∈F::r.map C3,f.length≤4096∧∀t∈f,J7 t=true:=by
  intro f hf
  rcases List.mem_cons.1 hf with rfl | hf
  ·rw [hF];exact ⟨hx,(A37 x).1⟩
  ·obtain ⟨b,hb,rfl⟩:=List.mem_map.1 hf
   exact ⟨hr b hb,(A37 b).1⟩
 have hil:∀z∈ids,z.length≤4096:=by
  intro z hz
  rw [hids] at hz
  obtain ⟨f,hf,rfl⟩:=List.mem_map.1 hz
  rw [O9,L26];exact (hlok f hf).1
 obtain ⟨base,hb⟩:∃base,base=O9 N F:=⟨_,rfl⟩
 have hb0:base=ids.getD 0 []:=by rw [hb,hids];rfl
 have hbl:base.length=F.length:=by rw [hb,O9,L26]
 have hFl:F.length≤4096:=(hlok F (by simp)).1
 obtain ⟨p1,p2,p3⟩:=B99 (n:=r.length) hb0 hil (by omega) r.length (by omega)
 rw [hbl] at p1 p2 p3
 rw [←hs] at p1
 rw [p1] at p2 p3
 have hmark:=G29 (n:=r.length) hb0 hil (by omega) r.length (by omega)
 rw [hbl,p1] at hmark
 have hgap:=H86 ids F.length r.length r.length (Nat.le_refl _)
 rw [←hs] at hgap
 have hco:=fun k hk=>E10 (hz k hk)
 have hspec:LoomOk (fun v=>0≤v∧v < (N.length:Int)) 4096 F.length r.length s:=by
  rw [hs]
  refine A82 (fun z hz=>⟨hil z hz,fun v hv=>?_⟩) _
  rw [hids,hN] at hz
  rw [hN]
  exact ids_in _ z hz v hv
 have hkeep:∀k,k < F.length→∃v,s.1[k]?=some v∧s.1.getD k 0=v∧0≤v∧v < ((2 ^ r.length:Nat):Int):=by
  intro k hk
  refine ⟨s.1[k]'(by omega),K97 _,?_,p2 _ (L15 _)⟩
  rw [L00,K97 (by omega)];rfl
 have hrow:∀w∈x7 (S6 N F s) 0 (F.length+1),T6 r.length w=true∧J7 w.Text=true:=by
  intro w hw
  unfold x7 at hw
  obtain ⟨l,hl,hwl⟩:=List.mem_flatten.1 hw
  obtain ⟨k,hk,rfl⟩:=List.mem_map.1 hl
  have hk:=List.mem_range.1 hk
  rw [Nat.zero_add] at hwl
  have hpw:((2 ^ r.length:Nat):Int)=2 ^ r.length:=by simp
  unfold S6 at hwl
  rcases List.mem_append.1 hwl with hwl | hwl
  ·obtain ⟨m,hmm,rfl⟩:=List.mem_map.1 hwl
   have h1:=(hco k (by omega)).1 m hmm
   rw [(hgap k).1] at h1
   have h2:=((A69 _ 4096 (s.2 k) (hspec.gaps k).2).2 m hmm).2
   refine ⟨?_,?_⟩
   ·unfold T6
    dsimp only
    rw [Int.ediv_eq_zero_of_lt (by omega) (by omega)]
    have:(m.Parents == 0)=false:=by rw [beq_eq_false_iff_ne];omega
    rw [this];decide
   ·show J7 (N.getD m.Line.toNat [])=true
    have h3:m.Line.toNat < N.length:=by omega
    rw [L00,K97 h3]
    have h4:N[m.Line.toNat]∈I8 (F::r.map C3):=by rw [←hN];exact L15 h3
    obtain ⟨f,hf,ht⟩:=List.mem_flatten.1 (D84 _ _ h4)
    exact (hlok f hf).2 _ ht
  ·split at hwl
   ·rename_i hkF
    rw [List.mem_singleton] at hwl
    subst hwl
    obtain ⟨v,_,g2,g3,g4⟩:=hkeep k hkF
    refine ⟨?_,?_⟩
    ·unfold T6
     dsimp only
     rw [g2,Int.ediv_eq_zero_of_lt g3 (by omega)];rfl
    ·show J7 (F.getD k [])=true
     rw [L00,K97 hkF]
     exact (hlok F (by simp)).2 _ (L15 hkF)
   ·cases hwl
 have hid:∀(z:List Str) (k:Nat) (h:k < z.length),z.getD k []=z[k]:=fun z k h=>by rw [L00,K97 h];rfl
 refine ⟨?_,fun q hq=>?_,List.all_eq_true.2 fun w hw=>(hrow w hw).1,fun w hw=>(hrow w hw).2⟩
 ·rw [G30,←hF]
  have:=H83 F F.length 0 (by omega)
  rw [List.drop_zero] at this
  conv=>rhs;rw [←this]
  refine B26 fun k _ hk=>?_
  unfold S6
  rw [D62,show (fun m:Merged=>(⟨true,m.Parents,N.getD m.Line.toNat []⟩:Row))=fun m=>⟨true,m.Parents,B81 N m.Line⟩ from rfl,J82,L18]
  by_cases hkF:k < F.length
  ·rw [if_pos hkF,K97 hkF,hid F k hkF];rfl
  ·rw [if_neg hkF,L19 (by omega)];rfl
 ·obtain ⟨file,hfile⟩:∃file,file=ids.getD (q+1) []:=⟨_,rfl⟩
  have hfq:file=O9 N (C3 (r.getD q [])):=by
   rw [hfile,hids,hid r q hq,L00,L04,List.getElem?_cons_succ,L30,L30,K97 hq];rfl
  have hback:file.map (B81 N)=C3 (r.getD q []):=by
   rw [hfq]
   refine I65 fun t ht=>hmem _ (List.mem_cons_of_mem _ (List.mem_map_of_mem ?_)) t ht
   rw [hid r q hq];exact L15 hq
  have hcol:=K55 file base
  rw [G30,←hback]
  conv=>rhs;rw [←hcol,←K54,hbl]
  refine B26 fun k _ hk=>?_
  have hgk:=(hgap k).2 q
  rw [if_pos hq,←hfile,←hb0] at hgk
  have hck:=(hco k hk).2 q (by rw [(hgap k).1];exact hq)
  unfold S6 F28
  rw [D62,show (fun m:Merged=>(⟨true,m.Parents,N.getD m.Line.toNat []⟩:Row))=fun m=>⟨true,m.Parents,B81 N m.Line⟩ from rfl,H89 (B81 N) (by omega),hck,hgk,L14]
  congr 1
  by_cases hkF:k < F.length
  ·obtain ⟨v,g1,g2,_⟩:=hkeep k hkF
   have hmk:=hmark q k v g1
   rw [decide_eq_true hq,Bool.true_and,←hfile] at hmk
   rw [if_pos hkF,g2]
   unfold N7
   rw [L48,H88 _ (by omega)]
   dsimp only
   rw [hmk]
   cases R3 (N6 file base) k
   ·rw [if_pos (show (false == false)=true from rfl),if_neg (show ¬false=true by decide)]
    have hbk:base[k]?=some (I7 N F[k] 0):=by rw [hb,O9,L30,K97 hkF];rfl
    rw [hbk,hid F k hkF]
    show [F[k]]=[B81 N (I7 N F[k] 0)]
    rw [J07 (hmem F (by simp) _ (L15 hkF))]
   ·rw [if_neg (show ¬(true == false)=true by decide),if_pos (show true=true from rfl)];rfl
  ·rw [if_neg hkF,L19 (by omega)]
   split<;>rfl
theorem Made16.texts16 {x:Str} {r:List Str} {rows:List Row} (h:Made16 x r rows):p6 rows r.length=true:=by
 unfold p6
 rw [K98]
 refine ⟨List.all_eq_true.2 h.texts,List.all_eq_true.2 fun k hk=>?_⟩
 have hk:=List.mem_range.1 hk
 have hl:=fun b=>B19 (C3 b) (A37 b).1 (A37 b).2
 cases k with
 | zero=>rw [show ((0:Nat):Int) - 1 = -1 from rfl,h.res];exact hl x
 | succ q =>
  rw [show ((q+1:Nat):Int) - 1=(q:Int) by omega,h.par q (by omega)];exact hl _
theorem G90 {x:Str} {r:List Str} (hx:(C3 x).length≤4096) (hr:∀b∈r,(C3 b).length≤4096) (h:(E9 x r).2=0):J2 (E9 x r).1=0:=by
 obtain ⟨h1,h2,h3⟩:=E02 hx hr h
 unfold J2
 rw [h2,if_neg (by omega),L01,h3.marks,if_neg (by decide),h3.texts16,if_neg (by decide)]
theorem H90 {x:Str} {r:List Str} {B:Nat} (hn:1≤r.length∧r.length≤32) (hx:(C3 x).length≤B) (hr:∀b∈r,(C3 b).length≤B) (h:r.length*B≤4096):(E9 x r).2=0:=by
 unfold E9
 rw [if_neg (by omega)]
 dsimp only
 rw [if_neg]
 rintro ⟨k,_,hk⟩
 refine hk ?_
 have hok:=(A82 (Q:=fun _=>True) (B:=B) (lines:=(C3 x).length) (n:=r.length) (ids:=(C3 x::r.map C3).map (O9 (I8 (C3 x::r.map C3)))) (fun z hz=>by
  obtain ⟨f,hf,rfl⟩:=List.mem_map.1 hz
  refine ⟨?_,fun _ _=>trivial⟩
  rw [O9,L26]
  rcases List.mem_cons.1 hf with rfl | hf
  ·exact hx
  ·obtain ⟨b,hb,rfl⟩:=List.mem_map.1 hf
   exact hr b hb) r.length).gaps k
 exact E11 (B:=B) (fun z hz=>(hok.2 z hz).1) (by rw [hok.1];exact hn.2) (by rw [hok.1];exact h)
end Go.AL
namespace Go.AL
open Go
def CutSp (m:Nat):Int→List Span→Prop
 | _,[]=>True
 | e,s::r=>e≤s.From∧s.From < s.To∧s.To≤m∧CutSp m s.To r
def endOf (e:Int):List Span→Int
 | []=>e
 | s::r=>endOf s.To r
theorem CutSp.mono {m m':Nat} (hm:m≤m'):∀{sp:List Span} {e:Int},CutSp m e sp→CutSp m' e sp
 | [],_,_=>trivial
 | s::r,e,h=>⟨h.1,h.2.1,by have:=h.2.2.1;omega,CutSp.mono hm h.2.2.2⟩
theorem CutSp.end_le {m:Nat}:∀{sp:List Span} {e:Int},CutSp m e sp→e≤m→endOf e sp≤m
 | [],_,_,he=>he
 | s::r,_,h,_=>CutSp.end_le (sp:=r) (e:=s.To) h.2.2.2 h.2.2.1
theorem cutSp_snoc {m:Nat} {s:Span}:∀{sp:List Span} {e:Int},CutSp m e (sp++[s])↔CutSp m e sp∧endOf e sp≤s.From∧s.From < s.To∧s.To≤m
 | [],e=>⟨fun h=>⟨trivial,h.1,h.2.1,h.2.2.1⟩,fun h=>⟨h.2.1,h.2.2.1,h.2.2.2,trivial⟩⟩
 | x::r,e=>by
  have ih:=cutSp_snoc (m:=m) (s:=s) (sp:=r) (e:=x.To)
  constructor
  ·intro h
   obtain ⟨h1,h2⟩:=ih.1 h.2.2.2
   exact ⟨⟨h.1,h.2.1,h.2.2.1,h1⟩,h2⟩
  ·rintro ⟨h1,h2⟩
   exact ⟨h1.1,h1.2.1,h1.2.2.1,ih.2 ⟨h1.2.2.2,h2⟩⟩
theorem H91:∀(l:List Bool) (i:Nat) (p:Bool) (out:List Span),CutSp i 0 out→(p=true→∃o a,out=o++[⟨a,i⟩])→CutSp (i+l.length) 0 (D16 l i p out)
 | [],i,p,out,h,_=>h
 | b :: r,i,p,out,h,hp=>by
  rw [D16,K99,show i+(r.length+1)=i+1+r.length by omega]
  have key:(b=true→∃o a,(if b=true then A00 (if p=true then out else out++[⟨i,i⟩]) ((i:Int)+1) else out)=o++[⟨a,((i+1:Nat):Int)⟩])∧CutSp (i+1) 0 (if b=true then A00 (if p=true then out else out++[⟨i,i⟩]) ((i:Int)+1) else out):=by
   cases b
   ·exact ⟨fun hb=>(by cases hb),h.mono (by omega)⟩
   ·rw [if_pos rfl]
    cases p
    ·rw [if_neg (by decide),A25]
     refine ⟨fun _=>⟨out,i,by rw [show ((i+1:Nat):Int)=(i:Int)+1 by omega]⟩,?_⟩
     have:=h.end_le (by omega)
     exact cutSp_snoc.2 ⟨h.mono (by omega),this,by dsimp only;omega,by dsimp only;omega⟩
    ·obtain ⟨o,a,rfl⟩:=hp rfl
     rw [if_pos rfl,A25]
     refine ⟨fun _=>⟨o,a,by rw [show ((i+1:Nat):Int)=(i:Int)+1 by omega]⟩,?_⟩
     obtain ⟨h1,h2,h3,h4⟩:=cutSp_snoc.1 h
     dsimp only at h2 h3 h4
     exact cutSp_snoc.2 ⟨h1.mono (by omega),h2,by dsimp only;omega,by dsimp only;omega⟩
  exact H91 r (i+1) b _ key.2 key.1
theorem J83 (l:List Bool):CutSp l.length 0 (X6 l):=by
 have:=H91 l 0 false [] trivial (fun h=>by cases h)
 rwa [Nat.zero_add] at this
def cutH (n:Nat) (rows:List Row) (s:Span):CHunk:=⟨G1 (rows.take s.From.toNat) n,(rows.drop s.From.toNat).take (s.To.toNat - s.From.toNat)⟩
def j8 (n:Nat) (rows:List Row) (sp:List Span):List CHunk:=sp.map (cutH n rows)
theorem F29 (n:Nat) (rows:List Row):∀(sp:List Span) (e:Int) (hs:List CHunk),CutSp rows.length e sp→j7 n rows e hs sp=some (hs++j8 n rows sp)
 | [],_,hs,_=>by simp [j7,j8]
 | s::r,e,hs,h=>by
  obtain ⟨h1,h2,h3,h4⟩:=h
  rw [j7,if_neg (by omega),F29 n rows r _ _ h4]
  simp [j8,cutH]
theorem F30 (a b:List Row) (n k:Nat):M2 (a++b) n k=M2 a n k+M2 b n k:=by
 unfold M2;rw [D62,K96];omega
theorem G91 (a:List Row) (n k:Nat):0≤M2 a n k∧M2 a n k≤a.length:=by
 have:=D46 a (A08 n k)
 unfold M2;omega
theorem D63 (rows:List Row) (n k:Nat) (h:k < n+1):(G1 rows n).getD k 0=M2 rows n k:=A39 _ _ _ h
theorem C59 {α:Type} (rows:List α) {a b:Nat} (h:a≤b):rows.take b=rows.take a++(rows.drop a).take (b - a):=by
 have:=List.take_add (l:=rows) (i:=a) (j:=b - a)
 rwa [show a+(b - a)=b by omega] at this
theorem K56 (n:Nat) (rows:List Row) {s:Span} (h1:0≤s.From) (h2:s.From < s.To):U2 n (cutH n rows s)=G1 (rows.take s.To.toNat) n:=by
 unfold U2 G1
 refine List.map_congr_left fun k hk=>?_
 have hk:=List.mem_range.1 hk
 show (G1 (rows.take s.From.toNat) n).getD k 0+M2 ((rows.drop s.From.toNat).take (s.To.toNat - s.From.toNat)) n k=_
 rw [D63 _ _ _ hk,←F30,←C59 rows (by omega)]
theorem F31 (n:Nat) {rows:List Row} (hl:rows.length≤4096):∀(sp:List Span) (e:Int),0≤e→CutSp rows.length e sp→b8 n (G1 (rows.take e.toNat) n) (j8 n rows sp)=true
 | [],_,_,_=>rfl
 | s::r,e,he,h=>by
  obtain ⟨h1,h2,h3,h4⟩:=h
  show (C52 n (G1 (rows.take e.toNat) n) (cutH n rows s)&&b8 n (U2 n (cutH n rows s)) (j8 n rows r))=true
  rw [K56 n rows (by omega) h2,F31 n hl r s.To (by omega) h4,Bool.and_true]
  unfold C52
  rw [K98]
  refine ⟨decide_eq_true ⟨F13 _ _,fun hc=>?_⟩,List.all_eq_true.2 fun k hk=>decide_eq_true ?_⟩
  ·have:((rows.drop s.From.toNat).take (s.To.toNat - s.From.toNat)).length=0:=by
    rw [show (rows.drop s.From.toNat).take (s.To.toNat - s.From.toNat)=[] from hc];rfl
   rw [L08,L05] at this
   omega
  ·have hk:=List.mem_range.1 hk
   show ((G1 (rows.take e.toNat) n).getD k 0≤(G1 (rows.take s.From.toNat) n).getD k 0∧(G1 (rows.take s.From.toNat) n).getD k 0≤4096)∧(G1 (rows.take s.From.toNat) n).getD k 0+M2 ((rows.drop s.From.toNat).take (s.To.toNat - s.From.toNat)) n k≤4096
   rw [D63 _ _ _ hk,D63 _ _ _ hk,←F30,←C59 rows (by omega)]
   have g1:=F30 (rows.take e.toNat) ((rows.drop e.toNat).take (s.From.toNat - e.toNat)) n k
   rw [←C59 rows (by omega)] at g1
   have g2:=G91 ((rows.drop e.toNat).take (s.From.toNat - e.toNat)) n k
   have g3:=G91 (rows.take s.From.toNat) n k
   have g4:=G91 (rows.take s.To.toNat) n k
   rw [L08] at g3 g4
   omega
theorem E03 (n:Nat) (rows:List Row):∀(sp:List Span) (e:Int),0≤e→CutSp rows.length e sp→(r5 (j8 n rows sp)).Sublist (rows.drop e.toNat)
 | [],_,_,_=>List.nil_sublist _
 | s::r,e,he,h=>by
  obtain ⟨h1,h2,h3,h4⟩:=h
  have ih:=E03 n rows r s.To (by omega) h4
  show ((rows.drop s.From.toNat).take (s.To.toNat - s.From.toNat)++r5 (j8 n rows r)).Sublist _
  have e1:rows.drop e.toNat=(rows.drop e.toNat).take (s.From.toNat - e.toNat)++((rows.drop s.From.toNat).take (s.To.toNat - s.From.toNat)++rows.drop s.To.toNat):=by
   rw [←A41 rows (show s.From.toNat≤s.To.toNat by omega)]
   exact A41 rows (by omega)
  rw [e1]
  exact (List.Sublist.append (List.Sublist.refl _) ih).trans (List.sublist_append_right _ _)
theorem F32:∀{l:List Str},B60 l=true→(∀s∈l,J7 s=true)∧R2 l=true
 | [],_=>⟨fun s hs=>(by cases hs),rfl⟩
 | x::r,h=>by
  rw [D85,K98,K98] at h
  obtain ⟨⟨h1,h2⟩,h3⟩:=h
  obtain ⟨i1,i2⟩:=F32 h3
  refine ⟨fun s hs=>?_,?_⟩
  ·rcases List.mem_cons.1 hs with rfl | hs
   ·exact h1
   ·exact i1 s hs
  ·show ((r.isEmpty||ended x)&&R2 r)=true
   rw [h2,i2];rfl
theorem J84 {a b:List Row} {n:Nat} (hs:a.Sublist b) (h:p6 b n=true):p6 a n=true:=by
 unfold p6 at h ⊢
 rw [K98] at h ⊢
 obtain ⟨h1,h2⟩:=h
 refine ⟨List.all_eq_true.2 fun r hr=>List.all_eq_true.1 h1 r (hs.subset hr),List.all_eq_true.2 fun k hk=>?_⟩
 have h3:=F32 (List.all_eq_true.1 h2 k hk)
 have h4:(N7 a ((k:Int) - 1)).Sublist (N7 b ((k:Int) - 1)):=by unfold N7;exact (hs.filter _).map _
 exact B19 _ (fun s hs=>h3.1 s (h4.subset hs)) (B16 h4 h3.2)
theorem F63 {t:Table} (h:J2 t=0):(1≤t.Parents∧t.Parents≤32)∧P3 t.Rows t.Parents.toNat=true∧p6 t.Rows t.Parents.toNat=true:=by
 unfold J2 at h
 split at h
 ·cases h
 ·rename_i h1
  split at h
  ·cases h
  ·rename_i h2
   split at h
   ·cases h
   ·rename_i h3
    exact ⟨by omega,by simpa using h2,by simpa using h3⟩
theorem I66 {path:Str} {t:Table} {sp:List Span} {d:Bool} (hn:V2 path=true) (hc:J2 t=0) (hl:t.Rows.length≤4096) (hsp:CutSp t.Rows.length 0 sp)
  (hW:4*path.length+48+926*t.Rows.length+(t.Rows.map (D15 t.Parents.toNat)).sum≤16777216) :
  b9 path t sp d=(⟨path,d,t.Parents,j8 t.Parents.toNat t.Rows sp⟩,0)∧J1 ⟨path,d,t.Parents,j8 t.Parents.toNat t.Rows sp⟩=0∧(S0 ⟨path,d,t.Parents,j8 t.Parents.toNat t.Rows sp⟩).length≤4*path.length+48+926*t.Rows.length+(t.Rows.map (D15 t.Parents.toNat)).sum:=by
 obtain ⟨h1,h2,h3⟩:=F63 hc
 have hgo:=F29 t.Parents.toNat t.Rows sp 0 [] hsp
 rw [L18] at hgo
 have hsub:=E03 t.Parents.toNat t.Rows sp 0 (Int.le_refl _) hsp
 rw [show (0:Int).toNat=0 from rfl,List.drop_zero] at hsub
 have hw:=F22 ⟨path,d,t.Parents,j8 t.Parents.toNat t.Rows sp⟩
 have hg:=E25 (D15 t.Parents.toNat) (28*(t.Parents.toNat+1)+2) t.Parents.toNat t.Rows sp 0 [] _ (Int.le_refl _) hgo (by simp) (by simp)
 have hlen:(j8 t.Parents.toNat t.Rows sp).length≤t.Rows.length:=by have:=hg.2;simpa using this
 have hmul:(28*(t.Parents.toNat+1)+2)*(j8 t.Parents.toNat t.Rows sp).length≤926*t.Rows.length:=Nat.mul_le_mul (by omega) hlen
 have hsz:(S0 ⟨path,d,t.Parents,j8 t.Parents.toNat t.Rows sp⟩).length≤4*path.length+48+926*t.Rows.length+(t.Rows.map (D15 t.Parents.toNat)).sum:=by
  have:=hg.1
  dsimp only at hw
  omega
 have hck:J1 ⟨path,d,t.Parents,j8 t.Parents.toNat t.Rows sp⟩=0:=by
  unfold J1
  dsimp only
  have m1:x5 t.Parents.toNat (j8 t.Parents.toNat t.Rows sp)=true:=by
   unfold x5
   refine List.all_eq_true.2 fun h hh=>List.all_eq_true.2 fun r hr=>List.all_eq_true.1 h2 r (hsub.subset ?_)
   exact List.mem_flatten.2 ⟨h.Rows,List.mem_map_of_mem hh,hr⟩
  have m2:W0 t.Parents.toNat (j8 t.Parents.toNat t.Rows sp)=true:=by
   unfold W0
   have e0:List.replicate (t.Parents.toNat+1) 0=G1 (t.Rows.take (0:Int).toNat) t.Parents.toNat:=by
    unfold G1
    refine List.ext_getElem (by simp) fun k h1 h2=>?_
    simp [M2,N7]
   rw [e0,F31 _ hl sp 0 (Int.le_refl _) hsp,J84 hsub h3];rfl
  rw [if_neg (by rw [hn];decide),if_neg (by omega),m1,if_neg (by decide),m2,if_neg (by decide),if_neg (by omega)]
 refine ⟨?_,hck,hsz⟩
 unfold b9
 rw [if_neg (by rw [hn];decide),hc,if_neg (by decide),hgo]
 dsimp only
 rw [hck,if_neg (by decide)]
theorem G92 {t:Table} {ctx:Int} (d:Bool) (hc:J2 t=0) (h:0≤ctx∧ctx≤1048576):(M3 t ctx d).2=0∧CutSp t.Rows.length 0 (M3 t ctx d).1:=by
 have hi:(H0 t d).2=0:=by
  unfold H0 A11
  rw [hc,if_neg (show ¬(0:Int)≠0 by decide)]
  rfl
 unfold M3
 rw [hi,if_neg (by decide),if_neg (by omega)]
 refine ⟨rfl,?_⟩
 have:=J83 ((List.range t.Rows.length).map (S2 (H0 t d).1 ctx))
 rwa [L26,L43] at this
end Go.AL
