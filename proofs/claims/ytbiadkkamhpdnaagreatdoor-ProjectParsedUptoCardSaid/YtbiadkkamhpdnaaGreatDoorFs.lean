/- Plain facts about data; no project text. -/
import Derived.Test.YtbiadkkamhpdnaaGreatDoorD
import Derived.Lib.Strings
import Derived.Lib.Bytealg
import Derived.Lib.Join
import Derived.Lib.ItoaNum
import Derived.Test.YtbiadkkamhpdnaaGreatDoorAn
set_option linter.unusedSimpArgs false
namespace Go.AL
open Go
theorem u8_lf (c:UInt8):((c.toNat:Int)=10)↔c=10:=by
 constructor
 ·intro h
  have:c.toNat=10:=by omega
  exact UInt8.toNat_inj.1 (by simpa using this)
 ·rintro rfl;rfl
def F8 (cur:Str):Str→List Str
 | []=>if cur=[] then [] else [cur]
 | c::r=>if c=10 then (cur++[c])::F8 [] r else F8 (cur++[c]) r
def C1 (b:Str):List Str:=F8 [] b
theorem B23 (cur:Str) (s:Str):(F8 cur s).length≤s.length+1:=by
 induction s generalizing cur with
 | nil=>unfold F8;split<;>simp
 | cons c r ih=>unfold F8;split<;>simp<;>(have:=ih [];have:=ih (cur++[c]);omega)
theorem C01 (s:Str):(F8 [] s).length≤s.length:=by
 have key:∀(s cur:Str),cur≠[]→(F8 cur s).length≤s.length+1:=fun s cur _=>B23 cur s
 induction s with
 | nil=>simp [F8]
 | cons c r ih=>unfold F8;split<;>simp<;>(have:=B23 ([]++[c]) r;simp at this;omega)
theorem Y3 (b:Str):(C1 b).length≤b.length:=C01 b
theorem W5 (cur r:Str) (c:UInt8):F8 cur (c::r)=if c=10 then (cur++[c])::F8 [] r else F8 (cur++[c]) r:=rfl
theorem G44 (cur:Str) (h:cur≠[]):F8 cur []=[cur]:=by simp [F8,h]
theorem or_pick {p q:Prop} [Decidable p] [Decidable q]:(if decide p=true then true else decide q)=decide (p∨q):=by by_cases p<;>simp [*]
theorem K1 {p q:Prop} [Decidable p] [Decidable q]:(if decide p=true then decide q else false)=decide (p∧q):=by by_cases p<;>simp [*]
theorem p5 {α:Type} (l:List (List α)) (i:Nat) (h:i < l.length):(l.take (i+1)).flatten=(l.take i).flatten++l[i]:=by
 rw [List.take_add_one,K57 h,Option.toList_some,K86];simp
theorem c7 {α:Type} (l:List (List α)) (i:Nat):(l.take i).flatten.length≤l.flatten.length:=by
 conv=>rhs;rw [←K95 i l,K86,K56]
 omega
theorem I20 (i:Nat):((i:Int)+1).toNat=i+1:=by omega
theorem F81 {α:Type} (b:List α) (f i:Nat) (hf:f≤i) (hi:i < b.length):(b.drop f).take (i - f)++[b[i]]=(b.drop f).take (i+1 - f):=by
 rw [show i+1 - f=(i - f)+1 by omega,List.take_add_one,K83,show f+(i - f)=i by omega,K57 hi]
 rfl
def ended (s:Str):Bool:=s.getLast? == some 10
def I5:List Str→Str→Int→Int
 | [],_,_ => -1
 | x::r,s,i=>if x=s then i else I5 r s (i+1)
def H8 (s:Str):Bool:=s.dropLast.all (·≠10)&&s != []
def v8:List Str→Bool
 | []=>true
 | s::r=>H8 s&&(r.isEmpty||ended s)&&v8 r
def A44 (b:Str):Int:=if b.length > 1048576∨(C1 b).length > 4096 then 1 else 0
def A59 (l:List Str):Str × Int:=if v8 l=false then ([],2) else if l.flatten.length > 1048576∨l.length > 4096 then ([],1) else (l.flatten,0)
def K7 (out:List Str) (s:Str):List Str:=if s∈out then out else out++[s]
def I6 (files:List (List Str)):List Str:=files.flatten.foldl K7 []
def O7 (names:List Str) (file:List Str):List Int:=file.map (fun s=>I5 names s 0)
theorem D33 (out:List Str) (s:Str):(K7 out s).length≤out.length+1:=by unfold K7;split<;>simp
theorem C42 (l out:List Str):(l.foldl K7 out).length≤out.length+l.length:=by
 induction l generalizing out with
 | nil=>simp
 | cons s r ih=>have h1:=ih (K7 out s);have h2:=D33 out s;simp only [K89,K58];omega
theorem E59 (fs:List (List Str)):(I6 fs).length≤fs.flatten.length:=by have:=C42 fs.flatten [];simpa [I6] using this
end Go.AL
namespace Go.AL
open Go
def O8 (i j:Int):List Span→Int→Int→List Change
 | [],m,n=>if m > i∨n > j then [⟨i,m - i,j,n - j⟩] else []
 | x::r,m,n=>(if x.From > i∨x.To > j then [⟨i,x.From - i,j,x.To - j⟩] else [])++O8 (x.From+1) (x.To+1) r m n
def A96 (p:List Span) (m n:Int):List Change:=O8 0 0 p m n
theorem C17 (p:List Span) (i j m n:Int):(O8 i j p m n).length≤p.length+1:=by
 induction p generalizing i j with
 | nil=>unfold O8;split<;>simp
 | cons x r ih=>unfold O8;have:=ih (x.From+1) (x.To+1);split<;>simp<;>omega
def P7 (i j:Int) (n:Nat):List Span:=(List.range n).map fun (t:Nat)=>⟨i+(t:Int),j+(t:Int)⟩
theorem E60 (i j:Int) (n:Nat):(P7 i j n).length=n:=by simp [P7]
theorem A97 (i j:Int) (n:Nat):P7 i j (n+1)=⟨i,j⟩::P7 (i+1) (j+1) n:=by
 unfold P7
 rw [List.range_succ_eq_map,K63,K93]
 congr 1
 ·simp
 ·refine List.map_congr_left fun t _=>?_
  simp only [Function.comp,Span.mk.injEq]
  omega
def K8 (i j:Int):List Change→Int→List Span
 | [],m=>P7 i j (m - i).toNat
 | c::r,m=>P7 i j (c.Old - i).toNat++K8 (max i c.Old+c.OldLen) (j+(c.Old - i).toNat+c.NewLen) r m
def j8 (l:List Change) (m:Int):List Span:=K8 0 0 l m
def dist:List Int→List Int→Nat
 | [],b=>b.length
 | x::a,[]=>(x::a).length
 | x::a,y::b=>if x=y then dist a b else 1+min (dist a (y::b)) (dist (x::a) b)
theorem C87 (a:List Int):dist a []=a.length:=by cases a<;>simp [dist]
theorem G45 (a b:List Int):dist a b≤a.length+b.length:=by
 induction a generalizing b with
 | nil=>simp [dist]
 | cons x a iha =>
  induction b with
  | nil=>simp [dist]
  | cons y b ihb =>
   unfold dist
   split
   ·have:=iha b;simp;omega
   ·have:=iha (y::b);have:=ihb;simp only [K58] at *;omega
def H2 (i j:Int):List Int→List Int→List Span
 | [],_=>[]
 | _::_,[]=>[]
 | x::a,y::b=>if x=y then ⟨i,j⟩::H2 (i+1) (j+1) a b else if dist a (y::b)+1=dist (x::a) (y::b) then H2 (i+1) j a (y::b) else H2 i (j+1) (x::a) b
def N5 (a b:List Int):List Change:=A96 (H2 0 0 a b) a.length b.length
theorem J29 (a b:List Int) (i j:Nat) (hi:i < a.length) (hj:j < b.length) :
  dist (a.drop i) (b.drop j)=if a[i]=b[j] then dist (a.drop (i+1)) (b.drop (j+1)) else 1+min (dist (a.drop (i+1)) (b.drop j)) (dist (a.drop i) (b.drop (j+1))):=by
 rw [K64 hi,K64 hj]
 conv=>lhs;rw [dist]
theorem D70 (a b:List Int) (i j:Nat) (hi:i < a.length) (hj:j < b.length) (p q:Int) :
  H2 p q (a.drop i) (b.drop j)=if a[i]=b[j] then ⟨p,q⟩::H2 (p+1) (q+1) (a.drop (i+1)) (b.drop (j+1)) else
   if dist (a.drop (i+1)) (b.drop j)+1=dist (a.drop i) (b.drop j) then H2 (p+1) q (a.drop (i+1)) (b.drop j) else H2 p (q+1) (a.drop i) (b.drop (j+1)):=by
 rw [K64 hi,K64 hj]
 conv=>lhs;rw [H2]
theorem c8 (p q:Int) (b:List Int):H2 p q [] b=[]:=by simp [H2]
theorem w7 (p q:Int) (a:List Int):H2 p q a []=[]:=by cases a<;>simp [H2]
theorem A60 (p q:Int) (a b:List Int):(H2 p q a b).length≤a.length:=by
 induction a generalizing p q b with
 | nil=>simp [H2]
 | cons x a iha =>
  induction b generalizing p q with
  | nil=>simp [H2]
  | cons y b ihb =>
   unfold H2
   split
   ·have:=iha (p+1) (q+1) b;simp;omega
   ·split
    ·have:=iha (p+1) q (y::b);simp;omega
    ·exact ihb p (q+1)
universe u
theorem D34 {α:Type u} (n k:Nat) (f g:Nat→α) (v:α) (hv:k < n→g k=v) (h:∀q,q < n→q≠k→g q=f q):((List.range n).map f).set k v=(List.range n).map g:=by
 refine List.ext_getElem (by simp) fun q h1 h2=>?_
 have hq:q < n:=by simpa using h2
 rw [List.getElem_set]
 by_cases he:k=q
 ·subst he;simp [hv hq]
 ·rw [if_neg he];simp [h q hq (Ne.symm he)]
theorem D35 {α:Type u} (n k:Nat) (f:Nat→α) (h:k < n):((List.range n).map f)[k]?=some (f k):=by simp [h]
def H6 (l:List Merged):List Int:=l.map (·.Line)
theorem A98 (i j:Int):P7 i j 0=[]:=rfl
theorem G46 (i j:Int) (n:Nat):P7 i j (n+1)=P7 i j n++[⟨i+n,j+n⟩]:=by simp [P7,K98]
def Asc (m n:Int):Int→Int→List Span→Prop
 | i,j,[]=>i≤m∧j≤n
 | i,j,x::r=>i≤x.From∧j≤x.To∧Asc m n (x.From+1) (x.To+1) r
theorem Asc.le {m n:Int}:∀{p:List Span} {i j:Int},Asc m n i j p→i≤m∧j≤n
 | [],i,j,h=>h
 | x::r,i,j,h=>by have:=Asc.le h.2.2;have:=h.1;have:=h.2.1;omega
theorem Asc.weaken {m n:Int} {p:List Span} {i j i' j':Int} (h:Asc m n i j p) (hi:i'≤i) (hj:j'≤j):Asc m n i' j' p:=by
 cases p with
 | nil=>exact ⟨by have:=h.1;omega,by have:=h.2;omega⟩
 | cons x r=>exact ⟨by have:=h.1;omega,by have:=h.2.1;omega,h.2.2⟩
theorem V5 (a b:List Int):∀(p q:Int),Asc (p+a.length) (q+b.length) p q (H2 p q a b):=by
 induction a generalizing b with
 | nil=>intro p q;rw [c8];simp only [Asc,K61];omega
 | cons x a iha =>
  induction b with
  | nil=>intro p q;rw [w7];simp only [Asc,K61];omega
  | cons y b ihb =>
   intro p q
   rw [H2]
   split
   ·have:=iha b (p+1) (q+1)
    refine ⟨Int.le_refl _,Int.le_refl _,?_⟩
    simp only [K58]
    rwa [show p+((a.length+1:Nat):Int)=p+1+a.length by omega,show q+((b.length+1:Nat):Int)=q+1+b.length by omega]
   ·split
    ·have:=(iha (y::b) (p+1) q).weaken (i':=p) (j':=q) (by omega) (Int.le_refl _)
     rwa [show p+((x::a).length:Int)=p+1+a.length by simp;omega]
    ·have:=(ihb p (q+1)).weaken (i':=p) (j':=q) (Int.le_refl _) (by omega)
     rwa [show q+((y::b).length:Int)=q+1+b.length by simp;omega]
theorem Asc.made {m n:Int}:∀{p:List Span} {i j:Int},Asc m n i j p→∀c∈O8 i j p m n,i≤c.Old∧j≤c.New∧0≤c.OldLen∧0≤c.NewLen∧c.Old+c.OldLen≤m∧c.New+c.NewLen≤n
 | [],i,j,h,c,hc=>by
  unfold O8 at hc
  split at hc
  ·simp only [List.mem_singleton] at hc;subst hc
   have:=h.1;have:=h.2
   simp only;omega
  ·cases hc
 | x::r,i,j,h,c,hc=>by
  unfold O8 at hc
  obtain ⟨h1,h2,h3⟩:=h
  have h4:=h3.le
  rcases List.mem_append.1 hc with hc | hc
  ·split at hc
   ·simp only [List.mem_singleton] at hc;subst hc
    simp only;omega
   ·cases hc
  ·have:=Asc.made h3 c hc;omega
theorem E61 (i j m:Int) (l:List Change) (h:∀c∈l,i+1≤c.Old) (hm:l=[]→i+1≤m):K8 i j l m=⟨i,j⟩::K8 (i+1) (j+1) l m:=by
 cases l with
 | nil =>
  have:=hm rfl
  rw [K8,K8,show (m - i).toNat=(m - (i+1)).toNat+1 by omega,A97]
 | cons c r =>
  have:=h c (List.mem_cons_self ..)
  rw [K8,K8,show (c.Old - i).toNat=(c.Old - (i+1)).toNat+1 by omega,A97]
  rw [show max (i+1) c.Old=max i c.Old by omega,show (j+1+((c.Old - (i+1)).toNat:Int))=j+(((c.Old - (i+1)).toNat+1:Nat):Int) by omega]
  rfl
theorem C88 {m n:Int}:∀{p:List Span} {i j:Int},Asc m n i j p→K8 i j (O8 i j p m n) m=p
 | [],i,j,h=>by
  have h1:=h.1;have h2:=h.2
  unfold O8
  split
  ·rw [K8,K8,show (i - i).toNat=0 by omega,show (m - (max i i+(m - i))).toNat=0 by omega];rfl
  ·rw [K8,show (m - i).toNat=0 by omega];rfl
 | x::r,i,j,h=>by
  obtain ⟨h1,h2,h3⟩:=h
  have ih:=C88 h3
  have hm:=h3.le
  have hd:=E61 x.From x.To m (O8 (x.From+1) (x.To+1) r m n) (fun c hc=>(h3.made c hc).1) (fun _=>hm.1)
  rw [ih] at hd
  unfold O8
  split
  ·rw [List.singleton_append,K8,show (i - i).toNat=0 by omega,show max i i+(x.From - i)=x.From by omega,show j+((0:Nat):Int)+(x.To - j)=x.To by omega,hd];rfl
  ·have e1:i=x.From:=by omega
   have e2:j=x.To:=by omega
   rw [K78,e1,e2,hd]
theorem G47 (a b:List Int):j8 (N5 a b) a.length=H2 0 0 a b:=by
 have:=V5 a b 0 0
 rw [Int.zero_add,Int.zero_add] at this
 exact C88 this
theorem G48 (a b:List Int):∀c∈N5 a b,0≤c.Old∧0≤c.New∧0≤c.OldLen∧0≤c.NewLen∧c.Old+c.OldLen≤a.length∧c.New+c.NewLen≤b.length:=by
 have:=V5 a b 0 0
 rw [Int.zero_add,Int.zero_add] at this
 exact this.made
def J1 (p:Int):Int:=IntKind.u32.wrap (1*2 ^ (min (IntKind.u64.wrap p).toNat IntKind.u32.bits))
def K9 (a b:Int):Int:=IntKind.u32.wrap ((BitVec.ofInt IntKind.u32.bits a ||| BitVec.ofInt IntKind.u32.bits b).toNat:Int)
def Y4 (l:List Merged) (list:List Int) (bit:Int) (i j:Nat):List Span→List Merged
 | []=>(l.drop i).take (l.length - i)++((list.drop j).take (list.length - j)).map fun v=>⟨v,bit⟩
 | x::r=>(l.drop i).take (x.From.toNat - i)++(((list.drop j).take (x.To.toNat - j)).map fun v=>⟨v,bit⟩)++((l[x.From.toNat]?.map fun y=>(⟨y.Line,K9 y.Parents bit⟩:Merged)).toList++Y4 l list bit (x.From.toNat+1) (x.To.toNat+1) r)
def Y5 (l:List Merged) (list:List Int) (p:Int):List Merged:=Y4 l list (J1 p) 0 0 (H2 0 0 (H6 l) list)
theorem E62 {α:Type} (l:List α) (i t:Nat) (h:i+t < l.length):(l.drop i).take (t+1)=(l.drop i).take t++[l[i+t]]:=by
 rw [List.take_add_one,K83,K57 h];rfl
end Go.AL
namespace Go.AL
open Go
def V0 (m:Int) (c:Nat):Bool:=m / 2 ^ c % 2 == 1
def a8 (r:Row) (c:Int):Bool:=if c = -1 then !r.Lost else if c < -1∨32≤c then false else V0 r.Marks c.toNat == r.Lost
def K0 (rows:List Row) (c:Int):List Str:=(rows.filter (a8 · c)).map (·.Text)
def R7 (n:Nat) (r:Row):Bool:=r.Marks / 2 ^ n == 0&&!(r.Lost&&r.Marks == 0)
def R4 (rows:List Row) (n:Nat):Bool:=rows.all (R7 n)
def c9 (rows:List Row) (n:Nat):Bool:=rows.all (fun r=>H8 r.Text)&&(List.range (n+1)).all fun k=>v8 (K0 rows ((k:Int) - 1))
def M6 (t:Table):Int:=if t.Parents < 1∨32 < t.Parents then 2 else if R4 t.Rows t.Parents.toNat=false then 180 else if c9 t.Rows t.Parents.toNat=false then 4 else 0
def T0 (t:Table) (c:Int):Str × Int:=if M6 t≠0 then ([],M6 t) else if c < -1∨t.Parents≤c then ([],3) else A59 (K0 t.Rows c)
theorem C89 (r:Row) (rs:List Row) (n:Nat):R4 (r::rs) n=(R7 n r&&R4 rs n):=rfl
def J8 (rows:List Row):Prop:=∀r∈rows,0≤r.Marks∧r.Marks < 4294967296
def P5 (rows:List Row):Nat:=(rows.map (·.Text)).flatten.length
theorem B88 (rows:List Row) (c:Int):(K0 rows c).length≤rows.length:=by unfold K0;rw [K84];exact List.length_filter_le _ _
theorem I21 (rows:List Row) (c:Int):(K0 rows c).flatten.length≤P5 rows:=by
 unfold K0 P5
 induction rows with
 | nil=>simp
 | cons r rs ih =>
  rw [L03]
  split
  ·simp only [K63,K72,K56];omega
  ·simp only [K63,K72,K56];omega
theorem H28 (rows:List Row):∀r∈rows,r.Text.length≤P5 rows:=by
 intro r hr
 unfold P5
 exact (List.sublist_flatten_of_mem (List.mem_map_of_mem hr)).length_le
theorem H29 (x:Int) (h:0≤x∧x < 4294967296):IntKind.u32.wrap ((BitVec.ofInt IntKind.u32.bits x &&& BitVec.ofInt IntKind.u32.bits 1).toNat:Int)=x % 2:=by
 have h1:(BitVec.ofInt IntKind.u32.bits x &&& BitVec.ofInt IntKind.u32.bits 1).toNat=x.toNat % 2:=by
  rw [BitVec.toNat_and,BitVec.toNat_ofInt,BitVec.toNat_ofInt]
  have e1:(x % ((2 ^ IntKind.u32.bits:Nat):Int)).toNat=x.toNat:=by
   rw [show ((2 ^ IntKind.u32.bits:Nat):Int)=4294967296 by rfl];omega
  have e2:((1:Int) % ((2 ^ IntKind.u32.bits:Nat):Int)).toNat=1:=by rfl
  rw [e1,e2,Nat.and_one_is_mod]
 rw [h1]
 have h2:IntKind.u32.wrap ((x.toNat % 2:Nat):Int)=((x.toNat % 2:Nat):Int):=by
  simp [IntKind.wrap,IntKind.signed,IntKind.bits];omega
 rw [h2];omega
theorem I22 {n:Int} (h:0≤n∧n < 18446744073709551616):IntKind.u64.wrap n=n:=by simp [IntKind.wrap,IntKind.signed,IntKind.bits];omega
theorem I73 (m c:Int) (hc:0≤c∧c≤32):m.fdiv (2 ^ (min c.toNat IntKind.u32.bits))=m / 2 ^ c.toNat:=by
 rw [show min c.toNat IntKind.u32.bits=c.toNat from Nat.min_eq_left (by show c.toNat≤32;omega),Int.fdiv_eq_ediv_of_nonneg _ (Int.pow_nonneg (by decide))]
theorem shr_eq (m c:Int) (b:Nat) (hc:0≤c∧c≤b):m.fdiv (2 ^ (min c.toNat b))=m / 2 ^ c.toNat:=by
 rw [show min c.toNat b=c.toNat by omega,Int.fdiv_eq_ediv_of_nonneg _ (Int.pow_nonneg (by decide))]
end Go.AL
namespace Go.AL
open Go
theorem G49 (n:Int):0≤IntKind.u32.wrap n∧IntKind.u32.wrap n < 4294967296:=by simp [IntKind.wrap,IntKind.signed,IntKind.bits];omega
def p6 (a b:Int):Int:=IntKind.u32.wrap ((BitVec.ofInt IntKind.u32.bits a &&& ~~~BitVec.ofInt IntKind.u32.bits b).toNat:Int)
def H9 (acc:List Merged) (p:Nat):List (List Int)→List Merged × Int
 | []=>(acc,0)
 | x::r=>if 4096 < acc.length∨4096 < x.length then ([],1) else H9 (Y5 acc x p) (p+1) r
def H4 (lists:List (List Int)):List Merged × Int:=if 32 < lists.length then ([],1) else H9 [] 0 lists
theorem D71 (l:List Merged) (list:List Int) (bit:Int):∀(ps:List Span) (i j:Nat),i≤l.length→j≤list.length→Asc l.length list.length i j ps→(Y4 l list bit i j ps).length≤(l.length - i)+(list.length - j)
 | [],i,j,hi,hj,_=>by simp [Y4]
 | x::r,i,j,hi,hj,ha=>by
  obtain ⟨h1,h2,h3⟩:=ha
  have h4:=h3.le
  have e1:((x.From.toNat+1:Nat):Int)=x.From+1:=by omega
  have e2:((x.To.toNat+1:Nat):Int)=x.To+1:=by omega
  have ih:=D71 l list bit r (x.From.toNat+1) (x.To.toNat+1) (by omega) (by omega) (by rw [e1,e2];exact h3)
  have h5:((l[x.From.toNat]?.map fun y=>(⟨y.Line,K9 y.Parents bit⟩:Merged)).toList).length≤1:=by cases l[x.From.toNat]?<;>simp
  simp only [Y4,K56,K84,K70,K65]
  omega
theorem A45 (l:List Merged) (list:List Int) (p:Int):(Y5 l list p).length≤l.length+list.length:=by
 have hasc:=V5 (H6 l) list 0 0
 rw [Int.zero_add,Int.zero_add,show (H6 l).length=l.length by simp [H6]] at hasc
 have:=D71 l list (J1 p) (H2 0 0 (H6 l) list) 0 0 (Nat.zero_le _) (Nat.zero_le _) hasc
 simpa [Y5] using this
theorem W6 {α:Type} {l:List α} {i n:Nat} {x:α} (h:x∈(l.drop i).take n):x∈l:=List.mem_of_mem_drop (List.mem_of_mem_take h)
theorem E63 (l:List Merged) (list:List Int) (bit:Int) (hb:0≤bit∧bit < 4294967296) (hl:∀m∈l,0≤m.Parents∧m.Parents < 4294967296) (Q:Int→Prop) (hq1:∀m∈l,Q m.Line) (hq2:∀v∈list,Q v) :
  ∀(ps:List Span) (i j:Nat),∀m∈Y4 l list bit i j ps,(0≤m.Parents∧m.Parents < 4294967296)∧Q m.Line
 | [],i,j,m,hm=>by
  rcases List.mem_append.1 hm with h | h
  ·have:=W6 h;exact ⟨hl _ this,hq1 _ this⟩
  ·obtain ⟨v,hv,rfl⟩:=List.mem_map.1 h
   exact ⟨hb,hq2 _ (W6 hv)⟩
 | x :: r,i,j,m,hm=>by
  unfold Y4 at hm
  rcases List.mem_append.1 hm with h | h
  ·rcases List.mem_append.1 h with h | h
   ·have:=W6 h;exact ⟨hl _ this,hq1 _ this⟩
   ·obtain ⟨v,hv,rfl⟩:=List.mem_map.1 h
    exact ⟨hb,hq2 _ (W6 hv)⟩
  ·rcases List.mem_append.1 h with h | h
   ·cases hx:l[x.From.toNat]? with
    | none=>simp [hx] at h
    | some y =>
     simp [hx] at h
     subst h
     exact ⟨G49 _,hq1 y (K75 hx)⟩
   ·exact E63 l list bit hb hl Q hq1 hq2 r _ _ m h
theorem A46 (Q:Int→Prop) (B:Nat):∀(ls:List (List Int)) (acc:List Merged) (p:Nat),(∀x∈ls,x.length≤B∧∀v∈x,Q v)→(∀m∈acc,(0≤m.Parents∧m.Parents < 4294967296)∧Q m.Line) →
  (H9 acc p ls).1.length≤acc.length+ls.length*B∧∀m∈(H9 acc p ls).1,(0≤m.Parents∧m.Parents < 4294967296)∧Q m.Line
 | [],acc,p,_,ha=>by simp only [H9];exact ⟨by simp,ha⟩
 | x::r,acc,p,hl,ha=>by
  unfold H9
  split
  ·exact ⟨by simp,by simp⟩
  ·have hx:=hl x (List.mem_cons_self ..)
   have hj:=A45 acc x p
   have hm:=E63 acc x (J1 p) (G49 _) (fun m hm=>(ha m hm).1) Q (fun m hm=>(ha m hm).2) hx.2 (H2 0 0 (H6 acc) x) 0 0
   have ih:=A46 Q B r (Y5 acc x p) (p+1) (fun y hy=>hl y (List.mem_cons_of_mem _ hy)) hm
   refine ⟨?_,ih.2⟩
   have h1:=ih.1
   have h2:=hx.1
   simp only [K58,K80,Nat.one_mul]
   omega
theorem A61 (Q:Int→Prop) (B:Nat) (ls:List (List Int)) (h:∀x∈ls,x.length≤B∧∀v∈x,Q v):(H4 ls).1.length≤ls.length*B∧∀m∈(H4 ls).1,(0≤m.Parents∧m.Parents < 4294967296)∧Q m.Line:=by
 unfold H4
 split
 ·exact ⟨by simp,by simp⟩
 ·have:=A46 Q B ls [] 0 h (by simp)
  simpa using this
def W1 (p:Int) (ms:List Int) (x:Span):List Int:=ms.set x.To.toNat (p6 (ms.getD x.To.toNat 0) (J1 p))
def O9 (p:Nat) (file:List Int) (g:Nat→List (List Int)) (c:Change):Nat→List (List Int):=fun k =>
 if k=c.New.toNat then (g k).set p ((file.drop c.Old.toNat).take ((c.Old+c.OldLen).toNat - c.Old.toNat)) else g k
abbrev Loom:=List Int × (Nat→List (List Int))
def i7 (ids:List (List Int)) (s:Loom) (p:Nat):Loom :=
 let file:=ids.getD (p+1) []
 let sc:=N5 file (ids.getD 0 [])
 ((j8 sc file.length).foldl (W1 p) (s.1.map (K9 · (J1 p))),sc.foldl (O9 p file) s.2)
def E64 (lines n:Nat):Loom:=(List.replicate lines 0,fun _=>List.replicate n [])
def X1 (ids:List (List Int)) (lines n p:Nat):Loom:=(List.range p).foldl (i7 ids) (E64 lines n)
def S3 (names:List Str) (file:List Str) (s:Loom) (k:Nat):List Row :=
 (H4 (s.2 k)).1.map (fun m=>(⟨true,m.Parents,names.getD m.Line.toNat []⟩:Row))++(if k < file.length then [⟨false,s.1.getD k 0,file.getD k []⟩] else [])
def X2 (names:List Str) (file:List Str) (s:Loom) (k:Nat):List Row:=((List.range k).map (S3 names file s)).flatten
def G5 (result:Str) (parents:List Str):Table × Int :=
 if parents.length < 1∨32 < parents.length then (⟨0,[]⟩,2) else
 let fs:=C1 result::parents.map C1
 let names:=I6 fs
 let s:=X1 (fs.map (O7 names)) (C1 result).length parents.length parents.length
 if ∃k,k < (C1 result).length+1∧(H4 (s.2 k)).2≠0 then (⟨0,[]⟩,1) else (⟨parents.length,X2 names (C1 result) s ((C1 result).length+1)⟩,0)
theorem D72 (names file:List Str) (s:Loom) (k:Nat):X2 names file s (k+1)=X2 names file s k++S3 names file s k:=by
 unfold X2;rw [K98,K73,K86];simp
structure LoomOk (Q:Int→Prop) (B lines n:Nat) (s:Loom):Prop where
 len:s.1.length=lines
 marks:∀m∈s.1,0≤m∧m < 4294967296
 gaps:∀k,(s.2 k).length=n∧∀x∈s.2 k,x.length≤B∧∀v∈x,Q v
theorem J92 (Q:Int→Prop) (B lines n:Nat):LoomOk Q B lines n (E64 lines n) where
 len:=by simp [E64]
 marks:=fun m hm=>by have:=List.eq_of_mem_replicate hm;subst this;decide
 gaps:=fun k=>⟨by simp [E64],fun x hx=>by have:=List.eq_of_mem_replicate hx;subst this;simp⟩
theorem J30 {Q:Int→Prop} {B n p:Nat} {file:List Int} (hf:file.length≤B∧∀v∈file,Q v) {g:Nat→List (List Int)} (hg:∀k,(g k).length=n∧∀x∈g k,x.length≤B∧∀v∈x,Q v) (c:Change) :
  ∀k,(O9 p file g c k).length=n∧∀x∈O9 p file g c k,x.length≤B∧∀v∈x,Q v:=by
 intro k
 unfold O9
 split
 ·refine ⟨by rw [L10];exact (hg k).1,fun x hx=>?_⟩
  rcases List.mem_or_eq_of_mem_set hx with h | rfl
  ·exact (hg k).2 x h
  ·exact ⟨by simp;omega,fun v hv=>hf.2 v (W6 hv)⟩
 ·exact hg k
theorem C90 {Q:Int→Prop} {B n p:Nat} {file:List Int} (hf:file.length≤B∧∀v∈file,Q v):∀(sc:List Change) {g:Nat→List (List Int)},(∀k,(g k).length=n∧∀x∈g k,x.length≤B∧∀v∈x,Q v) →
  ∀k,(sc.foldl (O9 p file) g k).length=n∧∀x∈sc.foldl (O9 p file) g k,x.length≤B∧∀v∈x,Q v
 | [],_,hg=>hg
 | c::r,_,hg=>C90 hf r (J30 hf hg c)
theorem H30 {p:Int} {ms:List Int} {x:Span} (h:∀m∈ms,0≤m∧m < 4294967296):(W1 p ms x).length=ms.length∧∀m∈W1 p ms x,0≤m∧m < 4294967296:=by
 refine ⟨by simp [W1],fun m hm=>?_⟩
 rcases List.mem_or_eq_of_mem_set hm with h' | rfl
 ·exact h m h'
 ·exact G49 _
theorem B50 {p:Int}:∀(ps:List Span) {ms:List Int},(∀m∈ms,0≤m∧m < 4294967296)→(ps.foldl (W1 p) ms).length=ms.length∧∀m∈ps.foldl (W1 p) ms,0≤m∧m < 4294967296
 | [],ms,h=>⟨rfl,h⟩
 | x::r,ms,h=>by
  have h1:=H30 (p:=p) (x:=x) h
  have h2:=B50 (p:=p) r h1.2
  exact ⟨h2.1.trans h1.1,h2.2⟩
theorem F38 {Q:Int→Prop} {B lines n:Nat} {ids:List (List Int)} (hids:∀x∈ids,x.length≤B∧∀v∈x,Q v) {s:Loom} (h:LoomOk Q B lines n s) (p:Nat):LoomOk Q B lines n (i7 ids s p):=by
 have hf:(ids.getD (p+1) []).length≤B∧∀v∈ids.getD (p+1) [],Q v:=by
  rw [K60]
  cases hx:ids[p+1]? with
  | none=>simp
  | some x=>exact hids x (K75 hx)
 have hr:∀m∈s.1.map (K9 · (J1 p)),0≤m∧m < 4294967296:=fun m hm=>by
  obtain ⟨v,_,rfl⟩:=List.mem_map.1 hm;exact G49 _
 have hc:=B50 (p:=p) (j8 (N5 (ids.getD (p+1) []) (ids.getD 0 [])) (ids.getD (p+1) []).length) hr
 exact { len:=by rw [i7];simp only;rw [hc.1,K84];exact h.len,marks:=hc.2,gaps:=C90 hf _ h.gaps }
theorem B51 (ids:List (List Int)) (lines n p:Nat):X1 ids lines n (p+1)=i7 ids (X1 ids lines n p) p:=by
 unfold X1;rw [K98,L00];rfl
theorem A71 {Q:Int→Prop} {B lines n:Nat} {ids:List (List Int)} (hids:∀x∈ids,x.length≤B∧∀v∈x,Q v):∀p,LoomOk Q B lines n (X1 ids lines n p)
 | 0=>J92 Q B lines n
 | p+1=>by rw [B51];exact F38 hids (A71 hids p) p
theorem A99 (l:List Str) (s:Str):∀k:Int,0≤k→s∈l→k≤I5 l s k∧I5 l s k < k+l.length:=by
 induction l with
 | nil=>intro k _ h;cases h
 | cons x r ih =>
  intro k hk h
  unfold I5
  by_cases hx:x=s
  ·rw [if_pos hx];simp;omega
  ·rw [if_neg hx]
   have:=ih (k+1) (by omega) (by rcases List.mem_cons.1 h with rfl | h;exact absurd rfl hx;exact h)
   simp only [K58];omega
theorem D92 (l:List Str):∀(out:List Str) (s:Str),s∈out∨s∈l→s∈l.foldl K7 out:=by
 induction l with
 | nil=>intro out s h;rcases h with h | h;exact h;cases h
 | cons x r ih =>
  intro out s h
  apply ih
  rcases h with h | h
  ·left;unfold K7;split;exact h;exact List.mem_append_left _ h
  ·rcases List.mem_cons.1 h with rfl | h
   ·left;unfold K7;split;assumption;simp
   ·exact .inr h
theorem B52 (fs:List (List Str)) (s:Str) (f:List Str) (hf:f∈fs) (hs:s∈f):s∈I6 fs:=D92 _ _ _ (.inr (List.mem_flatten.2 ⟨f,hf,hs⟩))
theorem ids_in (fs:List (List Str)):∀x∈fs.map (O7 (I6 fs)),∀v∈x,0≤v∧v < (I6 fs).length:=by
 intro x hx v hv
 obtain ⟨f,hf,rfl⟩:=List.mem_map.1 hx
 obtain ⟨s,hs,rfl⟩:=List.mem_map.1 hv
 have:=A99 (I6 fs) s 0 (Int.le_refl _) (B52 fs s f hf hs)
 omega
theorem D93 (l:List Str):∀(out:List Str) (s:Str),s∈l.foldl K7 out→s∈out∨s∈l:=by
 induction l with
 | nil=>intro out s h;exact .inl h
 | cons x r ih =>
  intro out s h
  rcases ih _ _ h with h | h
  ·unfold K7 at h
   split at h
   ·exact .inl h
   ·rcases List.mem_append.1 h with h | h
    ·exact .inl h
    ·simp at h;subst h;exact .inr (by simp)
  ·exact .inr (List.mem_cons_of_mem _ h)
theorem D73 (fs:List (List Str)) (s:Str) (h:s∈I6 fs):s∈fs.flatten:=by
 rcases D93 _ _ _ h with h | h
 ·cases h
 ·exact h
end Go.AL
namespace Go.AL
open Go
theorem C91 (s:Str):Lib.hasSuffix s [10]=ended s:=by
 unfold Lib.hasSuffix ended
 rw [Bool.eq_iff_iff,List.isSuffixOf_iff_suffix,beq_iff_eq]
 constructor
 ·rintro ⟨t,rfl⟩;simp
 ·intro h
  obtain ⟨hne,h2⟩:=List.getLast?_eq_some_iff.1 h
  exact ⟨hne,h2.symm⟩
def B00 (s:Str):Str:=if ended s then s.dropLast else s
theorem C18 (s:Str):Lib.trimSuffix s [10]=B00 s:=by
 unfold Lib.trimSuffix B00
 rw [C91,List.dropLast_eq_take];rfl
theorem S4 (c:UInt8):∀l:Str,(c∉l∧Lib.indexByte l c = -1)∨∃a b,l=a++c::b∧c∉a∧Lib.indexByte l c=a.length
 | []=>.inl ⟨by simp,rfl⟩
 | x::l=>by
  unfold Lib.indexByte
  by_cases hx:x=c
  ·exact .inr ⟨[],l,by rw [hx];rfl,by simp,by simp [hx]⟩
  ·rcases S4 c l with ⟨h1,h2⟩ | ⟨a,b,h1,h2,h3⟩
   ·exact .inl ⟨by simp [h1,Ne.symm hx],by simp [hx,h2]⟩
   ·refine .inr ⟨x::a,b,by rw [h1];rfl,by simp [h2,Ne.symm hx],?_⟩
    have h4:¬((a.length:Int) = -1):=by omega
    simp [hx,h3,h4]
theorem C19 (c:UInt8) (l:Str):0≤Lib.indexByte l c↔c∈l:=by
 rcases S4 c l with ⟨h1,h2⟩ | ⟨a,b,h1,h2,h3⟩
 ·rw [h2];simp [h1]
 ·rw [h3,h1];simp
theorem G50 (a b:Str) (c:UInt8) (h:b≠[]):c∈(a++c::b).dropLast:=by
 rw [List.dropLast_append_of_ne_nil (by simp),List.dropLast_cons_of_ne_nil h];simp
theorem D94 (l:Str):(0≤Lib.indexByte l 10∧Lib.indexByte l 10 < (l.length:Int) - 1)↔10∈l.dropLast:=by
 rcases S4 10 l with ⟨h1,h2⟩ | ⟨a,b,h1,h2,h3⟩
 ·rw [h2]
  have:10∉l.dropLast:=fun h=>h1 (List.dropLast_subset l h)
  simp [this]
 ·rw [h3]
  by_cases hb:b=[]
  ·subst hb
   have e:l.dropLast=a:=by rw [h1];simp
   rw [e,h1];simp [h2]
  ·have h4:=G50 a b 10 hb
   rw [←h1] at h4
   have h5:0 < b.length:=List.length_pos_iff.2 hb
   simp only [h4,iff_true]
   rw [h1];simp only [K56,K58];omega
theorem w8 (s:Str):H8 s=true↔s≠[]∧10∉s.dropLast:=by
 unfold H8
 rw [K59,List.all_eq_true]
 constructor
 ·rintro ⟨h1,h2⟩
  exact ⟨by simpa using h2,fun h=>by have:=h1 10 h;simp at this⟩
 ·rintro ⟨h1,h2⟩
  exact ⟨fun x hx=>by simpa using fun e:x=10=>h2 (e ▸ hx),by simpa using h1⟩
theorem J93 (s:Str):10∈B00 s↔10∈s.dropLast:=by
 unfold B00
 split
 ·exact Iff.rfl
 ·rename_i h
  by_cases hs:s=[]
  ·subst hs;simp
  ·constructor
   ·intro h2
    have e:=(List.dropLast_concat_getLast hs).symm
    rw [e] at h2
    rcases List.mem_append.1 h2 with h3 | h3
    ·exact h3
    ·exfalso
     refine h ?_
     unfold ended
     rw [List.getLast?_eq_some_getLast hs]
     simp at h3;simp [←h3]
   ·exact fun h2=>List.dropLast_subset s h2
theorem J31 (s:Str):(if decide (s≠[])=true then !decide (0≤Lib.indexByte (B00 s) 10) else false)=H8 s:=by
 rw [Bool.eq_iff_iff,w8]
 have h:=J93 s
 have h2:=C19 10 (B00 s)
 by_cases hs:s=[]
 ·simp [hs]
 ·simp [hs,h2,h]
theorem J32 (s:Str) (h:H8 s=true):ended s=true↔0≤Lib.indexByte s 10:=by
 obtain ⟨h1,h2⟩:=(w8 s).1 h
 rw [C19]
 have e:=(List.dropLast_concat_getLast h1).symm
 unfold ended
 rw [List.getLast?_eq_some_getLast h1]
 constructor
 ·intro h3
  have:s.getLast h1=10:=by simpa using h3
  rw [←this];exact List.getLast_mem h1
 ·intro h3
  rw [e] at h3
  rcases List.mem_append.1 h3 with h3 | h3
  ·exact absurd h3 h2
  ·simp at h3;simp [←h3]
def G51 (l:Str) (last:Bool):Prop:=l=[]∨(0≤Lib.indexByte l 10∧Lib.indexByte l 10 < (l.length:Int) - 1)∨(Lib.indexByte l 10 < 0∧last=false)
theorem H31 (l:Str) (r:List Str):G51 l r.isEmpty↔(H8 l&&(r.isEmpty||ended l))=false:=by
 unfold G51
 rw [D94]
 by_cases hl:H8 l=true
 ·obtain ⟨h1,h2⟩:=(w8 l).1 hl
  have h3:=J32 l hl
  cases hr:r.isEmpty
  ·cases he:ended l
   ·have:¬0≤Lib.indexByte l 10:=fun h=>by rw [h3.2 h] at he;cases he
    simp [hl,h1,h2];omega
   ·have:=h3.1 he
    simp [hl,h1,h2];omega
  ·simp [hl,h1,h2]
 ·have:l=[]∨10∈l.dropLast:=by
   by_cases h1:l=[]
   ·exact .inl h1
   ·exact .inr (Classical.byContradiction fun h2=>hl ((w8 l).2 ⟨h1,h2⟩))
  have hf:H8 l=false:=by simpa using hl
  rw [hf]
  constructor
  ·intro _;rfl
  ·intro _;rcases this with h | h
   ·exact .inl h
   ·exact .inr (.inl h)
theorem B53 (s:Str) (r:List Str):v8 (s::r)=(H8 s&&(r.isEmpty||ended s)&&v8 r):=rfl
theorem H32 (l:List Str):Lib.join l []=l.flatten:=by
 induction l with
 | nil=>rfl
 | cons s r ih =>
  cases r with
  | nil=>simp [Lib.join]
  | cons t r =>
   have e:List.intersperse ([]:Str) (s::t::r)=s::[]::List.intersperse [] (t::r):=rfl
   simp only [Lib.join,List.intercalate,e,K72,K78] at ih ⊢
   rw [ih]
def H33 (a b:Int):Int:=IntKind.u32.wrap ((BitVec.ofInt IntKind.u32.bits a &&& BitVec.ofInt IntKind.u32.bits b).toNat:Int)
def not32 (a:Int):Int:=IntKind.u32.wrap ((BitVec.ofInt IntKind.u32.bits IntKind.u32.max ^^^ BitVec.ofInt IntKind.u32.bits a).toNat:Int)
theorem j9 (n c:Nat):V0 (n:Int) c=n.testBit c:=by
 unfold V0
 rw [Nat.testBit_eq_decide_div_mod_eq]
 have:((n:Int) / 2 ^ c % 2 == 1)=decide (n / 2 ^ c % 2=1):=by
  rw [Bool.eq_iff_iff,beq_iff_eq,decide_eq_true_iff]
  have e:(n:Int) / 2 ^ c % 2=((n / 2 ^ c % 2:Nat):Int):=by simp
  rw [e];omega
 exact this
theorem A15 (n:Nat) (h:n < 4294967296):IntKind.u32.wrap (n:Int)=n:=by simp [IntKind.wrap,IntKind.signed,IntKind.bits];omega
theorem D36 (n:Nat):BitVec.ofInt IntKind.u32.bits (n:Int)=BitVec.ofNat 32 n:=BitVec.ofInt_natCast 32 n
theorem J33 (n m:Nat) (hn:n < 4294967296) (hm:m < 4294967296):H33 n m=((n &&& m:Nat):Int):=by
 unfold H33
 rw [D36,D36]
 have e:(BitVec.ofNat 32 n &&& BitVec.ofNat 32 m).toNat=n &&& m:=by
  rw [BitVec.toNat_and,BitVec.toNat_ofNat,BitVec.toNat_ofNat,Nat.mod_eq_of_lt (by omega),Nat.mod_eq_of_lt (by omega)]
 have h2:n &&& m < 2 ^ 32:=Nat.and_lt_two_pow n (by omega)
 show IntKind.u32.wrap ((BitVec.ofNat 32 n &&& BitVec.ofNat 32 m).toNat:Int)=_
 rw [e,A15 _ (by omega)]
theorem A32 (n m:Nat) (hn:n < 4294967296) (hm:m < 4294967296):K9 n m=((n ||| m:Nat):Int)∧n ||| m < 4294967296:=by
 unfold K9
 rw [D36,D36]
 have e:(BitVec.ofNat 32 n ||| BitVec.ofNat 32 m).toNat=n ||| m:=by
  rw [BitVec.toNat_or,BitVec.toNat_ofNat,BitVec.toNat_ofNat,Nat.mod_eq_of_lt (by omega),Nat.mod_eq_of_lt (by omega)]
 have h2:n ||| m < 2 ^ 32:=Nat.or_lt_two_pow (by omega) (by omega)
 refine ⟨?_,by omega⟩
 show IntKind.u32.wrap ((BitVec.ofNat 32 n ||| BitVec.ofNat 32 m).toNat:Int)=_
 rw [e,A15 _ (by omega)]
theorem J34 (n:Nat) (hn:n < 4294967296):not32 n=((4294967295 ^^^ n:Nat):Int)∧4294967295 ^^^ n < 4294967296:=by
 unfold not32
 rw [D36,show IntKind.u32.max=((4294967295:Nat):Int) from rfl,D36]
 have e:(BitVec.ofNat 32 4294967295 ^^^ BitVec.ofNat 32 n).toNat=4294967295 ^^^ n:=by
  rw [BitVec.toNat_xor,BitVec.toNat_ofNat,BitVec.toNat_ofNat,Nat.mod_eq_of_lt (by omega),Nat.mod_eq_of_lt (by omega)]
 have h2:4294967295 ^^^ n < 2 ^ 32:=Nat.xor_lt_two_pow (by omega) (by omega)
 refine ⟨?_,by omega⟩
 show IntKind.u32.wrap ((BitVec.ofNat 32 4294967295 ^^^ BitVec.ofNat 32 n).toNat:Int)=_
 rw [e,A15 _ (by omega)]
theorem J94 (c:Nat) (h:c < 32):(4294967295:Nat).testBit c=true:=by
 have:(4294967295:Nat)=2 ^ 32 - 1:=rfl
 rw [this,Nat.testBit_two_pow_sub_one];simpa using h
def F39 (r:Row):Int:=if r.Lost then r.Marks else not32 r.Marks
def C20 (res:Bool) (par:Int) (r:Row):Bool:=decide (H33 par (F39 r)=0)&&(r.Lost||!res)
def B54 (res:Bool) (r:Row):Bool:=if ended r.Text then res else res||!r.Lost
def B55 (par:Int) (r:Row):Int:=if ended r.Text then par else K9 par (F39 r)
def P8:Bool→Int→List Row→Bool
 | _,_,[]=>true
 | res,par,r::rs=>H8 r.Text&&C20 res par r&&P8 (B54 res r) (B55 par r) rs
theorem H34 (r:Row) (hr:0≤r.Marks∧r.Marks < 4294967296):∃m:Nat,m < 4294967296∧F39 r=m∧∀c,c < 32→m.testBit c=a8 r c:=by
 obtain ⟨k,hk⟩:∃k:Nat,r.Marks=k:=⟨r.Marks.toNat,by omega⟩
 have hv:∀c:Nat,c < 32→a8 r c=(k.testBit c == r.Lost):=by
  intro c hc
  rw [a8,if_neg (by omega),if_neg (by omega),hk,K62,j9]
 unfold F39
 cases hl:r.Lost
 ·have:=J34 k (by omega)
  refine ⟨4294967295 ^^^ k,this.2,by rw [if_neg (by simp),hk];exact this.1,fun c hc=>?_⟩
  rw [hv c hc,hl,Nat.testBit_xor,J94 c hc]
  cases k.testBit c<;>rfl
 ·refine ⟨k,by omega,by rw [if_pos rfl];exact hk,fun c hc=>?_⟩
  rw [hv c hc,hl]
  cases k.testBit c<;>rfl
theorem B01 (r:Row):a8 r (-1)=!r.Lost:=by rw [a8,if_pos rfl]
def d5:Bool→List Str→Bool
 | _,[]=>true
 | b,s::r=>!b&&H8 s&&d5 (!ended s) r
theorem G52 (l:List Str):d5 true l=l.isEmpty:=by cases l<;>simp [d5]
theorem H35 (l:List Str):v8 l=d5 false l:=by
 induction l with
 | nil=>rfl
 | cons s r ih =>
  rw [B53,ih,d5]
  cases he:ended s
  ·rw [show (!false)=true from rfl,G52]
   cases r<;>simp [d5]
  ·simp
structure EndsAt (res:Bool) (par:Int) (bad:Int→Bool):Prop where
 res:res=bad (-1)
 par:∃p:Nat,p < 4294967296∧par=p∧∀c:Nat,c < 32→p.testBit c=bad c
theorem J95 (n m:Nat) (hm:m < 4294967296):n &&& m=0↔∀c,c < 32→m.testBit c=true→n.testBit c=false:=by
 constructor
 ·intro h c hc hm1
  have:(n &&& m).testBit c=false:=by rw [h];simp
  rw [Nat.testBit_and,hm1] at this
  simpa using this
 ·intro h
  refine Nat.eq_of_testBit_eq fun c=>?_
  rw [Nat.testBit_and,Nat.zero_testBit]
  by_cases hc:c < 32
  ·cases hm1:m.testBit c
   ·simp
   ·rw [h c hc hm1];rfl
  ·have:m.testBit c=false:=Nat.testBit_lt_two_pow (Nat.lt_of_lt_of_le (by omega:m < 2 ^ 32) (Nat.pow_le_pow_right (by omega) (by omega)))
   rw [this];simp
theorem J35 {res:Bool} {par:Int} {bad:Int→Bool} (h:EndsAt res par bad) (r:Row) (hr:0≤r.Marks∧r.Marks < 4294967296):C20 res par r=true↔∀c:Int,-1≤c→c < 32→a8 r c=true→bad c=false:=by
 obtain ⟨m,hm,he,hb⟩:=H34 r hr
 obtain ⟨p,hp,hpe,hpb⟩:=h.par
 unfold C20
 rw [he,hpe,J33 p m hp hm,K59,decide_eq_true_iff,show (((p &&& m:Nat):Int)=0)↔p &&& m=0 by omega,J95 p m hm]
 constructor
 ·rintro ⟨h1,h2⟩ c hc1 hc2 hv
  by_cases hc:c = -1
  ·subst hc
   rw [B01] at hv
   rw [←h.res]
   simpa [show r.Lost=false by simpa using hv] using h2
  ·obtain ⟨k,rfl⟩:∃k:Nat,c=k:=⟨c.toNat,by omega⟩
   rw [←hpb k (by omega)]
   exact h1 k (by omega) (by rw [hb k (by omega)];exact hv)
 ·intro h1
  refine ⟨fun c hc hm1=>?_,?_⟩
  ·rw [hpb c hc]
   exact h1 c (by omega) (by omega) (by rw [←hb c hc];exact hm1)
  ·cases hl:r.Lost
   ·have:=h1 (-1) (by omega) (by omega) (by rw [B01,hl];rfl)
    rw [h.res,this];rfl
   ·rfl
theorem J36 {res:Bool} {par:Int} {bad:Int→Bool} (h:EndsAt res par bad) (r:Row) (hr:0≤r.Marks∧r.Marks < 4294967296):EndsAt (B54 res r) (B55 par r) (fun c=>bad c||(a8 r c&&!ended r.Text)):=by
 obtain ⟨m,hm,he,hb⟩:=H34 r hr
 obtain ⟨p,hp,hpe,hpb⟩:=h.par
 unfold B54 B55
 cases hen:ended r.Text
 ·have ho:=A32 p m hp hm
  refine ⟨?_,p ||| m,ho.2,?_,fun c hc=>?_⟩
  ·rw [if_neg (by simp),h.res,B01];simp
  ·rw [if_neg (by simp),he,hpe];exact ho.1
  ·rw [Nat.testBit_or,hpb c hc,hb c hc];simp
 ·refine ⟨?_,p,hp,?_,fun c hc=>?_⟩
  ·rw [if_pos rfl,h.res];simp
  ·rw [if_pos rfl];exact hpe
  ·rw [hpb c hc];simp
theorem C43 (r:Row) (rs:List Row) (c:Int):K0 (r::rs) c=if a8 r c then r.Text::K0 rs c else K0 rs c:=by
 unfold K0
 cases hv:a8 r c<;>simp [hv]
theorem E65:∀(rows:List Row) (res:Bool) (par:Int) (bad:Int→Bool),EndsAt res par bad→J8 rows→(P8 res par rows=true↔(∀r∈rows,H8 r.Text=true)∧∀c:Int,-1≤c→c < 32→d5 (bad c) (K0 rows c)=true)
 | [],res,par,bad,_,_=>by simp [P8,K0,d5]
 | r :: rs,res,par,bad,h,hr=>by
  have hr1:=hr r (by simp)
  have ih:=E65 rs _ _ _ (J36 h r hr1) (fun x hx=>hr x (by simp [hx]))
  rw [P8,K59,K59,J35 h r hr1,ih]
  constructor
  ·rintro ⟨⟨h1,h2⟩,h3,h4⟩
   refine ⟨fun x hx=>?_,fun c hc1 hc2=>?_⟩
   ·rcases List.mem_cons.1 hx with rfl | hx
    ·exact h1
    ·exact h3 x hx
   ·have h5:=h4 c hc1 hc2
    rw [C43]
    cases hv:a8 r c
    ·rw [if_neg (by simp)];simpa [hv] using h5
    ·rw [if_pos rfl,d5,h2 c hc1 hc2 hv,h1]
     rw [h2 c hc1 hc2 hv,hv] at h5
     simpa using h5
  ·rintro ⟨h1,h2⟩
   refine ⟨⟨h1 r (by simp),fun c hc1 hc2 hv=>?_⟩,fun x hx=>h1 x (by simp [hx]),fun c hc1 hc2=>?_⟩
   ·have h3:=h2 c hc1 hc2
    rw [C43,hv,if_pos rfl,d5] at h3
    simp only [K59,Bool.not_eq_true'] at h3
    exact h3.1.1
   ·have h3:=h2 c hc1 hc2
    rw [C43] at h3
    cases hv:a8 r c
    ·rw [hv,if_neg (by simp)] at h3;simpa using h3
    ·rw [hv,if_pos rfl,d5] at h3
     simp only [K59,Bool.not_eq_true'] at h3
     rw [h3.1.1];simpa using h3.2
theorem ends0:EndsAt false 0 (fun _=>false):=⟨rfl,0,by omega,rfl,fun c _=>by simp⟩
theorem G53 (m:Int) (n c:Nat) (h0:0≤m) (h:m / 2 ^ n=0) (hc:n≤c):V0 m c=false:=by
 obtain ⟨k,rfl⟩:∃k:Nat,m=k:=⟨m.toNat,by omega⟩
 rw [j9]
 have h1:(k:Int) / 2 ^ n=((k / 2 ^ n:Nat):Int):=by simp
 rw [h1] at h
 have h2:k / 2 ^ n=0:=by omega
 have h3:k < 2 ^ n:=by
  rcases Nat.div_eq_zero_iff.1 h2 with h3 | h3
  ·have:=Nat.two_pow_pos n;omega
  ·exact h3
 exact Nat.testBit_lt_two_pow (Nat.lt_of_lt_of_le h3 (Nat.pow_le_pow_right (by omega) hc))
theorem G54 (rows:List Row) (n:Nat) (hm:R4 rows n=true) (hr:J8 rows) (c:Int) (h1:(n:Int)≤c) (h2:c < 32):K0 rows c=K0 rows (-1):=by
 unfold K0
 have:rows.filter (a8 · c)=rows.filter (a8 · (-1)):=by
  refine List.filter_congr fun r hmem=>?_
  have h3:R7 n r=true:=List.all_eq_true.1 hm r hmem
  unfold R7 at h3
  simp only [K59,beq_iff_eq] at h3
  have h4:=G53 r.Marks n c.toNat (hr r hmem).1 h3.1 (by omega)
  rw [B01,a8,if_neg (by omega),if_neg (by omega),h4]
  cases r.Lost<;>rfl
 rw [this]
theorem E66 (rows:List Row) (n:Nat) (hn:n≤32) (hm:R4 rows n=true) (hr:J8 rows):P8 false 0 rows=c9 rows n:=by
 rw [Bool.eq_iff_iff,E65 rows false 0 _ ends0 hr,c9,K59,List.all_eq_true,List.all_eq_true]
 refine and_congr Iff.rfl ?_
 constructor
 ·intro h k hk
  have hk:=List.mem_range.1 hk
  rw [H35]
  exact h _ (by omega) (by omega)
 ·intro h c hc1 hc2
  have key:∀c:Int,-1≤c→c < n→d5 false (K0 rows c)=true:=by
   intro c h1 h2
   have:=h (c+1).toNat (List.mem_range.2 (by omega))
   rw [show (((c+1).toNat:Nat):Int) - 1=c by omega,H35] at this
   exact this
  by_cases hcn:c < n
  ·exact key c hc1 hcn
  ·rw [G54 rows n hm hr c (by omega) hc2]
   exact key (-1) (by omega) (by omega)
end Go.AL
namespace Go.AL
open Go
def R8 (c:UInt8):Bool:=decide (33≤c.toNat∧c.toNat≤126∧c.toNat≠34∧c.toNat≠92)
def digs8:Str:=[48,49,50,51,52,53,54,55]
def F82 (c:UInt8):Str:=(digs8.drop (c.toNat / 64)).take 1++(digs8.drop (c.toNat / 8 % 8)).take 1++(digs8.drop (c.toNat % 8)).take 1
def U4 (c:UInt8):Str:=if c.toNat=34∨c.toNat=92 then [92,c] else if c.toNat=10 then [92,110] else if c.toNat=9 then [92,116] else if c.toNat < 32∨126 < c.toNat then 92::F82 c else [c]
def I9 (s:Str):Str:=if s≠[]∧s.all R8=true then s else 34::((s.map U4).flatten++[34])
theorem J37 (c:UInt8):(F82 c).length≤3:=by unfold F82;simp only [K56,K70];omega
theorem F83 (c:UInt8):(U4 c).length≤4:=by
 have:=J37 c
 unfold U4;split
 ·simp
 ·split
  ·simp
  ·split
   ·simp
   ·split
    ·simp only [K58];omega
    ·simp
theorem C92 (s:Str):((s.map U4).flatten).length≤4*s.length:=by
 induction s with
 | nil=>simp
 | cons c r ih=>have:=F83 c;simp only [K63,K72,K56,K58];omega
theorem H36 (s:Str):(I9 s).length≤4*s.length+2:=by
 unfold I9;have:=C92 s
 split
 ·omega
 ·simp only [K58,K56,K61];omega
def K3 (n:Int):Str:=if n < 0∨2147483647 < n then [] else Lib.itoa n
def I7 (a n:Int):Str:=if a < 0∨n < 0∨2147483647 < a∨2147483647 - a < n then [] else if n=0 then K3 a++[44,48] else if n=1 then K3 (a+1) else K3 (a+1)++[44]++K3 n
theorem C21:∀(k u:Nat),u < 10 ^ (k+1)→(Lib.decDigits u).length≤k+1
 | 0,u,h=>by rw [Lib.decDigits,dif_pos (by omega)];simp
 | k+1,u,h=>by
  rw [Lib.decDigits]
  split
  ·simp
  ·have:=C21 k (u / 10) (by rw [Nat.div_lt_iff_lt_mul (by omega)];rw [Nat.pow_succ] at h;omega)
   simp only [K56,K58,K61];omega
theorem w9 (n:Int):(K3 n).length≤10:=by
 unfold K3;split
 ·simp
 ·unfold Lib.itoa
  rw [if_neg (by omega)]
  exact C21 9 n.toNat (by omega)
theorem B56 (a n:Int):(I7 a n).length≤21:=by
 have:=w9 a;have:=w9 (a+1);have:=w9 n
 unfold I7
 split
 ·simp
 ·split
  ·simp only [K56,K58,K61];omega
  ·split
   ·omega
   ·simp only [K56,K58,K61];omega
theorem dig8 (k:Nat) (h:k < 8):(digs8.drop k).take 1=[UInt8.ofNat (48+k)]:=by
 have:∀k:Fin 8,(digs8.drop k.1).take 1=[UInt8.ofNat (48+k.1)]:=by decide
 exact this ⟨k,h⟩
theorem A47 (c:UInt8):F82 c=[UInt8.ofNat (48+c.toNat / 64),UInt8.ofNat (48+c.toNat / 8 % 8),UInt8.ofNat (48+c.toNat % 8)]:=by
 have:=c.toNat_lt
 unfold F82
 rw [dig8 _ (by omega),dig8 _ (by omega),dig8 _ (by omega)];rfl
def escs (s:Str) (i:Nat):Str:=((s.take i).map U4).flatten
theorem J38 (s:Str) (i:Nat) (h:i < s.length):escs s (i+1)=escs s i++U4 s[i]:=by
 unfold escs;rw [K67 h,K73,K86];simp only [K63,K96,K72,L06,K81]
theorem J96 (s:Str) (i:Nat) (h:i≤s.length):(escs s i).length≤4*i:=by
 have:=C92 (s.take i);unfold escs;rw [K70] at this;omega
def plains (s:Str) (i:Nat):Bool:=decide (s≠[])&&(s.take i).all R8
theorem H37 (s:Str):plains s 0=decide (s≠[]):=by simp [plains]
theorem H38 (s:Str) (i:Nat) (h:i < s.length):plains s (i+1)=(plains s i&&R8 s[i]):=by
 unfold plains;rw [K67 h,L05];simp only [List.all_cons,List.all_nil,Bool.and_true,Bool.and_assoc]
theorem E67 (s:Str):I9 s=if plains s s.length=true then s else (34::escs s s.length)++[34]:=by
 unfold I9 plains escs
 rw [K87]
 simp only [K59,decide_eq_true_eq,K82]
end Go.AL
namespace Go.AL
open Go
def M7 (cur:Str):Str→List Str
 | []=>[cur]
 | c::r=>if c=10 then (cur++[c])::M7 [] r else M7 (cur++[c]) r
def P9 (b:Str):List Str:=M7 [] b
theorem F40 (a cur:Str) (h:(10:UInt8)∉a):M7 cur a=[cur++a]:=by
 induction a generalizing cur with
 | nil=>simp [M7]
 | cons c r ih =>
  simp only [K90,not_or] at h
  rw [M7,if_neg (fun e=>h.1 e.symm),ih _ h.2];simp
theorem G55 (a b cur:Str) (h:(10:UInt8)∉a):M7 cur (a++10::b)=(cur++a++[10])::M7 [] b:=by
 induction a generalizing cur with
 | nil=>simp [M7]
 | cons c r ih =>
  simp only [K90,not_or] at h
  rw [K82,M7,if_neg (fun e=>h.1 e.symm),ih _ h.2];simp
theorem Y6 (s cur:Str):(M7 cur s).length=s.count 10+1:=by
 induction s generalizing cur with
 | nil=>rfl
 | cons c r ih =>
  by_cases hc:c=10
  ·subst hc;rw [M7,if_pos rfl,K58,ih,List.count_cons_self]
  ·rw [M7,if_neg hc,ih,List.count_cons_of_ne hc]
theorem H39 (s cur:Str):F8 cur s=if (M7 cur s).getLastD []=[] then (M7 cur s).dropLast else M7 cur s:=by
 induction s generalizing cur with
 | nil=>by_cases h:cur=[]<;>simp [F8,M7,h]
 | cons c r ih =>
  rw [F8,M7]
  by_cases hc:c=10
  ·rw [if_pos hc,if_pos hc,ih]
   have hn:M7 [] r≠[]:=fun e=>by have:=Y6 r [];rw [e] at this;simp at this
   obtain ⟨x,y,hxy⟩:=List.exists_cons_of_ne_nil hn
   rw [hxy]
   have e1:((cur++[c])::x::y).getLastD []=(x::y).getLastD []:=by cases y<;>simp [List.getLastD]
   rw [e1]
   split
   ·rfl
   ·rfl
  ·rw [if_neg hc,if_neg hc,ih]
theorem E68 (s cur:Str):(F8 cur s).length=s.count 10+if s=[] then (if cur=[] then 0 else 1) else if ended s=true then 0 else 1:=by
 induction s generalizing cur with
 | nil=>by_cases h:cur=[]<;>simp [F8,h]
 | cons c r ih =>
  have he:ended (c::r)=if r=[] then c == 10 else ended r:=by
   cases r with
   | nil=>simp [ended]
   | cons d t=>simp [ended,List.getLast?_cons_cons]
  rw [F8,if_neg (List.cons_ne_nil _ _),he]
  by_cases hc:c=10
  ·subst hc
   rw [if_pos rfl,K58,ih,List.count_cons_self]
   by_cases hr:r=[]<;>simp [hr]
   omega
  ·rw [if_neg hc,ih,List.count_cons_of_ne hc]
   by_cases hr:r=[]<;>simp [hr,hc]
theorem C22 (s:Str):(C1 s).length=s.count 10+if s≠[]∧ended s=false then 1 else 0:=by
 unfold C1
 rw [E68]
 by_cases hs:s=[]<;>simp [hs]
 cases ended s<;>simp
theorem I23 {P:List Str} {i:Nat} {r a b:Str} (h:P.drop i=P9 r) (hr:r=a++10::b) (ha:(10:UInt8)∉a):P[i]?=some (a++[10])∧P.drop (i+1)=P9 b:=by
 have e:P9 r=(a++[10])::P9 b:=by rw [hr];unfold P9;rw [G55 _ _ _ ha];rfl
 rw [e] at h
 refine ⟨by rw [←List.head?_drop,h];rfl,?_⟩
 rw [←List.tail_drop,h];rfl
theorem A22 {α:Type} (P:List α) (z x:α) (i:Nat) (h:P[i]?=some x):(P.take i++List.replicate (P.length - i) z).set i x=P.take (i+1)++List.replicate (P.length - (i+1)) z:=by
 obtain ⟨hi,hx⟩:=List.getElem?_eq_some_iff.1 h
 have hl:(P.take i).length=i:=by rw [K70];omega
 rw [List.set_append_right _ _ (by omega),hl,L12,show P.length - i=(P.length - (i+1))+1 by omega,List.replicate_succ,List.set_cons_zero,K67 hi,hx,K68]
 rfl
def B89 (b:Str):List Str × Int:=if b.length > 1048576∨(C1 b).length > 4096 then ([],1) else (C1 b,0)
end Go.AL
namespace Go.AL
open Go
def L9 (n:Int):Prop:=0≤n∧n≤4096
instance (n:Int):Decidable (L9 n):=by unfold L9;exact inferInstance
def G56 (k:Nat) (i j:Int) (c:Change):Prop:=((((((¬L9 c.Old∨¬L9 c.OldLen)∨¬L9 c.New)∨¬L9 c.NewLen)∨c.OldLen+c.NewLen=0)∨c.Old - i≠c.New - j)∨c.Old < i)∨(0 < (k:Int)∧c.Old=i)
instance (k:Nat) (i j:Int) (c:Change):Decidable (G56 k i j c):=by unfold G56;exact inferInstance
def K4 (k:Nat) (i j:Int):List Change→Int→Int→Bool
 | [],m,n=>decide (¬(m - i≠n - j∨m < i))
 | c::r,m,n=>decide (¬G56 k i j c)&&K4 (k+1) (c.Old+c.OldLen) (c.New+c.NewLen) r m n
def check8 (l:List Change) (m n:Int):Int:=if ¬L9 m∨¬L9 n then 80 else if K4 0 0 0 l m n=true then 0 else 80
def ScOk (i j:Int):List Change→Int→Int→Prop
 | [],m,n=>i≤m∧j≤n
 | c::r,m,n=>L9 c.Old∧L9 c.OldLen∧L9 c.New∧L9 c.NewLen∧i≤c.Old∧j≤c.New∧ScOk (c.Old+c.OldLen) (c.New+c.NewLen) r m n
theorem A48:∀(l:List Change) (k:Nat) (i j m n:Int),K4 k i j l m n=true→ScOk i j l m n
 | [],k,i,j,m,n,h=>by simp only [K4,decide_eq_true_eq] at h;simp only [ScOk];omega
 | c::r,k,i,j,m,n,h=>by
  simp only [K4,K59,decide_eq_true_eq] at h
  obtain ⟨h1,h2⟩:=h
  unfold G56 at h1
  refine ⟨?_,?_,?_,?_,?_,?_,A48 r _ _ _ m n h2⟩
  all_goals (by_cases a1:L9 c.Old<;>by_cases a2:L9 c.OldLen<;>by_cases a3:L9 c.New<;>by_cases a4:L9 c.NewLen<;>simp [a1,a2,a3,a4] at h1 ⊢<;>omega)
def cAt (l:List Change) (k:Nat):Change:=l.getD k ⟨0,0,0,0⟩
theorem ScOk.end_le:∀{l:List Change} {i j m n:Int},ScOk i j l m n→i≤m∧j≤n
 | [],_,_,_,_,h=>h
 | c::r,i,j,m,n,⟨h1,h2,h3,h4,h5,h6,h7⟩=>by have:=h7.end_le;unfold L9 at *;omega
theorem ScOk.get:∀{l:List Change} {i j m n:Int} (k:Nat),ScOk i j l m n→k < l.length→L9 (cAt l k).Old∧L9 (cAt l k).OldLen∧L9 (cAt l k).New∧L9 (cAt l k).NewLen∧(cAt l k).Old+(cAt l k).OldLen≤m∧(cAt l k).New+(cAt l k).NewLen≤n
 | c::r,i,j,m,n,0,⟨h1,h2,h3,h4,h5,h6,h7⟩,_=>by have:=h7.end_le;exact ⟨h1,h2,h3,h4,this.1,this.2⟩
 | c::r,i,j,m,n,k+1,⟨h1,h2,h3,h4,h5,h6,h7⟩,hk=>by
  have:=h7.get k (by simpa using hk)
  simpa [cAt] using this
theorem ScOk.next:∀{l:List Change} {i j m n:Int} (k:Nat),ScOk i j l m n→k+1 < l.length→(cAt l k).Old+(cAt l k).OldLen≤(cAt l (k+1)).Old
 | [c],_,_,_,_,_,_,hk=>by simp at hk
 | c::c2::r,i,j,m,n,0,⟨_,_,_,_,_,_,h7⟩,_=>by simpa [cAt] using h7.2.2.2.2.1
 | c::c2::r,i,j,m,n,k+1,⟨_,_,_,_,_,_,h7⟩,hk=>by
  have:=h7.next k (by simpa using hk)
  simpa [cAt] using this
theorem ScOk.mono {l:List Change} {m n:Int} (h:ScOk 0 0 l m n):∀(a b:Nat),a≤b→b < l.length→(cAt l a).Old≤(cAt l b).Old∧(cAt l a).Old+(cAt l a).OldLen≤(cAt l b).Old+(cAt l b).OldLen
 | a,0,h1,h2=>by rw [show a=0 by omega];omega
 | a,b+1,h1,h2=>by
  by_cases hab:a=b+1
  ·subst hab;omega
  ·have h3:=h.mono a b (by omega) (by omega)
   have h4:=h.next b h2
   have h5:=h.get b (by omega)
   have h6:=h.get (b+1) h2
   unfold L9 at *;omega
def G57 (a b:Int):Int:=if b < a then b else a
def opens (l:List Change) (ctx:Int) (k:Nat):Prop:=k=0∨2*ctx < (cAt l k).Old - (cAt l (k - 1)).Old - (cAt l (k - 1)).OldLen
instance (l:List Change) (ctx:Int) (k:Nat):Decidable (opens l ctx k):=by unfold opens;exact inferInstance
def I74:Hunk:=⟨0,0,⟨0,0⟩,⟨0,0⟩⟩
def A72 (l:List Change) (ctx:Int) (k:Nat):Hunk:=⟨k,0,⟨(cAt l k).Old - G57 ctx (cAt l k).Old,0⟩,⟨(cAt l k).New - G57 ctx (cAt l k).Old,0⟩⟩
def C93 (l:List Change) (m ctx:Int) (k:Nat) (h:Hunk):Hunk :=
 let c:=cAt l k
 let a:=G57 ctx (m - (c.Old+c.OldLen))
 ⟨h.First,k+1,⟨h.Old.From,c.Old+c.OldLen+a⟩,⟨h.New.From,c.New+c.NewLen+a⟩⟩
def D37 (l:List Change) (ctx:Int) (k:Nat) (out:List Hunk):List Hunk:=if opens l ctx k then out++[A72 l ctx k] else out
def X4 (l:List Change) (m ctx:Int):Nat→List Hunk
 | 0=>[]
 | k+1=>let out:=D37 l ctx k (X4 l m ctx k);out.set (out.length - 1) (C93 l m ctx k (out.getD (out.length - 1) I74))
theorem D74 (l:List Change) (m ctx:Int):∀k,(X4 l m ctx k).length≤k∧(0 < k→0 < (X4 l m ctx k).length)
 | 0=>by simp [X4]
 | k+1=>by
  have h:=D74 l m ctx k
  simp only [X4,L10,D37]
  split
  ·simp only [K56,K58,K61];omega
  ·rename_i ho
   have:k≠0:=fun e=>ho (.inl e)
   omega
end Go.AL
namespace Go.AL
open Go
def X3 (s:Str):Bool:=decide (1≤s.length∧s.length≤200)
def G6 (ls:List PatchLine) (k:UInt8):List Str:=(ls.filter (fun x=>decide (x.Kind≠k))).map (·.Text)
def badLn (x:PatchLine):Prop:=((x.Kind≠32∧x.Kind≠45)∧x.Kind≠43)∨H8 x.Text=false
instance (x:PatchLine):Decidable (badLn x):=by unfold badLn;exact inferInstance
def C44 (x:PatchLine):Bool:=decide (¬badLn x)
def A62 (ls:List PatchLine):Bool:=ls.any (fun x=>decide (x.Kind≠32))
def C94 (some:Bool) (i j:Int) (h:PatchHunk):Prop:=((((some=false∨h.Old < i)∨h.New < j)∨4096 < h.Old)∨4096 < h.New)∨h.Old - i≠h.New - j
instance (s:Bool) (i j:Int) (h:PatchHunk):Decidable (C94 s i j h):=by unfold C94;exact inferInstance
def A73 (h:PatchHunk):Int:=(G6 h.Lines 43).length
def A74 (h:PatchHunk):Int:=(G6 h.Lines 45).length
def D38 (i j:Int):List PatchHunk→Bool
 | []=>true
 | h::r=>h.Lines.all C44&&(decide (¬C94 (A62 h.Lines) i j h)&&(decide (¬(4096 < h.Old+A73 h∨4096 < h.New+A74 h))&&D38 (h.Old+A73 h) (h.New+A74 h) r))
def M3 (hs:List PatchHunk) (k:UInt8):List Str:=(hs.map (fun h=>G6 h.Lines k)).flatten
def Q9:List Str→Bool
 | []=>true
 | x::r=>(r.isEmpty||ended x)&&Q9 r
def I24 (hs:List PatchHunk) (k:UInt8):Bool:=Q9 (M3 hs k)
def D39 (hs:List PatchHunk):Bool:=D38 0 0 hs&&(I24 hs 43&&I24 hs 45)
def markS:Str:=[10,92,32,78,111,32,110,101,119,108,105,110,101,32,97,116,32,101,110,100,32,111,102,32,102,105,108,101,10]
def linePs (x:PatchLine):List Str:=if ended x.Text then [[x.Kind]++x.Text] else [[x.Kind]++x.Text,markS]
def headW (h:PatchHunk):Str:=[64,64,32,45]++I7 h.Old (A73 h)++[32,43]++I7 h.New (A74 h)++[32,64,64,10]
def hunkPs (h:PatchHunk):List Str:=headW h::(h.Lines.map linePs).flatten
def namePs (p:Patch):List Str:=[[45,45,45,32]++I9 p.OldName++[10],[43,43,43,32]++I9 p.NewName++[10]]
def writePs (p:Patch):List Str:=namePs p++(p.Hunks.map hunkPs).flatten
def I75 (p:Patch):Str:=(writePs p).flatten
def C95 (p:Patch):Int:=if X3 p.OldName=false∨X3 p.NewName=false then 120 else if D39 p.Hunks=false then 121 else if 16777216 < (I75 p).length then 1 else 0
def szL (x:PatchLine):Nat:=x.Text.length+64
def szH (h:PatchHunk):Nat:=64+(h.Lines.map szL).sum
def szP (hs:List PatchHunk):Nat:=(hs.map szH).sum
structure PFit (p:Patch):Prop where
 old:p.OldName.length≤4194304
 new:p.NewName.length≤4194304
 hunks:szP p.Hunks≤268435456
theorem szL_len (ls:List PatchLine):64*ls.length≤(ls.map szL).sum:=by
 induction ls with
 | nil=>simp
 | cons x r ih=>simp only [K63,K85,K58,szL];omega
end Go.AL
namespace Go.AL
open Go
def A49 (k:UInt8) (ts:List Str):List PatchLine:=ts.map fun t=>⟨k,t⟩
def sub (x:List Str) (a b:Int):List Str:=(x.drop a.toNat).take (b.toNat - a.toNat)
def B26 (c:Change):Int:=c.Old+c.OldLen
def A50 (l:List Change) (i0:Int) (a t:Nat):Int:=if t=0 then i0 else B26 (cAt l (a+t - 1))
theorem I25 (l:List Change) (i0:Int) (a t:Nat):A50 l i0 a (t+1)=B26 (cAt l (a+t)):=by
 unfold A50;rw [if_neg (by omega)];congr 2
def A04 (l:List Change) (x y:List Str) (i0:Int) (a:Nat):Nat→List PatchLine
 | 0=>[]
 | t+1=>A04 l x y i0 a t++A49 32 (sub x (A50 l i0 a t) (cAt l (a+t)).Old)++A49 45 (sub x (cAt l (a+t)).Old (B26 (cAt l (a+t))))++A49 43 (sub y (cAt l (a+t)).New ((cAt l (a+t)).New+(cAt l (a+t)).NewLen))
def X5 (l:List Change) (x y:List Str) (h:Hunk):PatchHunk :=
 ⟨h.Old.From,h.New.From,A04 l x y h.Old.From h.First.toNat (h.Last.toNat - h.First.toNat)++A49 32 (sub x (A50 l h.Old.From h.First.toNat (h.Last.toNat - h.First.toNat)) h.Old.To)⟩
end Go.AL
namespace Go.AL
open Go
end Go.AL
namespace Go.AL
open Go
def H40 (i j:Int) (h:PatchHunk):Prop:=((((h.Old < 0∨h.New < 0)∨4096 < h.Old)∨4096 < h.New)∨h.Old < i)∨h.Old - i≠h.New - j
instance (i j:Int) (h:PatchHunk):Decidable (H40 i j h):=by unfold H40;exact inferInstance
end Go.AL
namespace Go.AL
open Go
theorem textsLen_le (rows:List Row) (B:Nat) (h:∀r∈rows,r.Text.length≤B):P5 rows≤rows.length*B:=by
 unfold P5
 induction rows with
 | nil=>simp
 | cons r rs ih =>
  have h1:=ih fun x hx=>h x (by simp [hx])
  have h2:=h r (by simp)
  simp only [K63,K72,K56,K58,K80,Nat.one_mul]
  omega
theorem H41 (b s:Str) (h:s∈C1 b):s.length≤b.length:=by
 have h1:(C1 b).flatten=b:=by
  have key:∀(s cur:Str),(F8 cur s).flatten=cur++s:=by
   intro s
   induction s with
   | nil=>intro cur;unfold F8;split<;>simp [*]
   | cons c r ih=>intro cur;unfold F8;split<;>simp [ih]
  exact key b []
 have h2:∀(l:List Str),s∈l→s.length≤l.flatten.length:=by
  intro l
  induction l with
  | nil=>intro h;cases h
  | cons x r ih =>
   intro h
   rcases List.mem_cons.1 h with rfl | h
   ·simp
   ·have:=ih h;simp only [K72,K56];omega
 have:=h2 _ h;rw [h1] at this;exact this
end Go.AL
namespace Go.AL
open Go
theorem E06 {x:List Str} {a b:Int} {s:Str} (h:s∈sub x a b):s∈x:=by
 unfold sub at h
 exact List.mem_of_mem_drop (List.mem_of_mem_take h)
end Go.AL
namespace Go.AL
open Go
end Go.AL
namespace Go.AL
open Go
def G58 (c:Change):Int:=c.New+c.NewLen
def eoI (i:Int) (l:List Change) (k:Nat):Int:=if k=0 then i else B26 (cAt l (k - 1))
def enI (j:Int) (l:List Change) (k:Nat):Int:=if k=0 then j else G58 (cAt l (k - 1))
theorem y7 (i:Int) (c:Change) (r:List Change) (k:Nat):eoI i (c::r) (k+1)=eoI (B26 c) r k:=by
 cases k<;>rfl
theorem y8 (j:Int) (c:Change) (r:List Change) (k:Nat):enI j (c::r) (k+1)=enI (G58 c) r k:=by
 cases k<;>rfl
theorem B57 (i:Int) (l:List Change) (k:Nat):eoI i l (k+1)=B26 (cAt l k):=rfl
theorem B58 (j:Int) (l:List Change) (k:Nat):enI j l (k+1)=G58 (cAt l k):=rfl
theorem C96 (c:Change) (r:List Change) (k:Nat):cAt (c::r) (k+1)=cAt r k:=rfl
def D40 (x y:List Str) (i j:Int):List Change→Prop
 | []=>sub x i x.length=sub y j y.length
 | c::r=>sub x i c.Old=sub y j c.New∧D40 x y (B26 c) (G58 c) r
theorem A05 (m n:Int):∀(l:List Change) (k0:Nat) (i j:Int),K4 k0 i j l m n=true→∀k,k < l.length →
  L9 (cAt l k).Old∧L9 (cAt l k).OldLen∧L9 (cAt l k).New∧L9 (cAt l k).NewLen∧(cAt l k).OldLen+(cAt l k).NewLen≠0∧(cAt l k).Old - eoI i l k=(cAt l k).New - enI j l k∧eoI i l k≤(cAt l k).Old∧(0 < k0+k→eoI i l k < (cAt l k).Old)
 | [],_,_,_,_,k,hk=>by simp at hk
 | c :: r,k0,i,j,h,k,hk=>by
  simp only [K4,K59,decide_eq_true_eq] at h
  obtain ⟨h1,h2⟩:=h
  cases k with
  | zero =>
   unfold G56 at h1
   show L9 c.Old∧L9 c.OldLen∧L9 c.New∧L9 c.NewLen∧c.OldLen+c.NewLen≠0∧c.Old - i=c.New - j∧i≤c.Old∧(0 < k0+0→i < c.Old)
   have d1:L9 c.Old:=by by_cases q:L9 c.Old;exact q;exact absurd (.inl (.inl (.inl (.inl (.inl (.inl (.inl q))))))) h1
   have d2:L9 c.OldLen:=by by_cases q:L9 c.OldLen;exact q;exact absurd (.inl (.inl (.inl (.inl (.inl (.inl (.inr q))))))) h1
   have d3:L9 c.New:=by by_cases q:L9 c.New;exact q;exact absurd (.inl (.inl (.inl (.inl (.inl (.inr q)))))) h1
   have d4:L9 c.NewLen:=by by_cases q:L9 c.NewLen;exact q;exact absurd (.inl (.inl (.inl (.inl (.inr q))))) h1
   refine ⟨d1,d2,d3,d4,fun q=>h1 (.inl (.inl (.inl (.inr q)))),?_,?_,fun h0=>?_⟩
   ·by_cases q:c.Old - i=c.New - j
    ·exact q
    ·exact absurd (.inl (.inl (.inr q))) h1
   ·by_cases q:c.Old < i
    ·exact absurd (.inl (.inr q)) h1
    ·omega
   ·by_cases q:c.Old < i
    ·exact absurd (.inl (.inr q)) h1
    ·by_cases q2:c.Old=i
     ·exact absurd (.inr ⟨by omega,q2⟩) h1
     ·omega
  | succ k =>
   have:=A05 m n r (k0+1) _ _ h2 k (by simpa using hk)
   rw [C96,y7,y8]
   obtain ⟨e1,e2,e3,e4,e5,e6,e7,e8⟩:=this
   exact ⟨e1,e2,e3,e4,e5,e6,e7,fun h0=>e8 (by omega)⟩
theorem G59 (m n:Int):∀(l:List Change) (k0:Nat) (i j:Int),K4 k0 i j l m n=true→m - eoI i l l.length=n - enI j l l.length∧eoI i l l.length≤m
 | [],_,i,j,h=>by
  simp only [K4,decide_eq_true_eq] at h
  show m - i=n - j∧i≤m
  omega
 | c::r,k0,i,j,h=>by
  simp only [K4,K59,decide_eq_true_eq] at h
  rw [K58,y7,y8]
  exact G59 m n r _ _ _ h.2
theorem E69 (x y:List Str):∀(l:List Change) (i j:Int),D40 x y i j l→∀k,k < l.length→sub x (eoI i l k) (cAt l k).Old=sub y (enI j l k) (cAt l k).New
 | [],_,_,_,k,hk=>by simp at hk
 | c::r,i,j,h,k,hk=>by
  cases k with
  | zero=>exact h.1
  | succ k=>rw [y7,y8,C96];exact E69 x y r _ _ h.2 k (by simpa using hk)
theorem G60 (x y:List Str):∀(l:List Change) (i j:Int),D40 x y i j l→sub x (eoI i l l.length) x.length=sub y (enI j l l.length) y.length
 | [],_,_,h=>h
 | c::r,i,j,h=>by rw [K58,y7,y8];exact G60 x y r _ _ h.2
def mkH (l:List Change) (m ctx:Int) (a b:Nat):Hunk:=C93 l m ctx (b - 1) (A72 l ctx a)
def GrOk (l:List Change) (m ctx:Int):Nat→List Hunk→Nat→Prop
 | a,[],k=>a=k
 | a,h::r,k=>∃b,a < b∧opens l ctx a∧h=mkH l m ctx a b∧GrOk l m ctx b r k
theorem GrOk.le {l:List Change} {m ctx:Int}:∀{hs:List Hunk} {a k:Nat},GrOk l m ctx a hs k→a≤k
 | [],a,k,h=>Nat.le_of_eq h
 | _::_,a,k,⟨b,h1,_,_,h2⟩=>by have:=GrOk.le h2;omega
theorem GrOk.snoc {l:List Change} {m ctx:Int} {k:Nat} (ho:opens l ctx k):∀{hs:List Hunk} {a:Nat},GrOk l m ctx a hs k→GrOk l m ctx a (hs++[mkH l m ctx k (k+1)]) (k+1)
 | [],a,h=>by
  obtain rfl:a=k:=h
  exact ⟨a+1,by omega,ho,rfl,rfl⟩
 | _::_,a,⟨b,h1,h2,h3,h4⟩=>⟨b,h1,h2,h3,GrOk.snoc ho h4⟩
theorem GrOk.last {l:List Change} {m ctx:Int} {k:Nat}:∀{hs:List Hunk} {a:Nat},GrOk l m ctx a hs k→hs≠[]→GrOk l m ctx a (hs.set (hs.length - 1) (C93 l m ctx k (hs.getD (hs.length - 1) I74))) (k+1)
 | [],_,_,h0=>absurd rfl h0
 | [h],a,⟨b,h1,h2,h3,h4⟩,_=>by
  obtain rfl:b=k:=h4
  subst h3
  exact ⟨b+1,by omega,h2,rfl,rfl⟩
 | h::h'::r,a,⟨b,h1,h2,h3,h4⟩,_=>by
  have ih:=GrOk.last h4 (by simp)
  refine ⟨b,h1,h2,h3,?_⟩
  simpa using ih
theorem B02 (l:List Change) (m ctx:Int):∀k,GrOk l m ctx 0 (X4 l m ctx k) k
 | 0=>rfl
 | k+1=>by
  have ih:=B02 l m ctx k
  have hne:=(D74 l m ctx k).2
  simp only [X4,D37]
  by_cases ho:opens l ctx k
  ·rw [if_pos ho]
   have e:(X4 l m ctx k++[A72 l ctx k]).set ((X4 l m ctx k++[A72 l ctx k]).length - 1) (C93 l m ctx k ((X4 l m ctx k++[A72 l ctx k]).getD ((X4 l m ctx k++[A72 l ctx k]).length - 1) I74))=X4 l m ctx k++[mkH l m ctx k (k+1)]:=by
    simp [mkH]
   rw [e]
   exact ih.snoc ho
  ·rw [if_neg ho]
   refine ih.last ?_
   have:k≠0:=fun e=>ho (.inl e)
   have:=hne (by omega)
   intro e;rw [e] at this;simp at this
theorem B03 (x:List Str) {a b c:Int} (h0:0≤a) (h1:a≤b) (h2:b≤c):sub x a b++sub x b c=sub x a c:=by
 unfold sub
 obtain ⟨u,rfl⟩:∃u:Nat,(u:Int)=a:=⟨a.toNat,by omega⟩
 obtain ⟨v,rfl⟩:∃v:Nat,(v:Int)=b:=⟨b.toNat,by omega⟩
 obtain ⟨w,rfl⟩:∃w:Nat,(w:Int)=c:=⟨c.toNat,by omega⟩
 simp only [K62]
 have h3:x.drop v=(x.drop u).drop (v - u):=by rw [List.drop_drop];congr 1;omega
 rw [h3,show w - u=(v - u)+(w - v) by omega,List.take_add]
theorem I76 (x:List Str) (a:Int):sub x a a=[]:=by simp [sub]
theorem B04 (x:List Str) {a b:Int} (h0:0≤a) (h1:a≤b) (h2:b≤x.length):((sub x a b).length:Int)=b - a:=by
 unfold sub;rw [K70,K65];omega
theorem B59 {x y:List Str} {p q p' q' e:Int} (h:sub x p q=sub y p' q') (h0:0≤p) (h0':0≤p') (he:0≤e) (h1:e≤q - p) (h2:q - p=q' - p'):sub x (q - e) q=sub y (q' - e) q':=by
 have key:∀(z:List Str) (a b:Int),0≤a→e≤b - a→sub z (b - e) b=(sub z a b).drop (b - a - e).toNat:=by
  intro z a b ha hb
  unfold sub
  rw [List.drop_take,List.drop_drop]
  congr 1
  ·omega
  ·congr 1;omega
 rw [key x p q h0 h1,key y p' q' h0' (by omega),h,h2]
theorem E70 {x y:List Str} {p q p' q' e:Int} (h:sub x p q=sub y p' q') (h0:0≤p) (h0':0≤p') (he:0≤e) (h1:e≤q - p) (h2:q - p=q' - p'):sub x p (p+e)=sub y p' (p'+e):=by
 have key:∀(z:List Str) (a b:Int),0≤a→e≤b - a→sub z a (a+e)=(sub z a b).take e.toNat:=by
  intro z a b ha hb
  unfold sub
  rw [List.take_take]
  congr 1
  omega
 rw [key x p q h0 h1,key y p' q' h0' (by omega),h]
theorem B05 (p q:List PatchLine) (k:UInt8):G6 (p++q) k=G6 p k++G6 q k:=by simp [G6]
theorem B06 (k k':UInt8) (ts:List Str):G6 (A49 k ts) k'=if k=k' then [] else ts:=by
 unfold G6 A49
 by_cases h:k=k'
 ·rw [if_pos h];subst h
  simp [List.filter_eq_nil_iff]
 ·rw [if_neg h]
  rw [List.filter_eq_self.2 (by simp [h])]
  simp [Function.comp_def]
structure ScFit (x y:List Str) (l:List Change):Prop where
 lx:(x.length:Int)≤4096
 ly:(y.length:Int)≤4096
 sc:K4 0 0 0 l x.length y.length=true
 eq:D40 x y 0 0 l
section
variable {x y:List Str} {l:List Change}
theorem ScFit.ok (h:ScFit x y l):ScOk 0 0 l x.length y.length:=A48 _ _ _ _ _ _ h.sc
theorem ScFit.check (h:ScFit x y l):check8 l x.length y.length=0:=by
 have h1:=h.lx
 have h2:=h.ly
 unfold check8
 rw [if_neg (by unfold L9;omega),if_pos h.sc]
theorem ScFit.nn (h:ScFit x y l) (k:Nat) (hk:k≤l.length):0≤eoI 0 l k∧0≤enI 0 l k∧eoI 0 l k≤x.length∧enI 0 l k≤y.length:=by
 cases k with
 | zero=>exact ⟨Int.le_refl _,Int.le_refl _,Int.natCast_nonneg _,Int.natCast_nonneg _⟩
 | succ k =>
  obtain ⟨⟨a1,a2⟩,⟨b1,b2⟩,⟨c1,c2⟩,⟨d1,d2⟩,h5,h6⟩:=h.ok.get k (by omega)
  rw [B57,B58];unfold B26 G58
  omega
def eA (l:List Change) (ctx:Int) (a:Nat):Int:=G57 ctx (cAt l a).Old
def eB (l:List Change) (m ctx:Int) (b:Nat):Int:=G57 ctx (m - eoI 0 l b)
theorem I77 {a b:Int} (h:0≤a) (h':0≤b):0≤G57 a b∧G57 a b≤a∧G57 a b≤b:=by unfold G57;split<;>omega
theorem B90 {ctx:Int} {a:Nat} (ho:opens l ctx a) (ha:a≠0):2*ctx < (cAt l a).Old - eoI 0 l a:=by
 rcases ho with h | h
 ·exact absurd h ha
 ·unfold eoI;rw [if_neg ha];unfold B26;omega
theorem ScFit.before (h:ScFit x y l) {ctx:Int} (hc:0≤ctx) {a:Nat} (ha:a < l.length) (ho:opens l ctx a) :
  0≤eA l ctx a∧eA l ctx a≤ctx∧eA l ctx a≤(cAt l a).Old - eoI 0 l a:=by
 obtain ⟨⟨a1,a2⟩,_⟩:=h.ok.get a ha
 have h3:=I77 hc a1
 unfold eA
 by_cases h0:a=0
 ·subst h0
  show _∧_∧_≤(cAt l 0).Old - 0
  omega
 ·have:=B90 ho h0;omega
theorem ScFit.after (h:ScFit x y l) {ctx:Int} (hc:0≤ctx) {b:Nat} (hb:b≤l.length) (ho:b < l.length→opens l ctx b) (hb0:b≠0) :
  0≤eB l x.length ctx b∧eB l x.length ctx b≤ctx∧eoI 0 l b+eB l x.length ctx b≤x.length∧enI 0 l b+eB l x.length ctx b≤y.length ∧
   sub x (eoI 0 l b) (eoI 0 l b+eB l x.length ctx b)=sub y (enI 0 l b) (enI 0 l b+eB l x.length ctx b):=by
 obtain ⟨h1,h2,h3,h4⟩:=h.nn b hb
 have h5:=I77 hc (show 0≤(x.length:Int) - eoI 0 l b by omega)
 unfold eB
 rcases Nat.lt_or_ge b l.length with hlt | hge
 ·obtain ⟨g1,g2,g3,g4,g5,g6,g7,g8⟩:=A05 _ _ _ _ _ _ h.sc b hlt
  obtain ⟨⟨a1,a2⟩,⟨b1,b2⟩,⟨c1,c2⟩,⟨d1,d2⟩,k5,k6⟩:=h.ok.get b hlt
  have hg:=B90 (ho hlt) hb0
  refine ⟨h5.1,h5.2.1,by omega,by omega,E70 (E69 x y l 0 0 h.eq b hlt) h1 h2 h5.1 (by omega) (by omega)⟩
 ·have e:b=l.length:=by omega
  subst e
  obtain ⟨g1,g2⟩:=G59 _ _ _ _ _ _ h.sc
  refine ⟨h5.1,h5.2.1,by omega,by omega,E70 (G60 x y l 0 0 h.eq) h1 h2 h5.1 (by omega) (by omega)⟩
def G61 (l:List Change) (j0:Int) (a t:Nat):Int:=if t=0 then j0 else G58 (cAt l (a+t - 1))
theorem E71 (i0:Int) (a t:Nat) (ht:t≠0):A50 l i0 a t=eoI 0 l (a+t):=by
 unfold A50 eoI;rw [if_neg ht,if_neg (by omega)]
theorem I78 (j0:Int) (a t:Nat) (ht:t≠0):G61 l j0 a t=enI 0 l (a+t):=by
 unfold G61 enI;rw [if_neg ht,if_neg (by omega)]
theorem ScFit.made (h:ScFit x y l) {ctx:Int} (hc:0≤ctx) {a:Nat} (ho:opens l ctx a):∀t,a+t≤l.length→(t=0→a < l.length) →
  G6 (A04 l x y ((cAt l a).Old - eA l ctx a) a t) 43=sub x ((cAt l a).Old - eA l ctx a) (A50 l ((cAt l a).Old - eA l ctx a) a t) ∧
  G6 (A04 l x y ((cAt l a).Old - eA l ctx a) a t) 45=sub y ((cAt l a).New - eA l ctx a) (G61 l ((cAt l a).New - eA l ctx a) a t)
 | 0,_,_=>by
  unfold A50 G61
  rw [if_pos rfl,if_pos rfl,I76,I76]
  exact ⟨rfl,rfl⟩
 | t + 1,hl,_=>by
  have hlt:a+t < l.length:=by omega
  have hla:a < l.length:=by omega
  obtain ⟨ih1,ih2⟩:=ScFit.made h hc ho t (by omega) (fun _=>hla)
  obtain ⟨q1,q2,q3⟩:=h.before hc hla ho
  obtain ⟨p1,p2,p3,p4⟩:=h.nn (a+t) (by omega)
  obtain ⟨r1,r2,r3,r4⟩:=h.nn a (by omega)
  obtain ⟨g1,g2,g3,g4,g5,g6,g7,g8⟩:=A05 _ _ _ _ _ _ h.sc (a+t) hlt
  obtain ⟨k1,⟨k2,k2'⟩,k3,⟨k4,k4'⟩,k5,k6,k7,k8⟩:=A05 _ _ _ _ _ _ h.sc a hla
  obtain ⟨⟨a1,a2⟩,⟨b1,b2⟩,⟨c1,c2⟩,⟨d1,d2⟩,w5,w6⟩:=h.ok.get (a+t) hlt
  have hrun:sub x (A50 l ((cAt l a).Old - eA l ctx a) a t) (cAt l (a+t)).Old=sub y (G61 l ((cAt l a).New - eA l ctx a) a t) (cAt l (a+t)).New ∧
    (cAt l a).Old - eA l ctx a≤A50 l ((cAt l a).Old - eA l ctx a) a t∧A50 l ((cAt l a).Old - eA l ctx a) a t≤(cAt l (a+t)).Old ∧
    (cAt l a).New - eA l ctx a≤G61 l ((cAt l a).New - eA l ctx a) a t∧G61 l ((cAt l a).New - eA l ctx a) a t≤(cAt l (a+t)).New:=by
   have hrun:=E69 x y l 0 0 h.eq (a+t) hlt
   by_cases ht:t=0
   ·subst ht
    unfold A50 G61
    rw [if_pos rfl,if_pos rfl]
    rw [show a+0=a from rfl] at *
    exact ⟨B59 hrun r1 r2 q1 (by omega) (by omega),by omega,by omega,by omega,by omega⟩
   ·rw [E71 _ _ _ ht,I78 _ _ _ ht]
    have m1:=h.ok.mono a (a+t - 1) (by omega) (by omega)
    have m2:eoI 0 l (a+t)=(cAt l (a+t - 1)).Old+(cAt l (a+t - 1)).OldLen:=by unfold eoI;rw [if_neg (by omega)];rfl
    have m4:∀u,u≤t→(cAt l a).New≤enI 0 l (a+u)∨u=0:=by
     intro u
     induction u with
     | zero=>exact fun _=>.inr rfl
     | succ u ihu =>
      intro hu
      obtain ⟨e1,e2,⟨e3,e3'⟩,⟨e4,e4'⟩,e5,e6,e7,e8⟩:=A05 _ _ _ _ _ _ h.sc (a+u) (by omega)
      have e9:enI 0 l (a+(u+1))=(cAt l (a+u)).New+(cAt l (a+u)).NewLen:=rfl
      rcases ihu (by omega) with h' | h'
      ·left;omega
      ·left;subst h';rw [e9];show (cAt l a).New≤(cAt l a).New+(cAt l a).NewLen;exact Int.le_add_of_nonneg_right e4
    have m5:=(m4 t (Nat.le_refl _)).resolve_right ht
    refine ⟨hrun,by omega,by omega,by omega,by omega⟩
  obtain ⟨hr1,hr2,hr3,hr4,hr5⟩:=hrun
  simp (decide:=true) only [A04,B05,B06,ih1,ih2,if_true,if_false,K81]
  have e1:A50 l ((cAt l a).Old - eA l ctx a) a (t+1)=B26 (cAt l (a+t)):=I25 _ _ _ _
  have e2:G61 l ((cAt l a).New - eA l ctx a) a (t+1)=G58 (cAt l (a+t)):=rfl
  rw [e1,e2]
  have s0:0≤(cAt l a).Old - eA l ctx a:=by omega
  have s1:0≤(cAt l a).New - eA l ctx a:=by omega
  refine ⟨?_,?_⟩
  ·rw [B03 x s0 hr2 hr3,B03 x s0 (by omega) (by unfold B26;omega)]
  ·rw [hr1,B03 y s1 hr4 hr5]
   exact B03 y s1 (by omega) (by omega)
end
end Go.AL
namespace Go.AL
open Go
section
variable {x y:List Str} {l:List Change}
structure HunkIs (x y:List Str) (l:List Change) (ctx:Int) (a b:Nat) (h:PatchHunk):Prop where
 old:h.Old=(cAt l a).Old - eA l ctx a
 new:h.New=(cAt l a).New - eA l ctx a
 o0:0≤h.Old
 n0:0≤h.New
 oe:h.Old+A73 h=eoI 0 l b+eB l x.length ctx b
 ne:h.New+A74 h=enI 0 l b+eB l x.length ctx b
 ox:h.Old+A73 h≤x.length
 ny:h.New+A74 h≤y.length
 ol:G6 h.Lines 43=sub x h.Old (h.Old+A73 h)
 nl:G6 h.Lines 45=sub y h.New (h.New+A74 h)
 ch:A62 h.Lines=true
 gl:(∀s∈x,H8 s=true)→(∀s∈y,H8 s=true)→h.Lines.all C44=true
theorem E72 (p q:List PatchLine):A62 (p++q)=(A62 p||A62 q):=by simp [A62]
theorem E73 {k:UInt8} {ts:List Str} (hk:k≠32) (h:ts≠[]):A62 (A49 k ts)=true:=by
 cases ts with
 | nil=>exact absurd rfl h
 | cons t ts=>simp [A62,A49,hk]
theorem B07 {k:UInt8} {ts:List Str} (hk:k=32∨k=45∨k=43) (h:∀t∈ts,H8 t=true):(A49 k ts).all C44=true:=by
 rw [List.all_eq_true]
 intro q hq
 unfold A49 at hq
 obtain ⟨t,ht,rfl⟩:=List.mem_map.1 hq
 unfold C44
 refine decide_eq_true ?_
 rintro (⟨⟨h1,h2⟩,h3⟩ | h1)
 ·rcases hk with e | e | e
  ·exact h1 e
  ·exact h2 e
  ·exact h3 e
 ·rw [show (PatchLine.mk k t).Text=t from rfl,h t ht] at h1;cases h1
theorem D75 (hx:∀s∈x,H8 s=true) (hy:∀s∈y,H8 s=true) (i0:Int) (a:Nat):∀t,(A04 l x y i0 a t).all C44=true
 | 0=>rfl
 | t+1=>by
  simp only [A04,L05,D75 hx hy i0 a t,Bool.true_and,K59]
  exact ⟨⟨B07 (.inl rfl) (fun s hs=>hx s (E06 hs)),B07 (.inr (.inl rfl)) (fun s hs=>hx s (E06 hs))⟩,B07 (.inr (.inr rfl)) (fun s hs=>hy s (E06 hs))⟩
theorem ScFit.hunk (h:ScFit x y l) {ctx:Int} (hc:0≤ctx) {a b:Nat} (hab:a < b) (hb:b≤l.length) (ho:opens l ctx a) (hob:b < l.length→opens l ctx b) :
  HunkIs x y l ctx a b (X5 l x y (mkH l x.length ctx a b)):=by
 have hla:a < l.length:=by omega
 obtain ⟨q1,q2,q3⟩:=h.before hc hla ho
 obtain ⟨w1,w2,w3,w4,w5⟩:=h.after hc hb hob (by omega)
 obtain ⟨m1,m2⟩:=h.made hc ho (b - a) (by omega) (fun e=>by omega)
 rw [E71 _ _ _ (by omega)] at m1
 rw [I78 _ _ _ (by omega)] at m2
 rw [show a+(b - a)=b by omega] at m1 m2
 obtain ⟨r1,r2,r3,r4⟩:=h.nn a (by omega)
 obtain ⟨s1,s2,s3,s4⟩:=h.nn b hb
 obtain ⟨k1,⟨k2,k2'⟩,k3,⟨k4,k4'⟩,k5,k6,k7,k8⟩:=A05 _ _ _ _ _ _ h.sc a hla
 have hlb:b - 1 < l.length:=by omega
 obtain ⟨g1,⟨g2,g2'⟩,g3,⟨g4,g4'⟩,g5,g6,g7,g8⟩:=A05 _ _ _ _ _ _ h.sc (b - 1) hlb
 have eo:eoI 0 l b=(cAt l (b - 1)).Old+(cAt l (b - 1)).OldLen:=by unfold eoI;rw [if_neg (by omega)];rfl
 have en:enI 0 l b=(cAt l (b - 1)).New+(cAt l (b - 1)).NewLen:=by unfold enI;rw [if_neg (by omega)];rfl
 have mo:=h.ok.mono a (b - 1) (by omega) (by omega)
 have mn:(cAt l a).New≤enI 0 l b:=by
  have m4:∀u,a+u≤l.length→(cAt l a).New≤enI 0 l (a+u)∨u=0:=by
   intro u
   induction u with
   | zero=>exact fun _=>.inr rfl
   | succ u ihu =>
    intro hu
    obtain ⟨e1,e2,⟨e3,e3'⟩,⟨e4,e4'⟩,e5,e6,e7,e8⟩:=A05 _ _ _ _ _ _ h.sc (a+u) (by omega)
    have e9:enI 0 l (a+(u+1))=(cAt l (a+u)).New+(cAt l (a+u)).NewLen:=rfl
    rcases ihu (by omega) with h' | h'
    ·left;omega
    ·left;subst h';rw [e9];show (cAt l a).New≤(cAt l a).New+(cAt l a).NewLen;exact Int.le_add_of_nonneg_right e4
  have:=(m4 (b - a) (by omega)).resolve_right (by omega)
  rwa [show a+(b - a)=b by omega] at this
 have hF:(mkH l x.length ctx a b).First.toNat=a:=by show ((a:Int)).toNat=a;omega
 have hL:(mkH l x.length ctx a b).Last.toNat - (mkH l x.length ctx a b).First.toNat=b - a:=by
  show (((b - 1:Nat):Int)+1).toNat - ((a:Int)).toNat=b - a;omega
 have hOF:(mkH l x.length ctx a b).Old.From=(cAt l a).Old - eA l ctx a:=rfl
 have hNF:(mkH l x.length ctx a b).New.From=(cAt l a).New - eA l ctx a:=rfl
 have hOT:(mkH l x.length ctx a b).Old.To=eoI 0 l b+eB l x.length ctx b:=by
  unfold eB;rw [eo];rfl
 obtain ⟨P,hP⟩:∃P,P=X5 l x y (mkH l x.length ctx a b):=⟨_,rfl⟩
 have hPl:P.Lines=A04 l x y ((cAt l a).Old - eA l ctx a) a (b - a)++A49 32 (sub x (eoI 0 l b) (eoI 0 l b+eB l x.length ctx b)):=by
  rw [hP];unfold X5
  show A04 l x y _ (mkH l x.length ctx a b).First.toNat ((mkH l x.length ctx a b).Last.toNat - (mkH l x.length ctx a b).First.toNat)++A49 32 (sub x (A50 l _ (mkH l x.length ctx a b).First.toNat ((mkH l x.length ctx a b).Last.toNat - (mkH l x.length ctx a b).First.toNat)) _)=_
  rw [hL,hF,hOF,hOT,E71 _ _ _ (by omega),show a+(b - a)=b by omega]
 have hPO:P.Old=(cAt l a).Old - eA l ctx a:=by rw [hP];rfl
 have hPN:P.New=(cAt l a).New - eA l ctx a:=by rw [hP];rfl
 have h43:G6 P.Lines 43=sub x ((cAt l a).Old - eA l ctx a) (eoI 0 l b+eB l x.length ctx b):=by
  rw [hPl,B05,B06,if_neg (by decide),m1]
  exact B03 x (by omega) (by omega) (by omega)
 have h45:G6 P.Lines 45=sub y ((cAt l a).New - eA l ctx a) (enI 0 l b+eB l x.length ctx b):=by
  rw [hPl,B05,B06,if_neg (by decide),m2,w5]
  exact B03 y (by omega) (by omega) (by omega)
 have hon:A73 P=eoI 0 l b+eB l x.length ctx b - ((cAt l a).Old - eA l ctx a):=by
  unfold A73;rw [h43];exact B04 x (by omega) (by omega) (by omega)
 have hnn:A74 P=enI 0 l b+eB l x.length ctx b - ((cAt l a).New - eA l ctx a):=by
  unfold A74;rw [h45];exact B04 y (by omega) (by omega) (by omega)
 rw [←hP]
 refine ⟨hPO,hPN,by omega,by omega,by omega,by omega,by omega,by omega,?_,?_,?_,?_⟩
 ·rw [h43];congr 1
  ·exact hPO.symm
  ·omega
 ·rw [h45];congr 1
  ·exact hPN.symm
  ·omega
 ·rw [hPl,E72]
  have e:A04 l x y ((cAt l a).Old - eA l ctx a) a (b - a)=A04 l x y ((cAt l a).Old - eA l ctx a) a (b - 1 - a+1):=by congr 1;omega
  rw [e]
  simp only [A04,E72]
  rw [show a+(b - 1 - a)=b - 1 by omega]
  have key:A62 (A49 45 (sub x (cAt l (b - 1)).Old (B26 (cAt l (b - 1)))))=true∨A62 (A49 43 (sub y (cAt l (b - 1)).New ((cAt l (b - 1)).New+(cAt l (b - 1)).NewLen)))=true:=by
   obtain ⟨g3a,g3b⟩:=g3
   obtain ⟨g1a,g1b⟩:=g1
   by_cases h0:(cAt l (b - 1)).OldLen=0
   ·right
    refine E73 (by decide) fun e0=>?_
    have:=B04 y (a:=(cAt l (b - 1)).New) (b:=(cAt l (b - 1)).New+(cAt l (b - 1)).NewLen) g3a (by omega) (by omega)
    rw [e0] at this;simp at this;omega
   ·left
    refine E73 (by decide) fun e0=>?_
    have:=B04 x (a:=(cAt l (b - 1)).Old) (b:=B26 (cAt l (b - 1))) g1a (by unfold B26;omega) (by unfold B26;omega)
    rw [e0] at this;unfold B26 at this;simp at this;omega
  rcases key with e1 | e1<;>rw [e1]<;>simp
 ·intro hx hy
  rw [hPl,L05,D75 hx hy,Bool.true_and]
  exact B07 (.inl rfl) (fun s hs=>hx s (E06 hs))
theorem ScFit.hunks (h:ScFit x y l) {ctx:Int} (hc:0≤ctx) (hx:∀s∈x,H8 s=true) (hy:∀s∈y,H8 s=true):∀(hs:List Hunk) (a:Nat),GrOk l x.length ctx a hs l.length →
  ∀(i j e:Int),i=eoI 0 l a+e→j=enI 0 l a+e→0≤e→e≤ctx→(a=0→e=0) →
  D38 i j (hs.map (X5 l x y))=true∧(M3 (hs.map (X5 l x y)) 43).Sublist (x.drop i.toNat)∧(M3 (hs.map (X5 l x y)) 45).Sublist (y.drop j.toNat) ∧
   ∀p∈hs.map (X5 l x y),(p.Old+A73 p≤x.length∧p.New+A74 p≤y.length∧0≤p.Old∧0≤p.New)∧G6 p.Lines 43=sub x p.Old (p.Old+A73 p)∧G6 p.Lines 45=sub y p.New (p.New+A74 p)
 | [],a,_,i,j,e,_,_,_,_,_=>⟨rfl,by simp [M3],by simp [M3],by simp⟩
 | hk::hs,a,⟨b,hab,ho,hE,hr⟩,i,j,e,hi,hj,he,hec,he0=>by
  have hb:=hr.le
  have hob:b < l.length→opens l ctx b:=by
   intro hlt
   cases hs with
   | nil=>exact absurd hr (by show ¬b=l.length;omega)
   | cons h2 hs2=>obtain ⟨_,_,ho2,_⟩:=hr;exact ho2
  obtain ⟨w1,w2,w3,w4,w5⟩:=h.after hc hb hob (by omega)
  obtain ⟨q1,q2,q3⟩:=h.before hc (show a < l.length by omega) ho
  have H:=h.hunk hc hab hb ho hob
  rw [←hE] at H
  obtain ⟨P,hP⟩:∃P,P=X5 l x y hk:=⟨_,rfl⟩
  rw [←hP] at H
  obtain ⟨i1,i2,i3,i4⟩:=ScFit.hunks h hc hx hy hs b hr (P.Old+A73 P) (P.New+A74 P) (eB l x.length ctx b) H.oe H.ne w1 w2 (by omega)
  obtain ⟨k1,⟨k2,k2'⟩,k3,⟨k4,k4'⟩,k5,k6,k7,k8⟩:=A05 _ _ _ _ _ _ h.sc a (show a < l.length by omega)
  have h1:=H.old
  have h2:=H.new
  have h3:=H.o0
  have h4:=H.n0
  have h5:=H.ox
  have h6:=H.ny
  have h7:=h.lx
  have h8:=h.ly
  have n1:0≤A73 P:=by unfold A73;omega
  have n2:0≤A74 P:=by unfold A74;omega
  have hgap:e+eA l ctx a≤(cAt l a).Old - eoI 0 l a:=by
   by_cases h0:a=0
   ·have:=he0 h0;omega
   ·have:=B90 ho h0;omega
  obtain ⟨r1,r2,r3,r4⟩:=h.nn a (by omega)
  have hij:i≤P.Old∧j≤P.New∧P.Old - i=P.New - j∧0≤i∧0≤j:=by omega
  have hsub:∀(z:List Str) (i f t:Int),0≤i→i≤f→f≤t→∀r:List Str,r.Sublist (z.drop t.toNat)→(sub z f t++r).Sublist (z.drop i.toNat):=by
   intro z i f t h0 h1 h2 r hr
   have e1:z.drop f.toNat=sub z f t++z.drop t.toNat:=by
    unfold sub
    rw [show t.toNat=f.toNat+(t.toNat - f.toNat) by omega,←List.drop_drop,show f.toNat+(t.toNat - f.toNat) - f.toNat=t.toNat - f.toNat by omega,K95]
   have e2:z.drop f.toNat=(z.drop i.toNat).drop (f.toNat - i.toNat):=by rw [List.drop_drop];congr 1;omega
   refine List.Sublist.trans ?_ (List.drop_sublist (f.toNat - i.toNat) (z.drop i.toNat))
   rw [←e2,e1]
   exact List.Sublist.append_left hr _
  have key:∀(k:UInt8),M3 ((hk::hs).map (X5 l x y)) k=G6 P.Lines k++M3 (hs.map (X5 l x y)) k:=by
   intro k;rw [hP];simp [M3]
  refine ⟨?_,?_,?_,?_⟩
  ·rw [K63,←hP]
   simp only [D38,H.gl hx hy,i1,Bool.and_true,Bool.true_and,K59,decide_eq_true_eq]
   refine ⟨?_,by omega⟩
   unfold C94
   rw [H.ch]
   rintro (((((e0 | e0) | e0) | e0) | e0) | e0)
   ·cases e0
   all_goals omega
  ·rw [key,H.ol]
   exact hsub x i P.Old (P.Old+A73 P) hij.2.2.2.1 hij.1 (by omega) _ i2
  ·rw [key,H.nl]
   exact hsub y j P.New (P.New+A74 P) hij.2.2.2.2 hij.2.1 (by omega) _ i3
  ·rw [K63,←hP]
   intro p hp
   rcases List.mem_cons.1 hp with rfl | hp
   ·exact ⟨⟨h5,h6,h3,h4⟩,H.ol,H.nl⟩
   ·exact i4 p hp
theorem B08:∀{s z:List Str},s.Sublist z→Q9 z=true→Q9 s=true:=by
 intro s z hs
 induction hs with
 | slnil=>exact fun h=>h
 | cons a _ ih =>
  intro h
  simp only [Q9,K59] at h
  exact ih h.2
 | cons_cons a hs2 ih =>
  intro h
  simp only [Q9,K59,K94] at h ⊢
  refine ⟨?_,ih h.2⟩
  rcases h.1 with h1 | h1
  ·left
   rw [List.isEmpty_iff] at h1 ⊢
   rw [h1] at hs2
   exact List.sublist_nil.1 hs2
  ·exact .inr h1
def d6 (l:List Change) (x y:List Str) (ctx:Int):List PatchHunk:=(X4 l x.length ctx l.length).map (X5 l x y)
theorem ScFit.good (h:ScFit x y l) {ctx:Int} (hc:0≤ctx) (hx:∀s∈x,H8 s=true) (hy:∀s∈y,H8 s=true) (ex:Q9 x=true) (ey:Q9 y=true):D39 (d6 l x y ctx)=true:=by
 obtain ⟨h1,h2,h3,_⟩:=h.hunks hc hx hy _ 0 (B02 l x.length ctx l.length) 0 0 0 rfl rfl (Int.le_refl _) hc (fun _=>rfl)
 unfold D39 I24 d6
 rw [h1,B08 h2 (by simpa using ex),B08 h3 (by simpa using ey)]
 rfl
theorem ScFit.texts (h:ScFit x y l) {ctx:Int} (hc:0≤ctx) (hx:∀s∈x,H8 s=true) (hy:∀s∈y,H8 s=true):∀p∈d6 l x y ctx,(p.Old+A73 p≤x.length∧p.New+A74 p≤y.length∧0≤p.Old∧0≤p.New)∧G6 p.Lines 43=sub x p.Old (p.Old+A73 p)∧G6 p.Lines 45=sub y p.New (p.New+A74 p) :=
 (h.hunks hc hx hy _ 0 (B02 l x.length ctx l.length) 0 0 0 rfl rfl (Int.le_refl _) hc (fun _=>rfl)).2.2.2
end
theorem D76 (cur:Str) (c:UInt8) (h:∀z∈cur,z≠10):H8 (cur++[c])=true:=by
 unfold H8
 simp only [List.dropLast_concat,K59]
 refine ⟨List.all_eq_true.2 fun z hz=>by simpa using h z hz,by simp⟩
theorem B60:∀(s cur:Str),(∀z∈cur,z≠10)→(∀t∈F8 cur s,H8 t=true)∧Q9 (F8 cur s)=true
 | [],cur,hc=>by
  unfold F8
  split
  ·exact ⟨by simp,rfl⟩
  ·rename_i h
   refine ⟨fun t ht=>?_,rfl⟩
   obtain rfl:t=cur:=by simpa using ht
   obtain ⟨d,r,e⟩:∃d r,t=r++[d]:=⟨t.getLast h,t.dropLast,(List.dropLast_concat_getLast h).symm⟩
   rw [e]
   exact D76 r d fun z hz=>hc z (by rw [e];simp [hz])
 | c::r,cur,hc=>by
  rw [W5]
  by_cases h:c=10
  ·rw [if_pos h]
   obtain ⟨h1,h2⟩:=B60 r [] (by simp)
   refine ⟨fun t ht=>?_,?_⟩
   ·rcases List.mem_cons.1 ht with rfl | ht
    ·exact D76 cur c hc
    ·exact h1 t ht
   ·simp only [Q9,h2,Bool.and_true,K94]
    right;unfold ended;subst h;simp
  ·rw [if_neg h]
   refine B60 r (cur++[c]) fun z hz=>?_
   rcases List.mem_append.1 hz with hz | hz
   ·exact hc z hz
   ·simp at hz;subst hz;exact h
theorem i8 (b:Str):(∀t∈C1 b,H8 t=true)∧Q9 (C1 b)=true:=B60 b [] (by simp)
end Go.AL
namespace Go.AL
open Go
theorem B91 {m n:Int} (hm:L9 m) (hn:L9 n):∀(p:List Span) (i j i0 j0:Int) (k0:Nat),Asc m n i j p→0≤i0→0≤j0→i0≤i→i - i0=j - j0→(0 < k0→i0 < i)→K4 k0 i0 j0 (O8 i j p m n) m n=true
 | [],i,j,i0,j0,k0,ha,h1,h2,h3,h4,h5=>by
  obtain ⟨a1,a2⟩:i≤m∧j≤n:=ha
  obtain ⟨m1,m2⟩:=hm
  obtain ⟨n1,n2⟩:=hn
  unfold O8
  split
  ·rename_i hc
   simp only [K4,K59,decide_eq_true_eq]
   refine ⟨?_,by omega⟩
   unfold G56 L9
   show ¬(((((((¬(0≤i∧i≤4096)∨¬(0≤m - i∧m - i≤4096))∨¬(0≤j∧j≤4096))∨¬(0≤n - j∧n - j≤4096))∨m - i+(n - j)=0)∨i - i0≠j - j0)∨i < i0)∨(0 < (k0:Int)∧i=i0))
   omega
  ·simp only [K4,decide_eq_true_eq];omega
 | x::r,i,j,i0,j0,k0,ha,h1,h2,h3,h4,h5=>by
  obtain ⟨a1,a2,a3⟩:=ha
  have hle:=a3.le
  unfold O8
  split
  ·rename_i hc
   simp only [K82,K78,K4,K59,decide_eq_true_eq]
   refine ⟨?_,?_⟩
   ·obtain ⟨m1,m2⟩:=hm
    obtain ⟨n1,n2⟩:=hn
    unfold G56 L9
    show ¬(((((((¬(0≤i∧i≤4096)∨¬(0≤x.From - i∧x.From - i≤4096))∨¬(0≤j∧j≤4096))∨¬(0≤x.To - j∧x.To - j≤4096))∨x.From - i+(x.To - j)=0)∨i - i0≠j - j0)∨i < i0)∨(0 < (k0:Int)∧i=i0))
    omega
   ·exact B91 hm hn r _ _ _ _ _ a3 (by omega) (by omega) (by omega) (by omega) (fun _=>by omega)
  ·rw [K78]
   exact B91 hm hn r _ _ _ _ _ a3 h1 h2 (by omega) (by omega) (fun h=>by omega)
def EqAt (X Y:List Str) (s:Span):Prop:=0≤s.From∧0≤s.To∧∃v,X[s.From.toNat]?=some v∧Y[s.To.toNat]?=some v
theorem H42 {X:List Str} {a b:Int} {v:Str} (h0:0≤a) (h1:a≤b) (hv:X[b.toNat]?=some v):sub X a (b+1)=sub X a b++[v]:=by
 rw [←B03 X h0 h1 (by omega:b≤b+1)]
 congr 1
 unfold sub
 obtain ⟨hl,e⟩:=List.getElem?_eq_some_iff.1 hv
 rw [K64 hl,e,show (b+1).toNat - b.toNat=1 by omega]
 rfl
theorem F84:∀(a b:List Int) (p q:Int),∀s∈H2 p q a b,p≤s.From∧q≤s.To∧∃v,a[(s.From - p).toNat]?=some v∧b[(s.To - q).toNat]?=some v:=by
 intro a
 induction a with
 | nil=>intro b p q s hs;simp [H2] at hs
 | cons x a iha =>
  intro b
  induction b with
  | nil=>intro p q s hs;simp [H2] at hs
  | cons y b ihb =>
   intro p q s hs
   unfold H2 at hs
   split at hs
   ·rename_i e
    rcases List.mem_cons.1 hs with rfl | hs
    ·exact ⟨Int.le_refl _,Int.le_refl _,x,by simp,by simp [e]⟩
    ·obtain ⟨h1,h2,v,h3,h4⟩:=iha b (p+1) (q+1) s hs
     refine ⟨by omega,by omega,v,?_,?_⟩
     ·rw [show (s.From - p).toNat=(s.From - (p+1)).toNat+1 by omega];simpa using h3
     ·rw [show (s.To - q).toNat=(s.To - (q+1)).toNat+1 by omega];simpa using h4
   ·split at hs
    ·obtain ⟨h1,h2,v,h3,h4⟩:=iha (y::b) (p+1) q s hs
     refine ⟨by omega,by omega,v,?_,h4⟩
     rw [show (s.From - p).toNat=(s.From - (p+1)).toNat+1 by omega];simpa using h3
    ·obtain ⟨h1,h2,v,h3,h4⟩:=ihb p (q+1) s hs
     refine ⟨by omega,by omega,v,h3,?_⟩
     rw [show (s.To - q).toNat=(s.To - (q+1)).toNat+1 by omega];simpa using h4
theorem F85:∀(ls:List PatchLine),ls.all C44=true→(ls.map szL).sum≤64*((G6 ls 43).length+(G6 ls 45).length)+((G6 ls 43).flatten.length+(G6 ls 45).flatten.length)
 | [],_=>by simp
 | q::ls,h=>by
  rw [List.all_cons,K59] at h
  have ih:=F85 ls h.2
  have hk:q.Kind=32∨q.Kind=45∨q.Kind=43:=by
   have hg:=h.1
   unfold C44 at hg
   have hg:=A0 hg
   by_cases h1:q.Kind=32
   ·exact .inl h1
   by_cases h2:q.Kind=45
   ·exact .inr (.inl h2)
   by_cases h3:q.Kind=43
   ·exact .inr (.inr h3)
   exact absurd (.inl ⟨⟨h1,h2⟩,h3⟩) hg
  have hd:∀k:UInt8,G6 (q::ls) k=if q.Kind≠k then q.Text::G6 ls k else G6 ls k:=by
   intro k
   unfold G6
   by_cases e:q.Kind=k
   ·rw [if_neg (by simpa using e),List.filter_cons_of_neg (by simpa using e)]
   ·rw [if_pos e,List.filter_cons_of_pos (by simpa using e)];rfl
  rw [hd 43,hd 45,K63,K85]
  have hz:szL q=q.Text.length+64:=rfl
  rcases hk with e | e | e<;>rw [e]<;>simp (decide:=true) only [if_true,if_false,ne_eq,not_true_eq_false,not_false_eq_true,K58,K72,K56]<;>omega
theorem C97:∀(hs:List PatchHunk) (i j:Int),D38 i j hs=true→szP hs≤128*((M3 hs 43).length+(M3 hs 45).length)+((M3 hs 43).flatten.length+(M3 hs 45).flatten.length)
 | [],_,_,_=>by simp [szP]
 | h :: hs,i,j,hg=>by
  simp only [D38,K59,decide_eq_true_eq] at hg
  obtain ⟨h1,h2,h3,h4⟩:=hg
  have ih:=C97 hs _ _ h4
  have hl:=F85 h.Lines h1
  have hne:1≤h.Lines.length:=by
   cases hq:h.Lines with
   | nil=>exact absurd (.inl (.inl (.inl (.inl (.inl (by rw [hq];rfl)))))) h2
   | cons a b=>simp
  have hcnt:h.Lines.length≤(G6 h.Lines 43).length+(G6 h.Lines 45).length:=by
   have:64*h.Lines.length≤(h.Lines.map szL).sum:=szL_len h.Lines
   have key:∀ls:List PatchLine,ls.length≤(G6 ls 43).length+(G6 ls 45).length:=by
    intro ls
    induction ls with
    | nil=>simp
    | cons q ls ih =>
     have hd:∀k:UInt8,(G6 (q::ls) k).length=if q.Kind≠k then (G6 ls k).length+1 else (G6 ls k).length:=by
      intro k
      unfold G6
      by_cases e:q.Kind=k
      ·rw [if_neg (by simpa using e),List.filter_cons_of_neg (by simpa using e)]
      ·rw [if_pos e,List.filter_cons_of_pos (by simpa using e)];simp
     rw [hd 43,hd 45,K58]
     by_cases e:q.Kind=43
     ·have e2:q.Kind≠45:=by rw [e];decide
      rw [if_pos e2];split<;>omega
     ·rw [if_pos e];split<;>omega
   exact key h.Lines
  have hsz:szP (h::hs)=szH h+szP hs:=by simp [szP]
  have hszh:szH h=64+(h.Lines.map szL).sum:=rfl
  have hs1:∀k,M3 (h::hs) k=G6 h.Lines k++M3 hs k:=by intro k;simp [M3]
  rw [hsz,hszh,hs1 43,hs1 45]
  simp only [K56,K86]
  omega
theorem D77:∀{s z:List Str},s.Sublist z→s.flatten.length≤z.flatten.length:=by
 intro s z hs
 induction hs with
 | slnil=>exact Nat.le_refl _
 | cons a _ ih=>simp only [K72,K56];omega
 | cons_cons a _ ih=>simp only [K72,K56];omega
theorem ScFit.size {x y:List Str} {l:List Change} (h:ScFit x y l) {ctx:Int} (hc:0≤ctx) (hx:∀s∈x,H8 s=true) (hy:∀s∈y,H8 s=true):szP (d6 l x y ctx)≤128*(x.length+y.length)+(x.flatten.length+y.flatten.length):=by
 obtain ⟨h1,h2,h3,_⟩:=h.hunks hc hx hy _ 0 (B02 l x.length ctx l.length) 0 0 0 rfl rfl (Int.le_refl _) hc (fun _=>rfl)
 have h4:=C97 _ _ _ h1
 have e:d6 l x y ctx=(X4 l x.length ctx l.length).map (X5 l x y):=rfl
 rw [←e] at h2 h3 h4
 have h2':(M3 (d6 l x y ctx) 43).Sublist x:=by simpa using h2
 have h3':(M3 (d6 l x y ctx) 45).Sublist y:=by simpa using h3
 have:=h2'.length_le
 have:=h3'.length_le
 have:=D77 h2'
 have:=D77 h3'
 omega
theorem B61 (s:Str):∀cur:Str,(F8 cur s).flatten=cur++s:=by
 induction s with
 | nil=>intro cur;unfold F8;split<;>simp [*]
 | cons c r ih=>intro cur;rw [W5];split<;>simp [ih]
theorem C45 (a:Str):(C1 a).flatten.length=a.length∧(C1 a).length≤a.length:=⟨by unfold C1;rw [B61];rfl,Y3 a⟩
theorem F41 {a:Str} (h:a.length≤4096):B89 a=(C1 a,0):=by
 have:=Y3 a
 unfold B89;rw [if_neg (by omega)]
end Go.AL
namespace Go.AL
open Go
end Go.AL
namespace Go.AL
open Go
abbrev C46:Int→Nat→Cell:=fun x _=>.v (.int .u16 x)
abbrev pU16s (l:List Int):PV:=.one (.list Int 1 C46 l)
theorem I26 (n:Int) (h:0≤n∧n < 65536):IntKind.u16.wrap n=n:=by
 simp [IntKind.wrap,IntKind.signed,IntKind.bits];omega
def flat (a b:List Int) (done:Nat→Nat→Bool):List Int :=
 (List.range ((a.length+1)*(b.length+1))).map fun p=>if done (p / (b.length+1)) (p % (b.length+1))=true then (dist (a.drop (p / (b.length+1))) (b.drop (p % (b.length+1))):Int) else 0
theorem D78 (a b:List Int) (done:Nat→Nat→Bool):(flat a b done).length=(a.length+1)*(b.length+1):=by simp [flat]
theorem E07 {a b:List Int} {i j:Nat} (hi:i≤a.length) (hj:j≤b.length):i*(b.length+1)+j < (a.length+1)*(b.length+1)∧(i*(b.length+1)+j) / (b.length+1)=i∧(i*(b.length+1)+j) % (b.length+1)=j:=by
 refine ⟨?_,?_,?_⟩
 ·have:(i+1)*(b.length+1)≤(a.length+1)*(b.length+1):=K71 _ (by omega)
  rw [K80,Nat.one_mul] at this;omega
 ·rw [Nat.mul_comm,Nat.mul_add_div (by omega),Nat.div_eq_of_lt (by omega),Nat.add_zero]
 ·rw [Nat.mul_comm,Nat.mul_add_mod,Nat.mod_eq_of_lt (by omega)]
theorem E74 {a b:List Int} {done:Nat→Nat→Bool} {i j:Nat} (hi:i≤a.length) (hj:j≤b.length):(flat a b done)[i*(b.length+1)+j]?=some (if done i j=true then (dist (a.drop i) (b.drop j):Int) else 0):=by
 obtain ⟨h1,h2,h3⟩:=E07 hi hj
 unfold flat
 rw [D35 _ _ _ h1,h2,h3]
theorem H43 {a b:List Int} {done done':Nat→Nat→Bool} {i j:Nat} {v:Int} (hi:i≤a.length) (hj:j≤b.length) (hv:v=(dist (a.drop i) (b.drop j):Int)) (hd:done' i j=true)
  (ho:∀r q,r≤a.length→q≤b.length→¬(r=i∧q=j)→done' r q=done r q):(flat a b done).set (i*(b.length+1)+j) v=flat a b done':=by
 obtain ⟨h1,h2,h3⟩:=E07 hi hj
 unfold flat
 refine D34 _ _ _ _ _ (fun _=>?_) (fun q hq hne=>?_)
 ·rw [h2,h3,if_pos hd,hv]
 ·have hW:0 < b.length+1:=by omega
  have e:=Nat.div_add_mod q (b.length+1)
  have hr:q / (b.length+1)≤a.length:=by
   have:=(Nat.div_lt_iff_lt_mul hW).2 hq
   omega
  have hm:=Nat.mod_lt q hW
  rw [ho _ _ hr (by omega) (fun ⟨e1,e2⟩=>hne (by rw [e1,e2,Nat.mul_comm] at e;exact e.symm))]
theorem J39 (a b:List Int):List.replicate ((a.length+1)*(b.length+1)) 0=flat a b (fun _ _=>false):=by
 unfold flat
 simp only [Bool.false_eq_true,if_false]
 rw [List.map_const',L07]
theorem B09 {a b:List Int} {done done':Nat→Nat→Bool} (h:∀r q,r≤a.length→q≤b.length→(done r q=done' r q∨dist (a.drop r) (b.drop q)=0)):flat a b done=flat a b done':=by
 unfold flat
 apply List.map_congr_left
 intro p hp
 have hp:=List.mem_range.1 hp
 have hW:0 < b.length+1:=by omega
 have hr:p / (b.length+1)≤a.length:=by have:=(Nat.div_lt_iff_lt_mul hW).2 hp;omega
 have hm:=Nat.mod_lt p hW
 rcases h (p / (b.length+1)) (p % (b.length+1)) hr (by omega) with e | e
 ·rw [e]
 ·rw [e];simp
def V1:List Int→List Int→Nat
 | x::a,y::b=>if x=y then V1 a b+1 else 0
 | _,_=>0
theorem H44:∀(a b:List Int),V1 a b≤a.length∧V1 a b≤b.length
 | [],_=>by simp [V1]
 | _::_,[]=>by simp [V1]
 | x::a,y::b=>by
  have:=H44 a b
  unfold V1
  simp only [K58]
  split<;>omega
theorem E75 (a b:List Int) (k:Nat) (hk:k < a.length) (hk':k < b.length):V1 (a.drop k) (b.drop k)=if a[k]=b[k] then V1 (a.drop (k+1)) (b.drop (k+1))+1 else 0:=by
 rw [K64 hk,K64 hk'];rfl
theorem J40 (a b:List Int) (k:Nat) (h:¬(k < a.length∧k < b.length)):V1 (a.drop k) (b.drop k)=0:=by
 by_cases h1:k < a.length
 ·rw [K66 (as:=b) (by omega)]
  cases a.drop k<;>rfl
 ·rw [K66 (as:=a) (by omega)];rfl
theorem E76:∀(a b:List Int) (p q:Int),H2 p q a b=P7 p q (V1 a b)++H2 (p+V1 a b) (q+V1 a b) (a.drop (V1 a b)) (b.drop (V1 a b))
 | [],b,p,q=>by simp [V1,A98]
 | x::a,[],p,q=>by simp [V1,A98]
 | x::a,y::b,p,q=>by
  unfold V1
  by_cases h:x=y
  ·rw [if_pos h]
   conv=>lhs;unfold H2
   rw [if_pos h,E76 a b (p+1) (q+1),A97]
   simp only [List.drop_succ_cons,K82]
   rw [show p+1+(V1 a b:Int)=p+((V1 a b+1:Nat):Int) by omega,show q+1+(V1 a b:Int)=q+((V1 a b+1:Nat):Int) by omega]
  ·rw [if_neg h]
   simp [A98]
end Go.AL
namespace Go.AL
open Go
def b8 (l:List Merged) (bit:Int) (a b:Nat):List Merged:=((l.drop a).take (b - a)).map fun y=>⟨y.Line,K9 y.Parents bit⟩
def C98 (list:List Int) (bit:Int) (a n:Nat):List Merged:=((list.drop a).take n).map fun v=>⟨v,bit⟩
def p7 (l:List Merged) (list:List Int) (bit:Int) (k:Nat):List Change→List Merged
 | []=>b8 l bit k l.length
 | c::r=>b8 l bit k c.Old.toNat++(l.drop c.Old.toNat).take c.OldLen.toNat++C98 list bit c.New.toNat c.NewLen.toNat++p7 l list bit (c.Old.toNat+c.OldLen.toNat) r
theorem I27 {α:Type} (l:List α) {a b c:Nat} (h1:a≤b) (h2:b≤c):(l.drop a).take (c - a)=(l.drop a).take (b - a)++(l.drop b).take (c - b):=by
 have h:=List.take_add (l:=l.drop a) (i:=b - a) (j:=c - b)
 rw [List.drop_drop,show b - a+(c - b)=c - a by omega,show a+(b - a)=b by omega] at h
 exact h
theorem D79 (l:List Merged) (bit:Int) {a b c:Nat} (h1:a≤b) (h2:b≤c):b8 l bit a c=b8 l bit a b++b8 l bit b c:=by
 unfold b8;rw [I27 l h1 h2,K73]
theorem D41 (l:List Merged) (bit:Int) (a:Nat):b8 l bit a a=[]:=by unfold b8;simp
theorem D42 (l:List Merged) (bit:Int) {a:Nat} (h:a < l.length):b8 l bit a (a+1)=(l[a]?.map fun y=>(⟨y.Line,K9 y.Parents bit⟩:Merged)).toList:=by
 unfold b8
 rw [show a+1 - a=1 by omega,K57 h,K64 h]
 rfl
theorem E77 (l:List Merged) (list:List Int) (bit:Int):∀(ps:List Span) (k i j:Nat),k≤i→Asc l.length list.length i j ps →
  p7 l list bit k (O8 i j ps l.length list.length)=b8 l bit k i++Y4 l list bit i j ps
 | [],k,i,j,hk,ha=>by
  have h1:(i:Int)≤l.length∧(j:Int)≤list.length:=ha
  unfold O8 Y4
  by_cases h:(l.length:Int) > i∨(list.length:Int) > j
  ·rw [if_pos h]
   simp only [p7]
   rw [show (i:Int).toNat+((l.length:Int) - i).toNat=l.length by omega,D41,K81,K62,K62,show ((l.length:Int) - i).toNat=l.length - i by omega,show ((list.length:Int) - j).toNat=list.length - j by omega,K68]
   rfl
  ·rw [if_neg h]
   have e1:i=l.length:=by omega
   have e2:j=list.length:=by omega
   rw [e1,e2]
   simp [p7]
 | x::r,k,i,j,hk,ha=>by
  obtain ⟨h1,h2,h3⟩:=ha
  have h4:=h3.le
  have e1:((x.From.toNat+1:Nat):Int)=x.From+1:=by omega
  have e2:((x.To.toNat+1:Nat):Int)=x.To+1:=by omega
  have ih:=fun k (hk:k≤x.From.toNat+1)=>E77 l list bit r k (x.From.toNat+1) (x.To.toNat+1) hk (by rw [e1,e2];exact h3)
  rw [e1,e2] at ih
  have hlt:x.From.toNat < l.length:=by omega
  unfold O8 Y4
  by_cases h:x.From > i∨x.To > j
  ·rw [if_pos h,List.singleton_append,p7]
   dsimp only
   rw [show (i:Int).toNat+(x.From - i).toNat=x.From.toNat by omega,ih _ (by omega),D42 l bit hlt,K62,K62,show (x.From - (i:Int)).toNat=x.From.toNat - i by omega,show (x.To - (j:Int)).toNat=x.To.toNat - j by omega]
   unfold C98
   simp only [K68]
  ·rw [if_neg h,K78]
   have e3:x.From.toNat=i:=by omega
   have e4:x.To.toNat=j:=by omega
   rw [ih k (by omega),D79 l bit hk (show i≤x.From.toNat+1 by omega),e3,e4,D42 l bit (by omega)]
   simp
theorem J97 (l:List Merged) (list:List Int) (bit:Int):p7 l list bit 0 (N5 (H6 l) list)=Y4 l list bit 0 0 (H2 0 0 (H6 l) list):=by
 have hasc:=V5 (H6 l) list 0 0
 rw [Int.zero_add,Int.zero_add,show (H6 l).length=l.length by simp [H6]] at hasc
 have:=E77 l list bit (H2 0 0 (H6 l) list) 0 0 0 (Nat.le_refl _) hasc
 rw [D41,K78] at this
 unfold N5 A96
 rw [show (H6 l).length=l.length by simp [H6]]
 exact this
def M8 (p:Int) (ms:List Int) (c:Change):List Int:=ms.mapIdx fun k m=>if c.New.toNat≤k∧k < c.New.toNat+c.NewLen.toNat then K9 m (J1 p) else m
theorem x7 (p:Int) (ms:List Int) (c:Change):(M8 p ms c).length=ms.length:=by simp [M8]
theorem A33 (p:Int) (ms:List Int) (c:Change) (k:Nat):(M8 p ms c)[k]?=ms[k]?.map fun m=>if c.New.toNat≤k∧k < c.New.toNat+c.NewLen.toNat then K9 m (J1 p) else m:=by
 unfold M8;rw [List.getElem?_mapIdx]
def R0 (cs:List Change) (k:Nat):Bool:=cs.any fun c=>decide (c.New.toNat≤k∧k < c.New.toNat+c.NewLen.toNat)
def B62 (ps:List Span) (k:Nat):Bool:=ps.any fun x=>decide (x.To.toNat=k)
theorem or_or (m b:Int):K9 (K9 m b) b=K9 m b:=by
 unfold K9
 have h:BitVec.ofInt IntKind.u32.bits (IntKind.u32.wrap ((BitVec.ofInt IntKind.u32.bits m ||| BitVec.ofInt IntKind.u32.bits b).toNat:Int))=BitVec.ofInt IntKind.u32.bits m ||| BitVec.ofInt IntKind.u32.bits b:=by
  rw [show IntKind.u32.wrap ((BitVec.ofInt IntKind.u32.bits m ||| BitVec.ofInt IntKind.u32.bits b).toNat:Int)=((BitVec.ofInt IntKind.u32.bits m ||| BitVec.ofInt IntKind.u32.bits b).toNat:Int) from A15 _ (by
   have:=(BitVec.ofInt IntKind.u32.bits m ||| BitVec.ofInt IntKind.u32.bits b).isLt
   exact this)]
  rw [BitVec.ofInt_natCast,BitVec.ofNat_toNat,BitVec.setWidth_eq]
 rw [h,BitVec.or_assoc,BitVec.or_self]
theorem E78 (p:Int):∀(cs:List Change) (ms:List Int) (k:Nat),(cs.foldl (M8 p) ms)[k]?=ms[k]?.map fun m=>if R0 cs k=true then K9 m (J1 p) else m
 | [],ms,k=>by simp [R0]
 | c::r,ms,k=>by
  rw [K89,E78 p r,A33,Option.map_map]
  congr 1
  funext m
  show (if R0 r k=true then K9 (if c.New.toNat≤k∧k < c.New.toNat+c.NewLen.toNat then K9 m (J1 p) else m) (J1 p) else if c.New.toNat≤k∧k < c.New.toNat+c.NewLen.toNat then K9 m (J1 p) else m)=if R0 (c::r) k=true then K9 m (J1 p) else m
  have e:R0 (c::r) k=(decide (c.New.toNat≤k∧k < c.New.toNat+c.NewLen.toNat)||R0 r k):=rfl
  rw [e]
  by_cases h1:c.New.toNat≤k∧k < c.New.toNat+c.NewLen.toNat
  ·rw [if_pos h1,decide_eq_true h1,Bool.true_or,if_pos rfl]
   cases R0 r k
   ·rw [if_neg (by decide)]
   ·rw [if_pos rfl,or_or]
  ·rw [if_neg h1,decide_eq_false h1,Bool.false_or]
theorem clr_clr (m b:Int):p6 (p6 m b) b=p6 m b:=by
 unfold p6
 have h:BitVec.ofInt IntKind.u32.bits (IntKind.u32.wrap ((BitVec.ofInt IntKind.u32.bits m &&& ~~~BitVec.ofInt IntKind.u32.bits b).toNat:Int))=BitVec.ofInt IntKind.u32.bits m &&& ~~~BitVec.ofInt IntKind.u32.bits b:=by
  rw [show IntKind.u32.wrap ((BitVec.ofInt IntKind.u32.bits m &&& ~~~BitVec.ofInt IntKind.u32.bits b).toNat:Int)=((BitVec.ofInt IntKind.u32.bits m &&& ~~~BitVec.ofInt IntKind.u32.bits b).toNat:Int) from A15 _ (by
   have:=(BitVec.ofInt IntKind.u32.bits m &&& ~~~BitVec.ofInt IntKind.u32.bits b).isLt
   exact this)]
  rw [BitVec.ofInt_natCast,BitVec.ofNat_toNat,BitVec.setWidth_eq]
 rw [h,BitVec.and_assoc,BitVec.and_self]
theorem F86 (p:Int):∀(ps:List Span) (ms:List Int) (k:Nat),(∀x∈ps,x.To.toNat < ms.length)→(ps.foldl (W1 p) ms)[k]?=ms[k]?.map fun m=>if B62 ps k=true then p6 m (J1 p) else m
 | [],ms,k,_=>by simp [B62]
 | x::r,ms,k,hp=>by
  have hx:=hp x (by simp)
  have hlen:(W1 p ms x).length=ms.length:=by simp [W1]
  rw [K89,F86 p r _ k (fun y hy=>by rw [hlen];exact hp y (by simp [hy]))]
  have hget:(W1 p ms x)[k]?=ms[k]?.map fun m=>if x.To.toNat=k then p6 m (J1 p) else m:=by
   unfold W1
   rw [List.getElem?_set]
   by_cases h:x.To.toNat=k
   ·subst h
    rw [if_pos rfl,if_pos hx,K57 hx,K60,K57 hx]
    simp
   ·rw [if_neg h];simp [h]
  rw [hget,Option.map_map]
  congr 1
  funext m
  show (if B62 r k=true then p6 (if x.To.toNat=k then p6 m (J1 p) else m) (J1 p) else if x.To.toNat=k then p6 m (J1 p) else m)=if B62 (x::r) k=true then p6 m (J1 p) else m
  have e:B62 (x::r) k=(decide (x.To.toNat=k)||B62 r k):=rfl
  rw [e]
  by_cases h1:x.To.toNat=k
  ·rw [if_pos h1,decide_eq_true h1,Bool.true_or,if_pos rfl]
   cases B62 r k
   ·rw [if_neg (by decide)]
   ·rw [if_pos rfl,clr_clr]
  ·rw [if_neg h1,decide_eq_false h1,Bool.false_or]
theorem clr_or (m:Nat) (p:Nat) (hp:p < 32) (hm:m < 2 ^ p):p6 (K9 m (J1 p)) (J1 p)=m:=by
 have h2:2 ^ p < 2 ^ 32:=Nat.pow_lt_pow_right (by decide) hp
 have hb:J1 (p:Int)=((2 ^ p:Nat):Int):=by
  unfold J1
  rw [I22 (n:=(p:Int)) (by omega),show min ((p:Int)).toNat IntKind.u32.bits=p by rw [K62];exact Nat.min_eq_left (by show p≤32;omega),Int.one_mul]
  rw [show (2:Int) ^ p=((2 ^ p:Nat):Int) by simp]
  exact A15 _ (by omega)
 rw [hb]
 obtain ⟨h3,h4⟩:=A32 m (2 ^ p) (by omega) (by omega)
 rw [h3]
 unfold p6
 have e1:BitVec.ofInt IntKind.u32.bits (((m ||| 2 ^ p:Nat)):Int)=BitVec.ofNat 32 (m ||| 2 ^ p):=by simp [BitVec.ofInt_natCast];rfl
 have e2:BitVec.ofInt IntKind.u32.bits ((2 ^ p:Nat):Int)=BitVec.ofNat 32 (2 ^ p):=by rw [BitVec.ofInt_natCast];rfl
 rw [e1,e2]
 have h5:(BitVec.ofNat 32 (m ||| 2 ^ p) &&& ~~~BitVec.ofNat 32 (2 ^ p))=BitVec.ofNat 32 m:=by
  apply BitVec.eq_of_getLsbD_eq
  intro i hi
  simp only [BitVec.getLsbD_and,BitVec.getLsbD_not,BitVec.getLsbD_ofNat,hi,decide_true,Bool.true_and,Nat.testBit_or,Nat.testBit_two_pow]
  by_cases hip:p=i
  ·subst hip
   simp [Nat.testBit_lt_two_pow hm]
  ·simp [hip]
 have h6:(BitVec.ofNat 32 m).toNat=m:=by rw [BitVec.toNat_ofNat];exact Nat.mod_eq_of_lt (by omega)
 have h7:((BitVec.ofNat 32 (m ||| 2 ^ p) &&& ~~~BitVec.ofNat 32 (2 ^ p)).toNat:Int)=m:=by rw [h5,h6]
 exact (congrArg IntKind.u32.wrap h7).trans (A15 _ (by omega))
end Go.AL
namespace Go.AL
open Go
theorem H45 (a b:List Span) (k:Nat):B62 (a++b) k=(B62 a k||B62 b k):=by unfold B62;rw [List.any_append]
theorem C99 (i j:Int) (t:Nat) (k:Nat) (hj:0≤j):B62 (P7 i j t) k=decide (j≤k∧(k:Int) < j+t):=by
 unfold B62 P7
 rw [List.any_map,Bool.eq_iff_iff,List.any_eq_true,decide_eq_true_eq]
 constructor
 ·rintro ⟨s,hs,h⟩
  have h1:=List.mem_range.1 hs
  have h2:(j+(s:Int)).toNat=k:=A0 h
  omega
 ·rintro ⟨h1,h2⟩
  refine ⟨((k:Int) - j).toNat,List.mem_range.2 (by omega),?_⟩
  show decide ((j+((((k:Int) - j).toNat:Nat):Int)).toNat=k)=true
  exact decide_eq_true (by omega)
theorem E79 (c:Change) (r:List Change) (k:Nat):R0 (c::r) k=(decide (c.New.toNat≤k∧k < c.New.toNat+c.NewLen.toNat)||R0 r k):=rfl
theorem F87:∀(cs:List Change) (k0:Nat) (i j m n:Int),K4 k0 i j cs m n=true→0≤i→0≤j →
  (∀k:Nat,(k:Int) < j→B62 (K8 i j cs m) k=false∧R0 cs k=false)∧∀k:Nat,j≤k→(k:Int) < n→B62 (K8 i j cs m) k=!R0 cs k
 | [],k0,i,j,m,n,h,h1,h2=>by
  simp only [K4,decide_eq_true_eq] at h
  unfold K8
  refine ⟨fun k hk=>⟨?_,rfl⟩,fun k hk hk2=>?_⟩
  ·rw [C99 _ _ _ _ h2];exact decide_eq_false (by omega)
  ·rw [C99 _ _ _ _ h2]
   show _=true
   exact decide_eq_true (by omega)
 | c :: r,k0,i,j,m,n,h,h1,h2=>by
  simp only [K4,K59,decide_eq_true_eq] at h
  obtain ⟨hb,hr⟩:=h
  have hc:(0≤c.OldLen∧0≤c.NewLen∧i≤c.Old∧c.Old - i=c.New - j):=by
   unfold G56 L9 at hb
   by_cases a2:(0≤c.OldLen∧c.OldLen≤4096)<;>by_cases a4:(0≤c.NewLen∧c.NewLen≤4096)<;>simp [a2,a4] at hb ⊢<;>omega
  obtain ⟨c1,c2,c3,c4⟩:=hc
  obtain ⟨i1,i2⟩:=F87 r (k0+1) (c.Old+c.OldLen) (c.New+c.NewLen) m n hr (by omega) (by omega)
  unfold K8
  rw [show max i c.Old=c.Old by omega,show j+((c.Old - i).toNat:Int)+c.NewLen=c.New+c.NewLen by omega]
  refine ⟨fun k hk=>?_,fun k hk hk2=>?_⟩
  ·obtain ⟨q1,q2⟩:=i1 k (by omega)
   rw [H45,C99 _ _ _ _ h2,E79,q1,q2,decide_eq_false (by omega),decide_eq_false (by omega)]
   exact ⟨rfl,rfl⟩
  ·rw [H45,C99 _ _ _ _ h2,E79]
   by_cases g1:(k:Int) < c.New
   ·obtain ⟨q1,q2⟩:=i1 k (by omega)
    rw [q1,q2,decide_eq_true (by omega),decide_eq_false (by omega)];rfl
   ·rw [decide_eq_false (by omega),Bool.false_or]
    by_cases g2:(k:Int) < c.New+c.NewLen
    ·obtain ⟨q1,q2⟩:=i1 k g2
     rw [q1,decide_eq_true (by omega)];rfl
    ·rw [i2 k (by omega) hk2,decide_eq_false (by omega),Bool.false_or]
theorem I79 {m n:Int}:∀{p:List Span} {i j:Int},Asc m n i j p→∀x∈p,i≤x.From∧x.From < m∧j≤x.To∧x.To < n
 | x::r,i,j,h,y,hy=>by
  obtain ⟨h1,h2,h3⟩:=h
  have h4:=h3.le
  rcases List.mem_cons.1 hy with rfl | hy
  ·omega
  ·have:=I79 h3 y hy;omega
def y9 (ids:List (List Int)) (s:Loom) (p:Nat):Loom :=
 let file:=ids.getD (p+1) []
 let sc:=N5 file (ids.getD 0 [])
 (sc.foldl (M8 p) s.1,sc.foldl (O9 p file) s.2)
def x1 (ids:List (List Int)) (lines n p:Nat):Loom:=(List.range p).foldl (y9 ids) (E64 lines n)
theorem B63 (ids:List (List Int)) (lines n p:Nat):x1 ids lines n (p+1)=y9 ids (x1 ids lines n p) p:=by
 unfold x1;rw [K98,L00];rfl
def LowM (p:Nat) (ms:List Int):Prop:=∀v∈ms,0≤v∧v < ((2 ^ p:Nat):Int)
theorem B92 {p:Nat} (hp:p < 32):J1 (p:Int)=((2 ^ p:Nat):Int):=by
 have h2:2 ^ p < 2 ^ 32:=Nat.pow_lt_pow_right (by decide) hp
 unfold J1
 rw [I22 (n:=(p:Int)) (by omega),show min ((p:Int)).toNat IntKind.u32.bits=p by rw [K62];exact Nat.min_eq_left (by show p≤32;omega),Int.one_mul]
 rw [show (2:Int) ^ p=((2 ^ p:Nat):Int) by simp]
 exact A15 _ (by omega)
theorem or_low {m:Int} {p:Nat} (hp:p < 32) (h:0≤m∧m < ((2 ^ p:Nat):Int)):0≤K9 m (J1 p)∧K9 m (J1 p) < ((2 ^ (p+1):Nat):Int):=by
 have h2:2 ^ p < 2 ^ 32:=Nat.pow_lt_pow_right (by decide) hp
 obtain ⟨q,rfl⟩:∃q:Nat,m=q:=⟨m.toNat,by omega⟩
 have hq:q < 2 ^ p:=by omega
 rw [B92 hp]
 obtain ⟨h3,_⟩:=A32 q (2 ^ p) (by omega) (by omega)
 rw [h3]
 have h4:q ||| 2 ^ p < 2 ^ (p+1):=Nat.or_lt_two_pow (by rw [Nat.pow_succ];omega) (by rw [Nat.pow_succ];omega)
 omega
theorem J41 {ids:List (List Int)} {s:Loom} {p:Nat} {file base:List Int} (hf:file=ids.getD (p+1) []) (hb:base=ids.getD 0 []) (hp:p < 32) (hlow:LowM p s.1) (hlen:s.1.length=base.length) (hfl:file.length≤4096) (hbl:base.length≤4096) :
  y9 ids s p=i7 ids s p∧LowM (p+1) (y9 ids s p).1∧(y9 ids s p).1.length=base.length:=by
 have hasc:=V5 file base 0 0
 rw [Int.zero_add,Int.zero_add] at hasc
 have hsc:=B91 (m:=file.length) (n:=base.length) ⟨by omega,by omega⟩ ⟨by omega,by omega⟩ (H2 0 0 file base) 0 0 0 0 0 hasc (by omega) (by omega) (by omega) (by omega) (by omega)
 obtain ⟨_,hm⟩:=F87 _ 0 0 0 file.length base.length hsc (by omega) (by omega)
 have hmade:=G47 file base
 obtain ⟨sc,hscd⟩:∃sc,sc=N5 file base:=⟨_,rfl⟩
 have hsc2:O8 0 0 (H2 0 0 file base) file.length base.length=sc:=by rw [hscd];rfl
 rw [hsc2] at hm
 have e1:y9 ids s p=(sc.foldl (M8 p) s.1,sc.foldl (O9 p file) s.2):=by rw [hscd,hf,hb];rfl
 have e2:i7 ids s p=((j8 sc file.length).foldl (W1 p) (s.1.map (K9 · (J1 p))),sc.foldl (O9 p file) s.2):=by rw [hscd,hf,hb];rfl
 have hget:=E78 p sc s.1
 have hlen1:(sc.foldl (M8 p) s.1).length=s.1.length:=by
  have key:∀(cs:List Change) (ms:List Int),(cs.foldl (M8 p) ms).length=ms.length:=by
   intro cs
   induction cs with
   | nil=>intro ms;rfl
   | cons c r ih=>intro ms;rw [K89,ih,x7]
  exact key sc s.1
 refine ⟨?_,?_,by rw [e1];dsimp only;rw [hlen1,hlen]⟩
 ·rw [e1,e2,Prod.mk.injEq]
  refine ⟨?_,rfl⟩
  refine List.ext_getElem? fun k=>?_
  have hto:∀x∈j8 sc file.length,x.To.toNat < (s.1.map (K9 · (J1 p))).length:=by
   intro x hx
   rw [K84,hlen]
   rw [hscd,hmade] at hx
   have:=I79 hasc x hx
   omega
  rw [hget,F86 p _ _ k hto,K88,Option.map_map]
  cases hk:s.1[k]? with
  | none=>rfl
  | some v =>
   have hkl:k < base.length:=by have:=(List.getElem?_eq_some_iff.1 hk).1;omega
   have h3:=hm k (by omega) (by omega)
   have hv:=hlow v (K75 hk)
   show some (if R0 sc k=true then K9 v (J1 p) else v)=some (if B62 (j8 sc file.length) k=true then p6 (K9 v (J1 p)) (J1 p) else K9 v (J1 p))
   have h3:B62 (j8 sc file.length) k=!R0 sc k:=h3
   rw [h3]
   cases R0 sc k
   ·obtain ⟨q,rfl⟩:∃q:Nat,v=q:=⟨v.toNat,by omega⟩
    rw [if_neg (by decide),if_pos (show (!false)=true from rfl),clr_or q p hp (by omega)]
   ·rw [if_pos rfl,if_neg (by decide)]
 ·rw [e1]
  intro v hv
  obtain ⟨k,hk,rfl⟩:=List.mem_iff_getElem.1 hv
  have hkl:k < s.1.length:=by rw [←hlen1];exact hk
  have h4:=hget k
  rw [K57 hk,K57 hkl] at h4
  have h4:(sc.foldl (M8 p) s.1)[k]=if R0 sc k=true then K9 s.1[k] (J1 p) else s.1[k]:=Option.some.inj h4
  show 0≤(sc.foldl (M8 p) s.1)[k]∧(sc.foldl (M8 p) s.1)[k] < _
  rw [h4]
  have hv:=hlow s.1[k] (K76 hkl)
  split
  ·exact or_low hp hv
  ·have:2 ^ p≤2 ^ (p+1):=Nat.pow_le_pow_right (by decide) (by omega)
   omega
theorem B93 {ids:List (List Int)} {base:List Int} {n:Nat} (hb:base=ids.getD 0 []) (hl:∀x∈ids,x.length≤4096) (hbl:base.length≤4096):∀p,p≤32→x1 ids base.length n p=X1 ids base.length n p∧LowM p (x1 ids base.length n p).1∧(x1 ids base.length n p).1.length=base.length
 | 0,_=>by
  refine ⟨rfl,fun v hv=>?_,by simp [x1,E64]⟩
  have:=List.eq_of_mem_replicate (show v∈List.replicate base.length 0 from hv)
  subst this;decide
 | p+1,hp=>by
  obtain ⟨h1,h2,h3⟩:=B93 (n:=n) hb hl hbl p (by omega)
  have hfl:(ids.getD (p+1) []).length≤4096:=by
   rw [K60]
   cases hx:ids[p+1]? with
   | none=>simp
   | some x=>exact hl x (K75 hx)
  obtain ⟨s1,s2,s3⟩:=J41 (ids:=ids) (s:=x1 ids base.length n p) (p:=p) rfl hb (by omega) h2 h3 hfl hbl
  rw [B63,B51,s1,h1]
  rw [s1,h1] at s2 s3
  exact ⟨rfl,s2,s3⟩
theorem H46 (p:Int) (ms:List Int) (a b d:Int):M8 p ms ⟨a,b,d,0⟩=ms:=by
 refine List.ext_getElem? fun k=>?_
 rw [A33]
 cases h:ms[k]? with
 | none=>rfl
 | some v=>simp only [Option.map_some];rw [if_neg (by omega)]
theorem H47 (p:Int) (ms:List Int) (a b:Int) (d t:Nat) (h:d+t < ms.length):(M8 p ms ⟨a,b,d,t⟩)[d+t]?=some (ms.getD (d+t) 0)∧(M8 p ms ⟨a,b,d,t⟩).set (d+t) (K9 (ms.getD (d+t) 0) (J1 p))=M8 p ms ⟨a,b,d,((t+1:Nat):Int)⟩:=by
 have hg:ms[d+t]?=some (ms.getD (d+t) 0):=by rw [K60,K57 h];rfl
 refine ⟨?_,?_⟩
 ·rw [A33,hg]
  simp only [Option.map_some,K62]
  rw [if_neg (by omega)]
 ·refine List.ext_getElem? fun k=>?_
  rw [List.getElem?_set,A33,A33,x7]
  simp only [K62]
  by_cases hk:d+t=k
  ·subst hk
   rw [if_pos rfl,if_pos h,hg]
   simp only [Option.map_some]
   rw [if_pos (by omega)]
  ·rw [if_neg hk]
   cases ms[k]? with
   | none=>rfl
   | some v =>
    simp only [Option.map_some]
    by_cases g:d≤k∧k < d+t
    ·rw [if_pos g,if_pos (by omega)]
    ·rw [if_neg g,if_neg (by omega)]
end Go.AL
namespace Go.AL
open Go
def GrX (l:List Change) (m ctx:Int):Nat→List Hunk→Nat→Prop
 | a,[],k=>a=k
 | a,h::r,k=>∃b,a < b∧opens l ctx a∧(∀c,a < c→c < b→¬opens l ctx c)∧h=mkH l m ctx a b∧GrX l m ctx b r k
theorem GrX.le {l:List Change} {m ctx:Int}:∀{hs:List Hunk} {a k:Nat},GrX l m ctx a hs k→a≤k
 | [],a,k,h=>Nat.le_of_eq h
 | _::_,a,k,⟨b,h1,_,_,_,h2⟩=>by have:=GrX.le h2;omega
theorem GrX.snoc {l:List Change} {m ctx:Int} {k n:Nat} (ho:opens l ctx k) (hk:k < n) (hno:∀c,k < c→c < n→¬opens l ctx c):∀{hs:List Hunk} {a:Nat},GrX l m ctx a hs k→GrX l m ctx a (hs++[mkH l m ctx k n]) n
 | [],a,h=>by
  obtain rfl:a=k:=h
  exact ⟨n,hk,ho,hno,rfl,rfl⟩
 | _::_,a,⟨b,h1,h2,h3,h4,h5⟩=>⟨b,h1,h2,h3,h4,GrX.snoc ho hk hno h5⟩
theorem GrX.last {l:List Change} {m ctx:Int} {k:Nat} (hno:¬opens l ctx k):∀{hs:List Hunk} {a:Nat},GrX l m ctx a hs k→hs≠[]→GrX l m ctx a (hs.set (hs.length - 1) (C93 l m ctx k (hs.getD (hs.length - 1) I74))) (k+1)
 | [],_,_,h0=>absurd rfl h0
 | [h],a,⟨b,h1,h2,h3,h4,h5⟩,_=>by
  obtain rfl:b=k:=h5
  subst h4
  refine ⟨b+1,by omega,h2,fun c hc1 hc2=>?_,rfl,rfl⟩
  by_cases hcb:c=b
  ·rw [hcb];exact hno
  ·exact h3 c hc1 (by omega)
 | h::h'::r,a,⟨b,h1,h2,h3,h4,h5⟩,_=>by
  have ih:=GrX.last hno h5 (by simp)
  refine ⟨b,h1,h2,h3,h4,?_⟩
  simpa using ih
theorem GrX.len {l:List Change} {m ctx:Int}:∀{hs:List Hunk} {a k:Nat},GrX l m ctx a hs k→hs.length≤k - a
 | [],_,_,_=>Nat.zero_le _
 | _::_,a,k,⟨b,h1,_,_,_,h2⟩=>by have:=GrX.len h2;have:=h2.le;simp only [K58];omega
end Go.AL
namespace Go.AL
open Go
def A16:List Str→Int→List (Str × Cell)
 | [],_=>[]
 | s::r,i=>(s,.v (.int .i64 i))::A16 r (i+1)
theorem F88 (s:Str):∀(l:List Str) (i:Int),A16 (l++[s]) i=A16 l i++[(s,.v (.int .i64 (i+l.length)))]
 | [],i=>by simp [A16]
 | x::r,i=>by
  simp only [K82,A16,F88 s r,K58]
  rw [show i+1+(r.length:Int)=i+((r.length+1:Nat):Int) by omega]
theorem F89 (s:Str):∀(l:List Str) (i:Int),s∈l→A01 (A16 l i) s=some (.v (.int .i64 (I5 l s i)))
 | [],_,h=>by simp at h
 | x::r,i,h=>by
  simp only [A16,A01,I5]
  by_cases he:x=s
  ·rw [if_pos he,if_pos he]
  ·rw [if_neg he,if_neg he]
   exact F89 s r (i+1) ((List.mem_cons.1 h).resolve_left (fun q=>he q.symm))
theorem E80 (s:Str):∀(l:List Str) (i:Int),s∉l→A01 (A16 l i) s=none
 | [],_,_=>rfl
 | x::r,i,h=>by
  simp only [A16,A01]
  rw [if_neg (fun q=>h (by simp [q]))]
  exact E80 s r (i+1) (fun q=>h (by simp [q]))
theorem B64 (s:Str) (r:List Str):∀(l:List Str) (i:Int),s∈l→I5 (l++r) s i=I5 l s i
 | [],_,h=>by simp at h
 | x::l,i,h=>by
  simp only [K82,I5]
  by_cases he:x=s
  ·rw [if_pos he,if_pos he]
  ·rw [if_neg he,if_neg he]
   exact B64 s r l (i+1) ((List.mem_cons.1 h).resolve_left (fun q=>he q.symm))
theorem D80 (s:Str):∀(l:List Str) (i:Int),s∉l→I5 (l++[s]) s i=i+l.length
 | [],i,_=>by simp [I5]
 | x::l,i,h=>by
  simp only [K82,I5,K58]
  rw [if_neg (fun q=>h (by simp [q])),D80 s l (i+1) (fun q=>h (by simp [q]))]
  omega
theorem D00:∀(l out:List Str),∃r,l.foldl K7 out=out++r
 | [],out=>⟨[],by simp⟩
 | s::l,out=>by
  obtain ⟨r,hr⟩:=D00 l (K7 out s)
  rw [K89,hr]
  unfold K7
  split
  ·exact ⟨r,rfl⟩
  ·exact ⟨s::r,by simp⟩
def M4 (files:List (List Str)) (k j:Nat):List Str:=((files.take k).flatten++(files.getD k []).take j).foldl K7 []
theorem H48 (files:List (List Str)) (k:Nat):M4 files (k+1) 0=M4 files k (files.getD k []).length:=by
 unfold M4
 rw [List.take_zero,K81,K87]
 by_cases h:k < files.length
 ·rw [p5 files k h]
  congr 2
  simp [h]
 ·rw [K92 (by omega),K92 (by omega)]
  have:files.getD k []=[]:=by simp [show files.length≤k by omega]
  rw [this,K81]
theorem G62 (files:List (List Str)) (k j:Nat) (s:Str) (h:(files.getD k [])[j]?=some s):M4 files k (j+1)=K7 (M4 files k j) s:=by
 unfold M4
 have hj:j < (files.getD k []).length:=(List.getElem?_eq_some_iff.1 h).1
 have he:=(List.getElem?_eq_some_iff.1 h).2
 rw [K67 hj,he,←K68,L00]
 rfl
theorem H49 (files:List (List Str)):M4 files files.length 0=I6 files:=by
 unfold M4 I6
 rw [K87];simp
theorem D81 (files:List (List Str)) (k j:Nat):∃r,I6 files=M4 files k j++r:=by
 have h:∃m,files.flatten=((files.take k).flatten++(files.getD k []).take j)++m:=by
  refine ⟨(files.getD k []).drop j++(files.drop (k+1)).flatten,?_⟩
  by_cases hk:k < files.length
  ·have e:files=files.take k++files.getD k []::files.drop (k+1):=by
    have:files.getD k []=files[k]:=by simp [hk]
    rw [this,List.getElem_cons_drop,K95]
   conv=>lhs;rw [e]
   rw [K86,K72,K68]
   congr 1
   rw [←K68,K95]
  ·have:files.getD k []=[]:=by simp [show files.length≤k by omega]
   rw [this,K92 (by omega:files.length≤k),K66 (by omega:files.length≤k+1)]
   simp
 obtain ⟨m,hm⟩:=h
 unfold I6 M4
 rw [hm,L00]
 obtain ⟨r,hr⟩:=D00 m (((files.take k).flatten++(files.getD k []).take j).foldl K7 [])
 exact ⟨r,hr⟩
theorem E81 (files:List (List Str)) (k j:Nat):(M4 files k j).length≤files.flatten.length:=by
 obtain ⟨r,hr⟩:=D81 files k j
 have:=E59 files
 rw [hr,K56] at this;omega
def N3 (files:List (List Str)) (k:Nat):List TC:=(List.range files.length).map fun r=>if r < k then .p (.list Int 1 G9 (O7 (I6 files) (files.getD r []))) else .p (.v (.slice none 0 0))
theorem J42 {files:List (List Str)} {k:Nat} (h:k < files.length):(N3 files k)[k]?=some (.p (.v (.slice none 0 0))):=by
 simp [N3,h]
theorem G63 (files:List (List Str)) (k m:Nat) (_h:k < files.length):((N3 files k).set k (.buf m Int 1 G9 (O7 (I6 files) (files.getD k [])))).map (TC.forget m)=N3 files (k+1):=by
 have e1:(N3 files k).map (TC.forget m)=N3 files k:=by
  unfold N3
  rw [K93]
  apply List.map_congr_left
  intro r _
  simp only [Function.comp]
  split<;>rfl
 rw [List.map_set,e1]
 have e2:(TC.buf m Int 1 G9 (O7 (I6 files) (files.getD k []))).forget m=.p (.list Int 1 G9 (O7 (I6 files) (files.getD k []))):=by simp [TC.forget]
 rw [e2]
 unfold N3
 refine D34 _ _ _ _ _ (fun _=>by simp) (fun q hq hne=>?_)
 simp only [show (q < k+1)=(q < k) from propext ⟨fun h=>by omega,fun h=>by omega⟩]
theorem I28 (files:List (List Str)):List.replicate files.length (TC.p (.v (.slice none 0 0)))=N3 files 0:=by
 unfold N3
 simp only [Nat.not_lt_zero,if_false,List.map_const',L07]
theorem I29 (files:List (List Str)):N3 files files.length=(files.map (O7 (I6 files))).map fun x=>TC.p (intsC x 0):=by
 unfold N3
 apply List.ext_getElem
 ·simp
 ·intro i h1 h2
  have hi:i < files.length:=by simpa using h1
  simp [hi,intsC]
end Go.AL
namespace Go.AL
open Go
theorem I80 (m n:Int):∀(l:List Change) (k0:Nat) (i j:Int),(∀k,k < l.length→L9 (cAt l k).Old∧L9 (cAt l k).OldLen∧L9 (cAt l k).New∧L9 (cAt l k).NewLen∧(cAt l k).OldLen+(cAt l k).NewLen≠0∧(cAt l k).Old - eoI i l k=(cAt l k).New - enI j l k∧eoI i l k≤(cAt l k).Old∧(0 < k0+k→eoI i l k < (cAt l k).Old)) →
  (m - eoI i l l.length=n - enI j l l.length∧eoI i l l.length≤m)→K4 k0 i j l m n=true
 | [],k0,i,j,_,h=>by
  have h1:m - i=n - j∧i≤m:=h
  simp only [K4,decide_eq_true_eq];omega
 | c::r,k0,i,j,h,he=>by
  simp only [K4,K59,decide_eq_true_eq]
  refine ⟨?_,I80 m n r (k0+1) _ _ (fun k hk=>?_) ?_⟩
  ·obtain ⟨h1,h2,h3,h4,h5,h6,h7,h8⟩:=h 0 (by simp)
   have h1:L9 c.Old:=h1
   have h2:L9 c.OldLen:=h2
   have h3:L9 c.New:=h3
   have h4:L9 c.NewLen:=h4
   have h5:c.OldLen+c.NewLen≠0:=h5
   have h6:c.Old - i=c.New - j:=h6
   have h7:i≤c.Old:=h7
   have h8:0 < k0+0→i < c.Old:=h8
   unfold G56
   rintro (((((((q | q) | q) | q) | q) | q) | q) | ⟨q,q2⟩)
   ·exact q h1
   ·exact q h2
   ·exact q h3
   ·exact q h4
   ·exact h5 q
   ·exact q h6
   ·omega
   ·have:=h8 (by omega);omega
  ·have:=h (k+1) (by simpa using hk)
   rw [C96,y7,y8] at this
   obtain ⟨e1,e2,e3,e4,e5,e6,e7,e8⟩:=this
   exact ⟨e1,e2,e3,e4,e5,e6,e7,fun h0=>e8 (by omega)⟩
  ·rw [K58,y7,y8] at he;exact he
theorem I81 (x y:List Str):∀(l:List Change) (i j:Int),(∀k,k < l.length→sub x (eoI i l k) (cAt l k).Old=sub y (enI j l k) (cAt l k).New)→sub x (eoI i l l.length) x.length=sub y (enI j l l.length) y.length→D40 x y i j l
 | [],_,_,_,h=>h
 | c::r,i,j,h,he=>by
  refine ⟨h 0 (by simp),I81 x y r _ _ (fun k hk=>?_) ?_⟩
  ·have:=h (k+1) (by simpa using hk)
   rw [C96,y7,y8] at this;exact this
  ·rw [K58,y7,y8] at he;exact he
theorem I82 {x:List Str} {p q:Int} {t:Nat} (h0:0≤p) (h:p+t < q):(sub x p q)[t]?=x[(p+t).toNat]?:=by
 unfold sub
 rw [List.getElem?_take,if_pos (by omega),K83]
 congr 1;omega
theorem G64 {x y:List Str} {p q p' q':Int} (h:sub x p q=sub y p' q') (h0:0≤p) (h0':0≤p') (hq:q≤x.length) (he:q - p=q' - p') {t:Nat} (ht:p+t < q):∃v,x[(p+t).toNat]?=some v∧y[(p'+t).toNat]?=some v:=by
 have h1:x[(p+t).toNat]?=some x[(p+t).toNat]:=K57 (by omega)
 refine ⟨_,h1,?_⟩
 rw [←I82 (q:=q') h0' (by omega),←h,I82 h0 ht];exact h1
theorem D82 {i j:Int} {n:Nat} {p:Span} (h:p∈P7 i j n):∃t:Nat,t < n∧p=⟨i+t,j+t⟩:=by
 unfold P7 at h
 obtain ⟨t,h1,h2⟩:=List.mem_map.1 h
 exact ⟨t,List.mem_range.1 h1,h2.symm⟩
theorem E82 {x y:List Str}:∀(l:List Change) (k0:Nat) (i j:Int),K4 k0 i j l x.length y.length=true→D40 x y i j l→0≤i→0≤j→∀p∈K8 i j l x.length,EqAt x y p
 | [],k0,i,j,hs,he,hi,hj,p,hp=>by
  simp only [K4,decide_eq_true_eq] at hs
  unfold K8 at hp
  obtain ⟨t,ht,rfl⟩:=D82 hp
  have he:sub x i x.length=sub y j y.length:=he
  exact ⟨by dsimp only;omega,by dsimp only;omega,G64 he hi hj (by omega) (by omega) (by omega)⟩
 | c::r,k0,i,j,hs,he,hi,hj,p,hp=>by
  have hok:=A48 _ _ _ _ _ _ hs
  have g:=A05 x.length y.length (c::r) k0 i j hs 0 (by simp)
  obtain ⟨g1,g2,g3,g4,g5,g6,g7,_⟩:=g
  have g1:L9 c.Old:=g1
  have g2:L9 c.OldLen:=g2
  have g3:L9 c.New:=g3
  have g4:L9 c.NewLen:=g4
  have g6:c.Old - i=c.New - j:=g6
  have g7:i≤c.Old:=g7
  simp only [K4,K59,decide_eq_true_eq] at hs
  unfold K8 at hp
  unfold L9 at g1 g2 g3 g4
  have hm:=hok.2.2.2.2.2.2.end_le
  rcases List.mem_append.1 hp with hp | hp
  ·obtain ⟨t,ht,rfl⟩:=D82 hp
   exact ⟨by dsimp only;omega,by dsimp only;omega,G64 he.1 hi hj (by omega) (by omega) (by omega)⟩
  ·rw [show max i c.Old+c.OldLen=c.Old+c.OldLen by omega,show j+((c.Old - i).toNat:Int)+c.NewLen=c.New+c.NewLen by omega] at hp
   exact E82 r (k0+1) _ _ hs.2 he.2 (by omega) (by omega) p hp
theorem ScFit.pairs {x y:List Str} {l:List Change} (h:ScFit x y l):∀p∈j8 l x.length,EqAt x y p:=E82 l 0 0 0 h.sc h.eq (Int.le_refl _) (Int.le_refl _)
def D43 (c:Change):Change:=⟨c.Old+1,c.OldLen,c.New+1,c.NewLen⟩
def B10 (l:List Change) (k:Nat):List Change:=l.set k (D43 (cAt l k))
def atI (t:List Int) (i:Int):Int:=t.getD i.toNat 0
def I83 (l:List Change) (k:Nat) (t:List Int) (f n:Int):Prop:=(f+n < t.length∧atI t f=atI t (f+n))∧(k+1=l.length∨(cAt l k).Old+(cAt l k).OldLen+1 < (cAt l (k+1)).Old)
instance (l:List Change) (k:Nat) (t:List Int) (f n:Int):Decidable (I83 l k t f n):=by unfold I83;exact inferInstance
def E08 (l:List Change) (a b:List Int) (k:Nat):Bool :=
 if (cAt l k).NewLen=0 then decide (I83 l k a (cAt l k).Old (cAt l k).OldLen) else if (cAt l k).OldLen=0 then decide (I83 l k b (cAt l k).New (cAt l k).NewLen) else false
theorem p8 (l:List Change) (k:Nat):(B10 l k).length=l.length:=by simp [B10]
theorem B94 (l:List Change) {k:Nat} (hk:k < l.length) (q:Nat):cAt (B10 l k) q=if q=k then D43 (cAt l k) else cAt l q:=by
 unfold B10
 by_cases h:q=k
 ·subst h
  have:∀z,cAt (l.set q z) q=z:=fun z=>by unfold cAt;simp [hk]
  rw [if_pos rfl,this]
 ·rw [if_neg h];unfold cAt
  simp only [K60]
  rw [List.getElem?_set_ne (Ne.symm h)]
theorem D01 (l:List Change) {k:Nat} (hk:k < l.length) (q:Nat):eoI 0 (B10 l k) q=eoI 0 l q+(if q=k+1 then 1 else 0):=by
 cases q with
 | zero=>simp [eoI]
 | succ q =>
  rw [B57,B57,B94 l hk]
  by_cases h:q=k
  ·subst h;rw [if_pos rfl,if_pos rfl];simp only [B26,D43];omega
  ·rw [if_neg h,if_neg (by omega)];omega
theorem D02 (l:List Change) {k:Nat} (hk:k < l.length) (q:Nat):enI 0 (B10 l k) q=enI 0 l q+(if q=k+1 then 1 else 0):=by
 cases q with
 | zero=>simp [enI]
 | succ q =>
  rw [B58,B58,B94 l hk]
  by_cases h:q=k
  ·subst h;rw [if_pos rfl,if_pos rfl];simp only [G58,D43];omega
  ·rw [if_neg h,if_neg (by omega)];omega
structure IdsOf (x:List Str) (a:List Int):Prop where
 len:a.length=x.length
 inj:∀(i j:Nat) (u v:Str) (z:Int),x[i]?=some u→x[j]?=some v→a[i]?=some z→a[j]?=some z→u=v
theorem ScFit.down {x y:List Str} {l:List Change} {a b:List Int} (h:ScFit x y l) (ha:IdsOf x a) (hb:IdsOf y b) {k:Nat} (hk:k < l.length) (hd:E08 l a b k=true):ScFit x y (B10 l k):=by
 have hlx:=h.lx
 have hly:=h.ly
 have hg:=A05 _ _ _ 0 0 0 h.sc
 have hge:=G59 _ _ _ 0 0 0 h.sc
 have hq:=E69 _ _ _ _ _ h.eq
 have hqe:=G60 _ _ _ _ _ h.eq
 have hok:=h.ok
 obtain ⟨c,hc⟩:∃c,c=cAt l k:=⟨_,rfl⟩
 obtain ⟨g1,g2,g3,g4,g5,g6,g7,g8⟩:=hg k hk
 have hb4:=hok.get k hk
 rw [←hc] at g1 g2 g3 g4 g5 g6 g7 g8 hb4
 unfold L9 at g1 g2 g3 g4
 have eo1:eoI 0 l (k+1)=c.Old+c.OldLen:=by rw [B57,←hc];rfl
 have en1:enI 0 l (k+1)=c.New+c.NewLen:=by rw [B58,←hc];rfl
 obtain ⟨E,E',hE1,hE2,hE3,hE4,hE5,hEn⟩:∃E E':Int,sub x (c.Old+c.OldLen) E=sub y (c.New+c.NewLen) E'∧E - (c.Old+c.OldLen)=E' - (c.New+c.NewLen)∧E≤x.length∧E'≤y.length∧(c.Old+c.OldLen < E)∧(k+1 < l.length→E=(cAt l (k+1)).Old∧E'=(cAt l (k+1)).New∧c.Old+c.OldLen+1 < E):=by
  by_cases hl:k+1=l.length
  ·rw [←hl,eo1,en1] at hge hqe
   refine ⟨x.length,y.length,hqe,by omega,by omega,by omega,?_,fun q=>absurd hl (by omega)⟩
   unfold E08 at hd
   rw [←hc] at hd
   split at hd
   ·have:=(A0 hd).1.1;rw [ha.len] at this;omega
   ·split at hd
    ·have:=(A0 hd).1.1;rw [hb.len] at this;omega
    ·cases hd
  ·have hl:k+1 < l.length:=by omega
   obtain ⟨f1,f2,f3,f4,f5,f6,f7,f8⟩:=hg (k+1) hl
   have f9:=hq (k+1) hl
   have f10:=hok.get (k+1) hl
   rw [eo1,en1] at f6 f9
   rw [eo1] at f7
   unfold L9 at f2 f4
   have hroom:c.Old+c.OldLen+1 < (cAt l (k+1)).Old:=by
    unfold E08 at hd
    rw [←hc] at hd
    split at hd
    ·have:=(A0 hd).2;rw [←hc] at this;omega
    ·split at hd
     ·have:=(A0 hd).2;rw [←hc] at this;omega
     ·cases hd
   exact ⟨_,_,f9,by omega,by omega,by omega,by omega,fun _=>⟨rfl,rfl,hroom⟩⟩
 have hv:∃v,x[c.Old.toNat]?=some v∧y[c.New.toNat]?=some v:=by
  obtain ⟨v,v1,v2⟩:=G64 (t:=0) hE1 (by omega) (by omega) (by omega) hE2 (by omega)
  simp only [Int.natCast_zero,Int.add_zero] at v1 v2
  unfold E08 at hd
  rw [←hc] at hd
  split at hd
  ·rename_i hn
   have:=(A0 hd).1.2
   rw [hn,Int.add_zero] at v2
   refine ⟨v,?_,v2⟩
   have l1:c.Old.toNat < a.length:=by rw [ha.len];omega
   have l2:(c.Old+c.OldLen).toNat < a.length:=by rw [ha.len];omega
   have hx:x[c.Old.toNat]?=some x[c.Old.toNat]:=K57 (by omega)
   have ea:a[c.Old.toNat]?=some (atI a c.Old):=by unfold atI;rw [K60,K57 l1];rfl
   have eb:a[(c.Old+c.OldLen).toNat]?=some (atI a (c.Old+c.OldLen)):=by unfold atI;rw [K60,K57 l2];rfl
   rw [←this] at eb
   have:=ha.inj _ _ _ _ _ hx v1 ea eb
   rw [hx,this]
  ·split at hd
   ·rename_i _ hn
    have:=(A0 hd).1.2
    rw [hn,Int.add_zero] at v1
    refine ⟨v,v1,?_⟩
    have l1:c.New.toNat < b.length:=by rw [hb.len];omega
    have l2:(c.New+c.NewLen).toNat < b.length:=by rw [hb.len];omega
    have hx:y[c.New.toNat]?=some y[c.New.toNat]:=K57 (by omega)
    have ea:b[c.New.toNat]?=some (atI b c.New):=by unfold atI;rw [K60,K57 l1];rfl
    have eb:b[(c.New+c.NewLen).toNat]?=some (atI b (c.New+c.NewLen)):=by unfold atI;rw [K60,K57 l2];rfl
    rw [←this] at eb
    have:=hb.inj _ _ _ _ _ hx v2 ea eb
    rw [hx,this]
   ·cases hd
 obtain ⟨v,v1,v2⟩:=hv
 have hen0:0≤eoI 0 l k∧0≤enI 0 l k:=by
  cases k with
  | zero=>simp [eoI,enI]
  | succ k =>
   obtain ⟨f1,f2,f3,f4,_⟩:=hg k (by omega)
   unfold L9 at f1 f2 f3 f4
   rw [B57,B58];unfold B26 G58;omega
 have htail:sub x (c.Old+c.OldLen+1) E=sub y (c.New+c.NewLen+1) E':=by
  have:=B59 (e:=E - (c.Old+c.OldLen) - 1) hE1 (by omega) (by omega) (by omega) (by omega) hE2
  rw [show E - (E - (c.Old+c.OldLen) - 1)=c.Old+c.OldLen+1 by omega,show E' - (E - (c.Old+c.OldLen) - 1)=c.New+c.NewLen+1 by omega] at this
  exact this
 refine ⟨hlx,hly,I80 _ _ _ 0 0 0 (fun q hql=>?_) ?_,I81 _ _ _ 0 0 (fun q hql=>?_) ?_⟩
 ·rw [p8] at hql
  rw [B94 l hk,D01 l hk,D02 l hk]
  by_cases e:q=k
  ·rw [if_pos e,if_neg (show ¬q=k+1 by omega),e,←hc]
   unfold L9
   simp only [D43]
   refine ⟨by omega,g2,by omega,g4,g5,by omega,by omega,fun _=>by omega⟩
  ·rw [if_neg e]
   obtain ⟨f1,f2,f3,f4,f5,f6,f7,f8⟩:=hg q hql
   refine ⟨f1,f2,f3,f4,f5,?_,?_,?_⟩
   ·by_cases e2:q=k+1
    ·rw [if_pos e2];omega
    ·rw [if_neg e2];omega
   ·by_cases e2:q=k+1
    ·rw [if_pos e2];have:=f8 (by omega);omega
    ·rw [if_neg e2];omega
   ·intro h0
    by_cases e2:q=k+1
    ·rw [if_pos e2,e2,eo1]
     have:=(hEn (by omega))
     omega
    ·rw [if_neg e2];have:=f8 h0;omega
 ·rw [p8,D01 l hk,D02 l hk]
  by_cases e2:l.length=k+1
  ·rw [if_pos e2,e2,eo1,en1]
   rw [e2,eo1,en1] at hge
   have h1:E≤x.length:=hE3
   omega
  ·rw [if_neg e2];omega
 ·rw [p8] at hql
  rw [B94 l hk,D01 l hk,D02 l hk]
  by_cases e:q=k
  ·rw [if_pos e,if_neg (show ¬q=k+1 by omega),e,←hc]
   simp only [D43,Int.add_zero]
   have:=hq k hk
   rw [←hc] at this
   rw [H42 hen0.1 g7 v1,H42 hen0.2 (by omega) v2,this]
  ·rw [if_neg e]
   by_cases e2:q=k+1
   ·rw [if_pos e2]
    subst e2
    obtain ⟨q1,q2,_⟩:=hEn hql
    rw [eo1,en1,←q1,←q2];exact htail
   ·rw [if_neg e2,Int.add_zero,Int.add_zero]
    exact hq q hql
 ·rw [p8,D01 l hk,D02 l hk]
  by_cases e2:l.length=k+1
  ·rw [if_pos e2]
   rw [e2,eo1,en1] at hqe hge ⊢
   have:=B59 (e:=x.length - (c.Old+c.OldLen) - 1) hqe (by omega) (by omega) (by omega) (by omega) (by omega)
   rw [show (x.length:Int) - (x.length - (c.Old+c.OldLen) - 1)=c.Old+c.OldLen+1 by omega,show (y.length:Int) - (x.length - (c.Old+c.OldLen) - 1)=c.New+c.NewLen+1 by omega] at this
   exact this
  ·rw [if_neg e2,Int.add_zero,Int.add_zero];exact hqe
section
variable {x y:List Str} {a b:List Int} (ha:IdsOf x a) (hb:IdsOf y b)
include ha hb
omit ha hb in
omit ha hb in
end
end Go.AL
namespace Go.AL
open Go
structure Made12 (on nn a b:Str) (l:List Change) (ctx:Int):Prop where
 chk:C95 ⟨on,nn,d6 l (C1 a) (C1 b) ctx⟩=0
 wr:(I75 ⟨on,nn,d6 l (C1 a) (C1 b) ctx⟩).length≤16777216
 fit:PFit ⟨on,nn,d6 l (C1 a) (C1 b) ctx⟩
 rg:∀h∈d6 l (C1 a) (C1 b) ctx,(-4611686018427387904≤h.Old∧h.Old≤4611686018427387904)∧(-4611686018427387904≤h.New∧h.New≤4611686018427387904)
 sz:szP (d6 l (C1 a) (C1 b) ctx)≤268435456
end Go.AL
namespace Go.AL
open Go
section
variable {x y:List Str} {l:List Change}
end
end Go.AL
namespace Go.AL
open Go
def ChainH (x y:List Str) (i j:Int):List PatchHunk→Prop
 | []=>sub x i x.length=sub y j y.length∧0≤i∧0≤j∧i≤x.length∧j≤y.length
 | h::r=>(sub x i h.Old=sub y j h.New∧G6 h.Lines 43=sub x h.Old (h.Old+A73 h)∧G6 h.Lines 45=sub y h.New (h.New+A74 h))∧(0≤i∧0≤j∧i≤h.Old∧j≤h.New∧h.Old+A73 h≤x.length∧h.New+A74 h≤y.length)∧ChainH x y (h.Old+A73 h) (h.New+A74 h) r
theorem ScFit.chain {x y:List Str} {l:List Change} (h:ScFit x y l) {ctx:Int} (hc:0≤ctx):∀(hs:List Hunk) (a:Nat),GrOk l x.length ctx a hs l.length →
  ∀(i j e:Int),i=eoI 0 l a+e→j=enI 0 l a+e→0≤e→e≤ctx→(a=0→e=0)→i≤x.length→j≤y.length→ChainH x y i j (hs.map (X5 l x y))
 | [],a,hr,i,j,e,hi,hj,he,_,_,hix,hjy=>by
  have hr:a=l.length:=hr
  have hq:=G60 _ _ _ _ _ h.eq
  have hge:=G59 _ _ _ 0 0 0 h.sc
  obtain ⟨r1,r2,r3,r4⟩:=h.nn a (by omega)
  rw [←hr] at hq hge
  refine ⟨?_,by omega,by omega,hix,hjy⟩
  have:=B59 (e:=x.length - i) hq r1 r2 (by omega) (by omega) (by omega)
  rw [show (x.length:Int) - (x.length - i)=i by omega,show (y.length:Int) - (x.length - i)=j by omega] at this
  exact this
 | hk::hs,a,⟨b,hab,ho,hE,hr⟩,i,j,e,hi,hj,he,hec,he0,hix,hjy=>by
  have hb:=hr.le
  have hob:b < l.length→opens l ctx b:=by
   intro hlt
   cases hs with
   | nil=>exact absurd hr (by show ¬b=l.length;omega)
   | cons h2 hs2=>obtain ⟨_,_,ho2,_⟩:=hr;exact ho2
  obtain ⟨w1,w2,w3,w4,w5⟩:=h.after hc hb hob (by omega)
  obtain ⟨q1,q2,q3⟩:=h.before hc (show a < l.length by omega) ho
  have H:=h.hunk hc hab hb ho hob
  rw [←hE] at H
  obtain ⟨P,hP⟩:∃P,P=X5 l x y hk:=⟨_,rfl⟩
  rw [←hP] at H
  have ih:=ScFit.chain h hc hs b hr (P.Old+A73 P) (P.New+A74 P) (eB l x.length ctx b) H.oe H.ne w1 w2 (by omega) H.ox H.ny
  obtain ⟨k1,⟨k2,k2'⟩,k3,⟨k4,k4'⟩,k5,k6,k7,k8⟩:=A05 _ _ _ _ _ _ h.sc a (show a < l.length by omega)
  have h1:=H.old
  have h2:=H.new
  have h3:=H.o0
  have h4:=H.n0
  have hgap:e+eA l ctx a≤(cAt l a).Old - eoI 0 l a:=by
   by_cases h0:a=0
   ·have:=he0 h0;omega
   ·have:=B90 ho h0;omega
  obtain ⟨r1,r2,r3,r4⟩:=h.nn a (by omega)
  have hij:i≤P.Old∧j≤P.New∧P.Old - i=P.New - j∧0≤i∧0≤j:=by omega
  have hrun:=E69 _ _ _ _ _ h.eq a (show a < l.length by omega)
  have t1:=B59 (e:=(cAt l a).Old - i) hrun r1 r2 (by omega) (by omega) (by omega)
  rw [show (cAt l a).Old - ((cAt l a).Old - i)=i by omega,show (cAt l a).New - ((cAt l a).Old - i)=j by omega] at t1
  have t2:=E70 (e:=P.Old - i) t1 (by omega) (by omega) (by omega) (by omega) (by omega)
  rw [show i+(P.Old - i)=P.Old by omega,show j+(P.Old - i)=P.New by omega] at t2
  rw [K63,←hP]
  exact ⟨⟨t2,H.ol,H.nl⟩,⟨by omega,by omega,hij.1,hij.2.1,H.ox,H.ny⟩,ih⟩
theorem A17:∀(y:List Str),(∀s∈y,H8 s=true)→Q9 y=true→v8 y=true
 | [],_,_=>rfl
 | s::r,h,he=>by
  simp only [Q9,K59] at he
  simp only [v8,K59]
  exact ⟨⟨h s (List.mem_cons_self ..),he.1⟩,A17 r (fun t ht=>h t (List.mem_cons_of_mem _ ht)) he.2⟩
end Go.AL
namespace Go.AL
open Go
def a6 (c:UInt8):Bool:=decide (48≤c.toNat∧c.toNat≤57)
def L4 (s:Str):Str:=s.takeWhile a6
def A38 (ds:Str):Nat:=ds.foldl (fun n c=>10*n+(c.toNat - 48)) 0
def b9 (s:Str):Option (Nat × Nat) :=
 if L4 s=[]∨(s.head?=some 48∧1 < (L4 s).length)∨2147483647 < A38 (L4 s) then none else some (A38 (L4 s),(L4 s).length)
theorem F90 (ds:Str) (c:UInt8):A38 (ds++[c])=10*A38 ds+(c.toNat - 48):=by
 unfold A38;rw [L00];rfl
theorem x2 (k:Nat) (h:k < 10):(UInt8.ofNat (48+k)).toNat=48+k:=by
 rw [UInt8.toNat_ofNat'];omega
theorem C47 (u:Nat):(∀c∈Lib.decDigits u,a6 c=true)∧A38 (Lib.decDigits u)=u∧Lib.decDigits u≠[]∧((Lib.decDigits u).head?=some 48→u=0)∧(1 < (Lib.decDigits u).length→10≤u):=by
 induction u using Nat.strongRecOn with
 | _ u ih =>
  rw [Lib.decDigits]
  split
  ·rename_i h
   refine ⟨?_,?_,by simp,?_,by simp⟩
   ·intro c hc
    simp only [K90,K91,or_false] at hc
    subst hc;unfold a6;rw [x2 u h];simp;omega
   ·unfold A38;simp only [K89,List.foldl_nil];rw [x2 u h];omega
   ·intro h1
    simp only [List.head?_cons,Option.some.injEq] at h1
    have:=congrArg UInt8.toNat h1
    rw [x2 u h] at this
    have e:(48:UInt8).toNat=48:=rfl
    omega
  ·rename_i h
   obtain ⟨h1,h2,h3,h4,h5⟩:=ih (u / 10) (by omega)
   have h6:u % 10 < 10:=Nat.mod_lt _ (by omega)
   refine ⟨?_,?_,by simp,?_,fun _=>by omega⟩
   ·intro c hc
    rcases List.mem_append.1 hc with hc | hc
    ·exact h1 c hc
    ·simp only [K90,K91,or_false] at hc
     subst hc;unfold a6;rw [x2 _ h6];simp;omega
   ·rw [F90,h2,x2 _ h6];omega
   ·intro h7
    rw [List.head?_append] at h7
    cases hd:(Lib.decDigits (u / 10)).head? with
    | none=>exact absurd (List.head?_eq_none_iff.1 hd) h3
    | some x =>
     rw [hd] at h7
     have h7:x=48:=by simpa using h7
     have:=h4 (by rw [hd,h7])
     omega
theorem J98 {ds t:Str} (h:∀c∈ds,a6 c=true) (ht:∀c,t.head?=some c→a6 c=false):L4 (ds++t)=ds:=by
 unfold L4
 rw [List.takeWhile_append_of_pos h]
 cases t with
 | nil=>simp
 | cons c r=>rw [List.takeWhile_cons,ht c rfl];simp
theorem E09 {n:Int} (h0:0≤n) (h1:n≤2147483647):K3 n=Lib.decDigits n.toNat:=by
 unfold K3 Lib.itoa;rw [if_neg (by omega),if_neg (by omega)]
theorem B95 {n:Int} {t:Str} (h0:0≤n) (h1:n≤2147483647) (ht:∀c,t.head?=some c→a6 c=false):b9 (K3 n++t)=some (n.toNat,(K3 n).length):=by
 rw [E09 h0 h1]
 obtain ⟨h2,h3,h4,h5,h6⟩:=C47 n.toNat
 have e:=J98 h2 ht
 unfold b9
 rw [e,h3]
 rw [if_neg]
 rintro (h | ⟨h,h'⟩ | h)
 ·exact h4 h
 ·have h7:(Lib.decDigits n.toNat).head?=some 48:=by
   rw [List.head?_append] at h
   cases hd:(Lib.decDigits n.toNat).head? with
   | none=>exact absurd (List.head?_eq_none_iff.1 hd) h4
   | some x=>rw [hd] at h;simpa using h
  have:=h5 h7;have:=h6 h';omega
 ·omega
def D44 (s:Str) (a c:Nat) (e:Nat):Option (Int × Int × Nat) :=
 if I7 (if 0 < c then (a:Int) - 1 else a) c=s.take e then some ((if 0 < c then (a:Int) - 1 else a),(c:Int),e) else none
def s9 (s:Str):Option (Int × Int × Nat) :=
 match b9 s with
 | none=>none
 | some (a,k)=>if s[k]?=some 44 then (match b9 (s.drop (k+1)) with | none=>none | some (c,k2)=>D44 s a c (k+1+k2)) else D44 s a 1 k
theorem D45 {s:Str} {a c e:Nat} {st:Int} (hst:st=if 0 < c then (a:Int) - 1 else a) (h:I7 st c=s.take e):D44 s a c e=some (st,(c:Int),e):=by
 unfold D44;rw [←hst,if_pos h]
theorem J43 {a n:Int} {t:Str} (h0:0≤a) (h1:0≤n) (h2:a≤2147483647) (h3:n≤2147483647 - a) (ht:∀c,t.head?=some c→a6 c=false∧c≠44):s9 (I7 a n++t)=some (a,n,(I7 a n).length):=by
 have hr:I7 a n=if n=0 then K3 a++[44,48] else if n=1 then K3 (a+1) else K3 (a+1)++[44]++K3 n:=by
  unfold I7;rw [if_neg (by omega)]
 have hf0:K3 0=[48]:=by rw [E09 (by omega) (by omega)];rw [Lib.decDigits];rfl
 have hd44:a6 44=false:=by decide
 have hT:(I7 a n++t).take (I7 a n).length=I7 a n:=List.take_left
 by_cases hn0:n=0
 ·subst hn0
  rw [if_pos rfl] at hr
  have e1:I7 a 0++t=K3 a++(44::(K3 0++t)):=by rw [hr,hf0];simp
  have ed:(K3 a++(44::(K3 0++t))).drop ((K3 a).length+1)=K3 0++t:=by rw [List.drop_append];simp
  have el:(K3 a).length+1+(K3 0).length=(I7 a 0).length:=by rw [hr,hf0];simp
  rw [e1] at hT ⊢
  unfold s9
  rw [B95 h0 h2 (by intro c hc;cases hc;exact hd44)]
  dsimp only
  rw [if_pos (by simp),ed,B95 (n:=0) (by omega) (by omega) (fun c hc=>(ht c hc).1)]
  dsimp only
  rw [el]
  exact D45 (st:=a) (c:=0) (by simp;omega) hT.symm
 ·by_cases hn1:n=1
  ·subst hn1
   rw [if_neg (by omega),if_pos rfl] at hr
   rw [hr] at hT ⊢
   unfold s9
   rw [B95 (by omega) (by omega) (fun c hc=>(ht c hc).1)]
   dsimp only
   rw [if_neg]
   ·exact D45 (st:=a) (c:=1) (by simp;omega) (by rw [hT];exact hr)
   ·rw [K74 (Nat.le_refl _),L12]
    cases t with
    | nil=>simp
    | cons c r=>simp;exact fun e=>(ht c rfl).2 e
  ·rw [if_neg hn0,if_neg hn1] at hr
   have e1:I7 a n++t=K3 (a+1)++(44::(K3 n++t)):=by rw [hr];simp
   have ed:(K3 (a+1)++(44::(K3 n++t))).drop ((K3 (a+1)).length+1)=K3 n++t:=by rw [List.drop_append];simp
   have el:(K3 (a+1)).length+1+(K3 n).length=(I7 a n).length:=by rw [hr];simp;omega
   have e4:((n.toNat:Nat):Int)=n:=by omega
   rw [e1] at hT ⊢
   unfold s9
   rw [B95 (by omega) (by omega) (by intro c hc;cases hc;exact hd44)]
   dsimp only
   rw [if_pos (by simp),ed,B95 (n:=n) (by omega) (by omega) (fun c hc=>(ht c hc).1)]
   dsimp only
   rw [el]
   have:=D45 (s:=K3 (a+1)++(44::(K3 n++t))) (a:=(a+1).toNat) (c:=n.toNat) (e:=(I7 a n).length) (st:=a) (by rw [if_pos (by omega)];omega) (by rw [hT,e4])
   rw [this,e4]
def octV (a b c:UInt8):Option UInt8 :=
 if ((((((a.toNat < 48∨55 < a.toNat)∨b.toNat < 48)∨55 < b.toNat)∨c.toNat < 48)∨55 < c.toNat)∨256≤64*(a.toNat - 48)+8*(b.toNat - 48)+(c.toNat - 48)) then none
 else some (UInt8.ofNat (64*(a.toNat - 48)+8*(b.toNat - 48)+(c.toNat - 48)))
def B24:Str→Option (UInt8 × Nat)
 | []=>none
 | d::r=>if d.toNat=34∨d.toNat=92 then some (d,1) else if d.toNat=110 then some (10,1) else if d.toNat=116 then some (9,1) else match r with
  | e::f::_=>(octV d e f).map fun x=>(x,3)
  | _=>none
theorem F91 {s:Str} {x:UInt8} {k:Nat} (h:B24 s=some (x,k)):1≤k∧k≤s.length:=by
 cases s with
 | nil=>cases h
 | cons d r =>
  simp only [B24] at h
  split at h
  ·cases h;simp
  ·split at h
   ·cases h;simp
   ·split at h
    ·cases h;simp
    ·split at h
     ·simp only [Option.map_eq_some_iff] at h
      obtain ⟨_,_,h⟩:=h
      cases h;simp
     ·cases h
def L7 (s:Str) (i:Nat) (acc:Str):Option (Str × Nat) :=
 if h:i < s.length then
  if s[i].toNat=34 then some (acc,i+1)
  else if s[i].toNat=92 then (match he:B24 (s.drop (i+1)) with | none=>none | some (x,k)=>L7 s (i+1+k) (acc++[x]))
  else L7 s (i+1) (acc++[s[i]])
 else none
termination_by s.length - i
decreasing_by all_goals omega
def Y7 (s:Str):Option (Str × Nat) :=
 if s.head?=some 34 then (match L7 s 1 [] with | none=>none | some (w,k)=>if I9 w=s.take k then some (w,k) else none)
 else if s.takeWhile R8=[] then none else some (s.takeWhile R8,(s.takeWhile R8).length)
theorem I30 {s:Str} (n:Nat):∀{i:Nat} {acc w:Str} {k:Nat},s.length - i≤n→L7 s i acc=some (w,k)→i < k∧k≤s.length∧w.length+i≤acc.length+k:=by
 induction n with
 | zero =>
  intro i acc w k hn h
  rw [L7,dif_neg (by omega)] at h;cases h
 | succ n ih =>
  intro i acc w k hn h
  rw [L7] at h
  split at h
  ·rename_i hi
   split at h
   ·cases h;omega
   ·split at h
    ·split at h
     ·cases h
     ·rename_i x k' he
      have h1:=F91 he
      rw [K65] at h1
      have:=ih (by omega) h
      rw [K56] at this;simp only [K58,K61] at this;omega
    ·have:=ih (by omega) h
     rw [K56] at this;simp only [K58,K61] at this;omega
  ·cases h
theorem J99 (c:UInt8) (pre r acc:Str):L7 (pre++(U4 c++(r++[34]))) pre.length acc=L7 (pre++(U4 c++(r++[34]))) (pre.length+(U4 c).length) (acc++[c]):=by
 have hc:=c.toNat_lt
 have hget:∀(d:UInt8) (l:Str),(pre++d::l)[pre.length]?=some d:=by intro d l;rw [K74 (Nat.le_refl _),L12];rfl
 have hdrop:∀(d:UInt8) (l:Str),(pre++d::l).drop (pre.length+1)=l:=by intro d l;rw [List.drop_append];simp
 have e92:(92:UInt8).toNat=92:=rfl
 have e110:(110:UInt8).toNat=110:=rfl
 have e116:(116:UInt8).toNat=116:=rfl
 have key:∀(l:Str) (k:Nat),B24 (l++(r++[34]))=some (c,k)→k=l.length→L7 (pre++((92::l)++(r++[34]))) pre.length acc=L7 (pre++((92::l)++(r++[34]))) (pre.length+(92::l).length) (acc++[c]):=by
  intro l k hl hk
  subst hk
  rw [L7,dif_pos (by simp)]
  have hg:(pre++((92::l)++(r++[34])))[pre.length]'(by simp)=92:=by
   have:=hget 92 (l++(r++[34]))
   rw [K57 (by simp)] at this
   exact Option.some.inj this
  rw [hg,if_neg (by decide),if_pos e92]
  have hd:(pre++((92::l)++(r++[34]))).drop (pre.length+1)=l++(r++[34]):=hdrop 92 _
  split
  ·rename_i he;rw [hd,hl] at he;cases he
  ·rename_i x k' he
   rw [hd,hl] at he;cases he
   rw [K58,show pre.length+1+l.length=pre.length+(l.length+1) by omega]
 unfold U4
 split
 ·rename_i h
  refine key [c] 1 ?_ rfl
  simp only [K82,K78,B24]
  rw [if_pos h]
 ·rename_i h
  split
  ·rename_i h1
   refine key [110] 1 ?_ rfl
   simp only [K82,K78,B24]
   rw [if_neg (by decide),if_pos (by decide)]
   have:c=10:=UInt8.toNat_inj.1 h1
   rw [this]
  ·rename_i h1
   split
   ·rename_i h2
    refine key [116] 1 ?_ rfl
    simp only [K82,K78,B24]
    rw [if_neg (by decide),if_neg (by decide),if_pos (by decide)]
    have:c=9:=UInt8.toNat_inj.1 h2
    rw [this]
   ·rename_i h2
    split
    ·rename_i h3
     refine key (F82 c) 3 ?_ (by rw [A47];rfl)
     rw [A47]
     have t:∀k,k < 8→(UInt8.ofNat (48+k)).toNat=48+k:=fun k hk=>x2 k (by omega)
     have t1:=t (c.toNat / 64) (by omega)
     have t2:=t (c.toNat / 8 % 8) (by omega)
     have t3:=t (c.toNat % 8) (by omega)
     simp only [K82,K78,B24]
     rw [t1,if_neg (by omega),if_neg (by omega),if_neg (by omega)]
     unfold octV
     rw [t1,t2,t3,if_neg (by omega)]
     simp only [Option.map_some,Option.some.injEq,Prod.mk.injEq,and_true]
     apply UInt8.toNat_inj.1
     rw [UInt8.toNat_ofNat'];omega
    ·rw [L7,dif_pos (by simp)]
     have hg:(pre++([c]++(r++[34])))[pre.length]'(by simp)=c:=by
      have:=hget c (r++[34])
      rw [K57 (by simp)] at this
      exact Option.some.inj this
     rw [hg,if_neg (by omega),if_neg (by omega)]
     rfl
theorem word_go (w:Str):∀(pre acc:Str),L7 (pre++((w.map U4).flatten++[34])) pre.length acc=some (acc++w,(pre++((w.map U4).flatten++[34])).length):=by
 induction w with
 | nil =>
  intro pre acc
  rw [L7,dif_pos (by simp)]
  have hg:(pre++((([]:Str).map U4).flatten++[34]))[pre.length]'(by simp)=34:=by simp
  rw [hg,if_pos (show (34:UInt8).toNat=34 from rfl)];simp
 | cons c r ih =>
  intro pre acc
  have e:(((c::r).map U4).flatten++[34])=U4 c++((r.map U4).flatten++[34]):=by simp
  rw [e,J99]
  have h1:=ih (pre++U4 c) (acc++[c])
  rw [K68,K56,K68 acc] at h1
  exact h1
theorem C23 {p:UInt8→Bool}:∀{w:Str},w.all p=true→w.takeWhile p=w
 | [],_=>rfl
 | c::r,h=>by
  simp only [List.all_cons,K59] at h
  rw [List.takeWhile_cons,if_pos h.1,C23 h.2]
theorem I31 (w:Str):Y7 (I9 w)=some (w,(I9 w).length):=by
 unfold Y7
 by_cases h:w≠[]∧w.all R8=true
 ·have e:I9 w=w:=by unfold I9;rw [if_pos h]
  rw [e]
  have e2:w.takeWhile R8=w:=by
   exact C23 h.2
  rw [e2,if_neg,if_neg h.1]
  intro h34
  cases w with
  | nil=>exact h.1 rfl
  | cons c r =>
   simp only [List.head?_cons,Option.some.injEq] at h34
   subst h34
   have:=h.2
   simp only [List.all_cons,K59] at this
   exact absurd this.1 (by decide)
 ·have e:I9 w=[34]++((w.map U4).flatten++[34]):=by unfold I9;rw [if_neg h];rfl
  have e2:=word_go w [34] []
  rw [←e] at e2
  rw [if_pos (by rw [e];rfl),show L7 (I9 w) 1 []=_ from e2]
  dsimp only
  rw [K78,K87,if_pos rfl]
end Go.AL
namespace Go.AL
open Go
def x3 (s:Str):Option (List Str):=if s=[] then some [] else if ended s=true then some ((C1 s).map List.dropLast) else none
theorem B11 (a b cur:Str) (h:(10:UInt8)∉a):F8 cur (a++10::b)=(cur++a++[10])::F8 [] b:=by
 induction a generalizing cur with
 | nil=>simp [F8]
 | cons c r ih =>
  simp only [K90,not_or] at h
  rw [K82,W5,if_neg (fun e=>h.1 e.symm),ih _ h.2];simp
def Q0 (ts:List Str):Str:=(ts.map fun t=>t++[10]).flatten
theorem D03:∀(ts:List Str),(∀t∈ts,(10:UInt8)∉t)→C1 (Q0 ts)=ts.map fun t=>t++[10]
 | [],_=>rfl
 | t::r,h=>by
  have ih:=D03 r (fun x hx=>h x (by simp [hx]))
  have e:Q0 (t::r)=t++10::Q0 r:=by unfold Q0;simp
  have h1:=B11 t (Q0 r) [] (h t (by simp))
  unfold C1 at ih ⊢
  rw [e,h1,ih];simp
theorem D46 (a:Str):ended (a++[10])=true:=by unfold ended;simp
theorem ended_iff {s:Str}:ended s=true↔∃a,s=a++[10]:=by
 constructor
 ·intro h
  unfold ended at h
  have h:s.getLast?=some 10:=by simpa using h
  obtain ⟨ys,hy⟩:=List.getLast?_eq_some_iff.1 h
  exact ⟨ys,hy⟩
 ·rintro ⟨a,rfl⟩;exact D46 a
theorem G65 {ts:List Str} (h:ts≠[]):ended (Q0 ts)=true:=by
 have hl:=List.dropLast_concat_getLast h
 rw [ended_iff]
 refine ⟨Q0 ts.dropLast++ts.getLast h,?_⟩
 conv=>lhs;rw [←hl]
 unfold Q0;simp
theorem H50 (ts:List Str) (h:∀t∈ts,(10:UInt8)∉t):x3 (Q0 ts)=some ts:=by
 unfold x3
 by_cases hn:ts=[]
 ·subst hn;rfl
 ·have he:=G65 hn
  have h0:Q0 ts≠[]:=fun e=>by rw [e] at he;cases he
  rw [if_neg h0,if_pos he,D03 ts h,K93]
  congr 1
  conv=>rhs;rw [←List.map_id ts]
  refine List.map_congr_left fun t _=>?_
  simp
def noNl:Str:=[92,32,78,111,32,110,101,119,108,105,110,101,32,97,116,32,101,110,100,32,111,102,32,102,105,108,101]
theorem K00:markS=[10]++noNl++[10]:=rfl
theorem E83 (a b:List Str):Q0 (a++b)=Q0 a++Q0 b:=by unfold Q0;simp
theorem B65 (a:Str) (b:List Str):Q0 (a::b)=a++[10]++Q0 b:=by unfold Q0;simp
theorem J44 {n:Int} (h0:0≤n) (h1:n≤2147483647):(10:UInt8)∉K3 n:=by
 rw [E09 h0 h1]
 intro h
 have:=(C47 n.toNat).1 _ h
 revert this;decide
theorem K01 (n:Int):(10:UInt8)∉K3 n:=by
 by_cases h:n < 0∨2147483647 < n
 ·unfold K3;rw [if_pos h];simp
 ·exact J44 (by omega) (by omega)
theorem K02 (c:UInt8):(10:UInt8)∉U4 c:=by
 have hc:=c.toNat_lt
 have hn:∀{d:UInt8},d.toNat≠10→(10:UInt8)≠d:=fun h e=>h (by rw [←e];rfl)
 unfold U4
 split
 ·rename_i h;simp only [K90,K91,or_false,not_or];exact ⟨by decide,hn (by omega)⟩
 ·split
  ·decide
  ·split
   ·decide
   ·split
    ·rw [A47]
     have t:∀k,k < 8→(10:UInt8)≠UInt8.ofNat (48+k):=fun k hk=>hn (by rw [x2 k (by omega)];omega)
     simp only [K90,K91,or_false,not_or]
     exact ⟨by decide,t _ (by omega),t _ (by omega),t _ (by omega)⟩
    ·simp only [K90,K91,or_false];exact hn (by omega)
theorem I32 (w:Str):(10:UInt8)∉I9 w:=by
 unfold I9
 split
 ·rename_i h
  intro hm
  have:=List.all_eq_true.1 h.2 _ hm
  revert this;decide
 ·simp only [K90,L11,List.mem_flatten,List.mem_map,K91,or_false,not_or,not_exists,not_and]
  refine ⟨by decide,?_,by decide⟩
  rintro l ⟨x,_,rfl⟩
  exact K02 x
def B66 (t:Str):Str:=if ended t=true then t.dropLast else t
theorem check12_good {p:Patch} (h:C95 p=0):D39 p.Hunks=true:=by
 unfold C95 at h
 split at h
 ·cases h
 ·split at h
  ·cases h
  ·rename_i h1;simpa using h1
end Go.AL
namespace Go.AL
open Go
structure CHunk where
 At:List Int
 Rows:List Row
 deriving DecidableEq
structure Comb where
 Path:Str
 Dense:Bool
 Parents:Int
 Hunks:List CHunk
 deriving DecidableEq
def L5:CHunk→Nat→Cell:=fun h j=>match j with
 | 0=>.list Int 1 G9 h.At
 | _=>.list Row 3 rowC h.Rows
abbrev G66 (h:CHunk):PV:=.agg [.list Int 1 G9 h.At,.list Row 3 rowC h.Rows]
abbrev N7 (c:Comb):PV:=.agg [.v (.string ⟨c.Path.toArray⟩),.v (.bool c.Dense),.v (.int .i64 c.Parents),.list CHunk 2 L5 c.Hunks]
def comb0:Comb:=⟨[],false,0,[]⟩
def A06 (n k:Nat):Int:=if k=n then -1 else k
def M1 (rows:List Row) (n k:Nat):Int:=(K0 rows (A06 n k)).length
def F5 (rows:List Row) (n:Nat):List Int:=(List.range (n+1)).map (M1 rows n)
def atS (n:Nat):Str:=List.replicate n 64
def A18 (n k:Nat):UInt8:=if k=n then 43 else 45
def B67 (n:Nat) (h:CHunk) (k:Nat):Str:=[32,A18 n k]++I7 (h.At.getD k 0) (M1 h.Rows n k)
def V6 (n:Nat) (h:CHunk) (k:Nat):Str:=((List.range k).map (B67 n h)).flatten
def Y8 (n:Nat) (h:CHunk):Str:=atS (n+1)++V6 n h (n+1)++[32]++atS (n+1)
def A51 (r:Row) (p:Nat):UInt8:=if V0 r.Marks p=false then 32 else if r.Lost then 45 else 43
def P0 (n:Nat) (r:Row):Str:=(List.range n).map (A51 r)
def C24 (n:Nat) (r:Row):List Str:=if ended r.Text=true then [P0 n r++r.Text.dropLast] else [P0 n r++r.Text,noNl]
def A11 (n:Nat) (r:Row):List Str:=if ended r.Text=true then [P0 n r++r.Text] else [P0 n r++r.Text,markS]
def A19 (n:Nat) (h:CHunk):List Str:=Y8 n h::(h.Rows.map (C24 n)).flatten
def X6 (n:Nat) (h:CHunk):List Str:=(Y8 n h++[10])::(h.Rows.map (A11 n)).flatten
def ccS:Str:=[100,105,102,102,32,45,45,99,99,32]
def combS:Str:=[100,105,102,102,32,45,45,99,111,109,98,105,110,101,100,32]
def parS:Str:=[112,97,114,101,110,116,115,32]
def D04 (d:Bool):Str:=if d=true then ccS else combS
def B68 (c:Comb):List Str:=(D04 c.Dense++I9 c.Path)::(parS++K3 c.Parents)::(c.Hunks.map (A19 c.Parents.toNat)).flatten
def I33 (c:Comb):List Str:=(D04 c.Dense++I9 c.Path++[10])::(parS++K3 c.Parents++[10])::(c.Hunks.map (X6 c.Parents.toNat)).flatten
def T6 (c:Comb):Str:=(I33 c).flatten
theorem I34 (n:Nat) (r:Row):Q0 (C24 n r)=(A11 n r).flatten:=by
 unfold C24 A11
 by_cases h:ended r.Text=true
 ·rw [if_pos h,if_pos h]
  obtain ⟨a,ha⟩:=ended_iff.1 h
  rw [ha];unfold Q0;simp
 ·rw [if_neg h,if_neg h,K00];unfold Q0;simp
theorem H51 (n:Nat) (rs:List Row):Q0 ((rs.map (C24 n)).flatten)=((rs.map (A11 n)).flatten).flatten:=by
 induction rs with
 | nil=>rfl
 | cons x r ih=>simp only [K63,K72,E83,ih,I34,K86]
theorem G67 (n:Nat) (h:CHunk):Q0 (A19 n h)=(X6 n h).flatten:=by
 unfold A19 X6
 rw [B65,H51,K72]
theorem H52 (c:Comb):Q0 (B68 c)=T6 c:=by
 unfold B68 T6 I33
 rw [B65,B65]
 have h:∀(n:Nat) (hs:List CHunk),Q0 ((hs.map (A19 n)).flatten)=((hs.map (X6 n)).flatten).flatten:=by
  intro n hs
  induction hs with
  | nil=>rfl
  | cons x r ih=>simp only [K63,K72,E83,ih,G67,K86]
 rw [h];simp
def C48 (n:Nat) (ends:List Int) (h:CHunk):Bool:=decide (h.At.length=n+1∧h.Rows≠[])&&(List.range (n+1)).all fun k=>decide ((ends.getD k 0≤h.At.getD k 0∧h.At.getD k 0≤4096)∧h.At.getD k 0+M1 h.Rows n k≤4096)
def U5 (n:Nat) (h:CHunk):List Int:=(List.range (n+1)).map fun k=>h.At.getD k 0+M1 h.Rows n k
def W2 (n:Nat) (ends:List Int):List CHunk→Bool
 | []=>true
 | h::r=>C48 n ends h&&W2 n (U5 n h) r
def d7 (hs:List CHunk):List Row:=(hs.map (·.Rows)).flatten
def T3 (n:Nat) (hs:List CHunk):Bool:=W2 n (List.replicate (n+1) 0) hs&&c9 (d7 hs) n
def p9 (n:Nat) (hs:List CHunk):Bool:=hs.all fun h=>R4 h.Rows n
def G8 (c:Comb):Int:=if X3 c.Path=false then 120 else if c.Parents < 1∨32 < c.Parents then 2 else if p9 c.Parents.toNat c.Hunks=false then 180 else if T3 c.Parents.toNat c.Hunks=false then 121 else if 16777216 < (T6 c).length then 1 else 0
theorem B12 {n:Nat} {r:Row} (h:R7 n r=true):0≤r.Marks∧r.Marks < 2 ^ n∧(r.Lost=true→r.Marks≠0):=by
 unfold R7 at h
 simp only [K59,beq_iff_eq,Bool.not_eq_true',Bool.and_eq_false_iff,beq_eq_false_iff_ne] at h
 obtain ⟨h1,h2⟩:=h
 have hp:(0:Int) < 2 ^ n:=Int.pow_pos (by decide)
 have h3:=Int.emod_add_mul_ediv r.Marks (2 ^ n)
 have h4:=Int.emod_nonneg r.Marks (Int.ne_of_gt hp)
 have h5:=Int.emod_lt_of_pos r.Marks hp
 rw [h1,Int.mul_zero,Int.add_zero] at h3
 rw [h3] at h4 h5
 refine ⟨h4,h5,fun hl=>?_⟩
 rcases h2 with h2 | h2
 ·rw [hl] at h2;cases h2
 ·exact h2
theorem pow32 {n:Nat} (h:n≤32):(2:Int) ^ n≤4294967296:=by
 have h1:(2:Nat) ^ n≤2 ^ 32:=Nat.pow_le_pow_right (by omega) h
 have h2:((2 ^ n:Nat):Int)=2 ^ n:=by simp
 have h3:(2:Nat) ^ 32=4294967296:=rfl
 omega
theorem K03 {n:Nat} (hn:n≤32) {rows:List Row} (h:R4 rows n=true):J8 rows:=by
 intro r hr
 have h1:=B12 (List.all_eq_true.1 h r hr)
 have:=pow32 hn
 omega
def Y9 (n:Nat) (ends:List Int) (h:CHunk):Bool:=decide (h.At.length=n+1∧h.Rows≠[])&&(List.range (n+1)).all fun k=>decide (ends.getD k 0≤h.At.getD k 0∧h.At.getD k 0≤4096)
def r5 (res:Bool) (rows:List Row):Bool:=rows.foldl B54 res
def r7 (par:Int) (rows:List Row):Int:=rows.foldl B55 par
def r8 (n:Nat) (ends:List Int) (res:Bool) (par:Int):List CHunk→Bool
 | []=>decide (∀e∈ends,e≤4096)
 | h::r=>Y9 n ends h&&(P8 res par h.Rows&&r8 n (U5 n h) (r5 res h.Rows) (r7 par h.Rows) r)
theorem E84:∀(a b:List Row) (res:Bool) (par:Int),P8 res par (a++b)=(P8 res par a&&P8 (r5 res a) (r7 par a) b)
 | [],b,res,par=>by simp [P8,r5,r7]
 | x::a,b,res,par=>by
  rw [K82,P8,P8,E84 a b]
  simp only [r5,r7,K89,Bool.and_assoc]
theorem A34 (f:Nat→Int) (n k:Nat) (h:k < n):((List.range n).map f).getD k 0=f k:=by
 rw [K60,K88,K97 h];rfl
theorem E85 {n:Nat} {ends:List Int} (hl:ends.length=n+1):(∀e∈ends,e≤4096)↔∀k,k < n+1→ends.getD k 0≤4096:=by
 constructor
 ·intro h k hk
  rw [K60,K57 (by omega)]
  exact h _ (K76 _)
 ·intro h e he
  obtain ⟨k,hk,rfl⟩:=List.getElem_of_mem he
  have:=h k (by omega)
  rwa [K60,K57 hk] at this
theorem C49 (n:Nat) (h:CHunk):(U5 n h).length=n+1:=by unfold U5;simp
theorem D83 (n:Nat):∀(hs:List CHunk) (ends:List Int) (res:Bool) (par:Int),ends.length=n+1 →
  r8 n ends res par hs=(decide (∀e∈ends,e≤4096)&&W2 n ends hs&&P8 res par (d7 hs))
 | [],ends,res,par,_=>by simp [r8,W2,d7,P8]
 | h::r,ends,res,par,hl=>by
  have ih:=D83 n r (U5 n h) (r5 res h.Rows) (r7 par h.Rows) (C49 n h)
  have e1:d7 (h::r)=h.Rows++d7 r:=by simp [d7]
  rw [r8,ih,W2,e1,E84]
  have e2:(Y9 n ends h&&decide (∀e∈U5 n h,e≤4096))=(decide (∀e∈ends,e≤4096)&&C48 n ends h):=by
   rw [Bool.eq_iff_iff]
   unfold Y9 C48
   simp only [K59,decide_eq_true_eq,List.all_eq_true,List.mem_range]
   rw [E85 hl,E85 (C49 n h)]
   have e3:∀k,k < n+1→(U5 n h).getD k 0=h.At.getD k 0+M1 h.Rows n k:=fun k hk=>A34 _ _ _ hk
   constructor
   ·rintro ⟨⟨h1,h2⟩,h3⟩
    exact ⟨fun k hk=>by have:=h2 k hk;omega,h1,fun k hk=>⟨h2 k hk,by have:=h3 k hk;rwa [e3 k hk] at this⟩⟩
   ·rintro ⟨_,h2,h3⟩
    exact ⟨⟨h2,fun k hk=>(h3 k hk).1⟩,fun k hk=>by rw [e3 k hk];exact (h3 k hk).2⟩
  generalize Y9 n ends h=A at e2 ⊢
  generalize decide (∀e∈U5 n h,e≤4096)=B at e2 ⊢
  generalize decide (∀e∈ends,e≤4096)=C at e2 ⊢
  generalize C48 n ends h=D at e2 ⊢
  generalize P8 res par h.Rows=E
  generalize W2 n (U5 n h) r=F
  generalize P8 (r5 res h.Rows) (r7 par h.Rows) (d7 r)=G
  cases A<;>cases B<;>cases C<;>cases D<;>first | (cases e2;done) | (cases E<;>cases F<;>cases G<;>rfl)
theorem F92 {n:Nat} {hs:List CHunk} (h:p9 n hs=true):R4 (d7 hs) n=true:=by
 unfold R4 d7
 rw [List.all_eq_true]
 intro r hr
 obtain ⟨l,h1,h2⟩:=List.mem_flatten.1 hr
 obtain ⟨x,hx,rfl⟩:=List.mem_map.1 h1
 exact List.all_eq_true.1 (List.all_eq_true.1 h x hx) r h2
theorem H53 {n:Nat} (hn:n≤32) {hs:List CHunk} (h:p9 n hs=true):r8 n (List.replicate (n+1) 0) false 0 hs=T3 n hs:=by
 rw [D83 n hs _ _ _ (List.length_replicate ..),E66 _ n hn (F92 h) (K03 hn (F92 h))]
 have:∀L:List Int,(∀e∈L,e≤4096)→decide (∀e∈L,e≤4096)=true:=fun L h=>decide_eq_true h
 rw [this _ (fun e he=>by have:=(List.mem_replicate.1 he).2;omega)];rfl
theorem B96 {n:Nat}:∀(hs:List CHunk) (ends:List Int),(∀k,k < n+1→0≤ends.getD k 0)→W2 n ends hs=true→∀h∈hs,h.At.length=n+1∧h.Rows≠[]∧∀k,k < n+1→0≤h.At.getD k 0∧h.At.getD k 0+M1 h.Rows n k≤4096
 | [],_,_,_,h,hm=>by cases hm
 | x::r,ends,he,hg,h,hm=>by
  rw [W2,K59] at hg
  obtain ⟨h1,h2⟩:=hg
  unfold C48 at h1
  simp only [K59,decide_eq_true_eq,List.all_eq_true,List.mem_range] at h1
  obtain ⟨⟨h3,h4⟩,h5⟩:=h1
  have hx:∀k,k < n+1→0≤x.At.getD k 0∧x.At.getD k 0+M1 x.Rows n k≤4096:=fun k hk=>by have:=h5 k hk;have:=he k hk;omega
  rcases List.mem_cons.1 hm with rfl | hm
  ·exact ⟨h3,h4,hx⟩
  ·refine B96 r _ (fun k hk=>?_) h2 h hm
   rw [show (U5 n x).getD k 0=x.At.getD k 0+M1 x.Rows n k from A34 _ _ _ hk]
   have:=hx k hk
   have:0≤M1 x.Rows n k:=by unfold M1;omega
   omega
structure CRead (n:Nat) (h:CHunk):Prop where
 len:h.At.length=n+1
 ne:h.Rows≠[]
 at0:∀k,k < n+1→0≤h.At.getD k 0∧h.At.getD k 0+M1 h.Rows n k≤4096
 rows:∀r∈h.Rows,R7 n r=true∧H8 r.Text=true
theorem B13 {c:Comb} (h:G8 c=0):(1≤c.Parents.toNat∧c.Parents.toNat≤32)∧c.Parents=(c.Parents.toNat:Int)∧(∀x∈c.Hunks,CRead c.Parents.toNat x)∧(T6 c).length≤16777216∧X3 c.Path=true:=by
 unfold G8 at h
 split at h
 ·cases h
 ·rename_i h0
  split at h
  ·cases h
  ·rename_i h1
   split at h
   ·cases h
   ·rename_i h2
    split at h
    ·cases h
    ·rename_i h3
     split at h
     ·cases h
     ·rename_i h4
      refine ⟨by omega,by omega,?_,by omega,by simpa using h0⟩
      intro x hx
      have h2:p9 c.Parents.toNat c.Hunks=true:=by simpa using h2
      have h3:T3 c.Parents.toNat c.Hunks=true:=by simpa using h3
      unfold T3 at h3
      rw [K59] at h3
      obtain ⟨a1,a2,a3⟩:=B96 c.Hunks _ (fun k hk=>by rw [K60,List.getElem?_replicate_of_lt hk];exact Int.le_refl _) h3.1 x hx
      refine ⟨a1,a2,a3,fun r hr=>⟨List.all_eq_true.1 (List.all_eq_true.1 h2 x hx) r hr,?_⟩⟩
      have h5:=h3.2
      unfold c9 at h5
      rw [K59] at h5
      exact List.all_eq_true.1 h5.1 r (List.mem_flatten.2 ⟨x.Rows,List.mem_map.2 ⟨x,hx,rfl⟩,hr⟩)
def H7 (c:UInt8) (s:Str):Nat→Nat
 | 0=>0
 | k+1=>H7 c s k+if s.getD k 0=c then 2 ^ k else 0
def A75 (c:UInt8):Bool:=decide (c=32∨c=43∨c=45)
def rowAt (s:Str) (n:Nat):Option Row :=
 if n < 1∨32 < n∨s.length < n∨(s.take n).all A75=false∨(H7 43 s n≠0∧H7 45 s n≠0) then none
 else some ⟨decide (H7 45 s n≠0),((H7 43 s n+H7 45 s n:Nat):Int),s.drop n⟩
theorem E10 (c:UInt8) (s:Str):∀k,H7 c s k < 2 ^ k
 | 0=>by simp [H7]
 | k+1=>by
  have:=E10 c s k
  rw [H7,Nat.pow_succ]
  split<;>omega
theorem H54 {c d:UInt8} (h:c≠d) (s:Str):∀k,H7 c s k+H7 d s k < 2 ^ k
 | 0=>by simp [H7]
 | k+1=>by
  have:=H54 h s k
  rw [H7,H7,Nat.pow_succ]
  by_cases h1:s.getD k 0=c
  ·rw [if_pos h1,if_neg (fun e=>h (h1.symm.trans e))];omega
  ·rw [if_neg h1];split<;>omega
theorem W7 (n:Nat) (r:Row):(P0 n r).length=n:=by simp [P0]
theorem J45 (n:Nat) (r:Row) (t:Str) {k:Nat} (h:k < n):(P0 n r++t).getD k 0=A51 r k:=by
 rw [K60,K69 (by rw [W7];exact h)]
 unfold P0
 rw [K88,K97 h];rfl
theorem C50 (n:Nat) (r:Row):(P0 n r).all A75=true:=by
 rw [List.all_eq_true]
 intro c hc
 obtain ⟨p,_,rfl⟩:=List.mem_map.1 hc
 unfold A51
 split
 ·rfl
 ·split<;>rfl
theorem E86 {n m:Nat} {r:Row} (hm:r.Marks=(m:Int)) (t:Str):∀k,k≤n→H7 43 (P0 n r++t) k=(if r.Lost=true then 0 else m % 2 ^ k)∧H7 45 (P0 n r++t) k=(if r.Lost=true then m % 2 ^ k else 0)
 | 0,_=>by simp [H7,Nat.mod_one]
 | k+1,hk=>by
  obtain ⟨h1,h2⟩:=E86 (n:=n) hm t k (by omega)
  have hb:V0 r.Marks k=m.testBit k:=by rw [hm,j9]
  have h3:m % 2 ^ (k+1)=m % 2 ^ k+2 ^ k*(m / 2 ^ k % 2):=Nat.mod_pow_succ
  have h4:m.testBit k=decide (m / 2 ^ k % 2=1):=Nat.testBit_eq_decide_div_mod_eq
  rw [H7,H7,h1,h2,J45 n r t (k:=k) (by omega)]
  unfold A51
  rw [hb,h4]
  by_cases h5:m / 2 ^ k % 2=1
  ·rw [h5] at h3
   cases hl:r.Lost<;>simp [h5,h3]
  ·have h6:m / 2 ^ k % 2=0:=by omega
   rw [h6] at h3
   cases hl:r.Lost<;>simp [h6,h3]
theorem K04 {n:Nat} {r:Row} (hn:1≤n∧n≤32) (h:R7 n r=true) (t:Str):rowAt (P0 n r++t) n=some ⟨r.Lost,r.Marks,t⟩:=by
 obtain ⟨h1,h2,h3⟩:=B12 h
 obtain ⟨m,hm⟩:∃m:Nat,r.Marks=m:=⟨r.Marks.toNat,by omega⟩
 obtain ⟨h4,h5⟩:=E86 hm t n (Nat.le_refl _)
 have hmn:m < 2 ^ n:=by
  have e:((2 ^ n:Nat):Int)=2 ^ n:=by simp
  omega
 rw [Nat.mod_eq_of_lt hmn] at h4 h5
 have ht:(P0 n r++t).take n=P0 n r:=by rw [List.take_append_of_le_length (by rw [W7];omega),K92 (by rw [W7];omega)]
 have hd:(P0 n r++t).drop n=t:=by
  have:=List.drop_left (l₁:=P0 n r) (l₂:=t)
  rwa [W7] at this
 cases hl:r.Lost
 ·rw [hl,if_neg (by decide)] at h4 h5
  unfold rowAt
  rw [ht,hd,h4,h5,C50,K56,W7,if_neg (by simp;omega),hm];simp
 ·have h6:m≠0:=fun e=>h3 hl (by omega)
  rw [hl,if_pos rfl] at h4 h5
  unfold rowAt
  rw [ht,hd,h4,h5,C50,K56,W7,if_neg (by simp;omega),hm];simp [h6]
def M9 (c:UInt8):Str→List Str
 | []=>[[]]
 | x::r=>if x=c then []::M9 c r else match M9 c r with
  | []=>[[x]]
  | a::b=>(x::a)::b
theorem J46 (c:UInt8):∀s,M9 c s≠[]
 | []=>by simp [M9]
 | x::r=>by
  unfold M9
  split
  ·simp
  ·split<;>simp
theorem B69 {c:UInt8}:∀{a:Str},c∉a→M9 c a=[a]
 | [],_=>rfl
 | x::r,h=>by
  simp only [K90,not_or] at h
  unfold M9
  rw [if_neg (fun e=>h.1 e.symm),B69 h.2]
theorem C51 {c:UInt8} (b:Str):∀{a:Str},c∉a→M9 c (a++c::b)=a::M9 c b
 | [],_=>by
  show M9 c (c::b)=_
  rw [M9,if_pos rfl]
 | x::r,h=>by
  simp only [K90,not_or] at h
  rw [K82,M9,if_neg (fun e=>h.1 e.symm),C51 b h.2]
theorem r9 (c:UInt8):∀s,(M9 c s).length=s.count c+1
 | []=>rfl
 | x::r=>by
  have ih:=r9 c r
  unfold M9
  by_cases h:x=c
  ·rw [if_pos h,K58,ih,List.count_cons,if_pos (by simp [h])]
  ·rw [if_neg h,List.count_cons,if_neg (by simp [h])]
   split
   ·rename_i e;exact absurd e (J46 c r)
   ·rename_i a b e;rw [e] at ih;simpa using ih
def P2 (n:Nat):Nat→List Str→Option (List Int)
 | _,[]=>some []
 | k,w::r=>if w.take 1=[A18 n k] then (match s9 (w.drop 1) with
  | some (a,_,e)=>if e=(w.drop 1).length then (P2 n (k+1) r).map (a::·) else none
  | none=>none) else none
def C52 (n:Nat):Str:=[32]++atS (n+1)
def D05 (n:Nat):Str:=atS (n+1)++[32]
def R1 (s p:Str):Bool:=decide (p.length≤s.length∧s.drop (s.length - p.length)=p)
def A35 (n:Nat) (l:Str):Option (List Int) :=
 if l.take (n+2)=D05 n∧R1 (l.drop (n+2)) (C52 n)=true then
  (match P2 n 0 (M9 32 ((l.drop (n+2)).take ((l.drop (n+2)).length - (n+2)))) with
   | some a=>if a.length=n+1 then some a else none
   | none=>none)
 else none
theorem H55 {d:UInt8} (hd:d=10∨d=32) (a n:Int):d∉I7 a n:=by
 have hf:∀n:Int,d∉K3 n:=by
  intro n
  by_cases h:n < 0∨2147483647 < n
  ·unfold K3;rw [if_pos h];simp
  ·rw [E09 (by omega) (by omega)]
   intro h
   have:=(C47 n.toNat).1 _ h
   rcases hd with rfl | rfl<;>(revert this;decide)
 have h1:=hf a;have h2:=hf (a+1);have h3:=hf n
 have h4:d≠44:=by rcases hd with rfl | rfl<;>decide
 have h5:d≠48:=by rcases hd with rfl | rfl<;>decide
 unfold I7
 split
 ·simp
 ·split
  ·simp [h1,h4,h5]
  ·split
   ·exact h2
   ·simp [h2,h3,h4]
theorem sgn_ne (n k:Nat):(32:UInt8)≠A18 n k∧(10:UInt8)≠A18 n k:=by unfold A18;split<;>decide
def D84 (n:Nat) (h:CHunk) (k:Nat):Str:=A18 n k::I7 (h.At.getD k 0) (M1 h.Rows n k)
theorem H56 (n:Nat) (h:CHunk) (k:Nat):(32:UInt8)∉D84 n h k:=by
 unfold D84
 simp only [K90,not_or]
 exact ⟨(sgn_ne n k).1,H55 (.inr rfl) _ _⟩
theorem E11 (n:Nat) (h:CHunk) (k:Nat):B67 n h k=32::D84 n h k:=rfl
def z6 (n:Nat) (h:CHunk):Nat→Nat→Str
 | 0,_=>[]
 | m+1,k=>B67 n h k++z6 n h m (k+1)
theorem H57 (n:Nat) (h:CHunk):∀(m k:Nat),z6 n h m k=((List.range' k m).map (B67 n h)).flatten
 | 0,_=>rfl
 | m+1,k=>by rw [z6,H57 n h m (k+1),List.range'_succ];simp
theorem I35 (n:Nat) (h:CHunk) (m:Nat):V6 n h m=z6 n h m 0:=by
 unfold V6;rw [H57,List.range_eq_range']
theorem F93 (n:Nat) (h:CHunk):∀(m k:Nat),M9 32 (z6 n h (m+1) k).tail=(List.range' k (m+1)).map (D84 n h)
 | 0,k=>by
  rw [z6,z6,K81,E11,List.tail_cons,B69 (H56 n h k)];rfl
 | m+1,k=>by
  have ih:=F93 n h m (k+1)
  have e:z6 n h (m+1+1) k=32::(D84 n h k++32::(z6 n h (m+1) (k+1)).tail):=by
   rw [z6,E11]
   have:z6 n h (m+1) (k+1)=32::(z6 n h (m+1) (k+1)).tail:=by rw [z6,E11];rfl
   conv=>lhs;rw [this]
   rfl
  rw [e,List.tail_cons,C51 _ (H56 n h k),ih,List.range'_succ (n:=m+1)];rfl
theorem E87 {l:List Int} {k:Nat} (h:k < l.length):l.drop k=l.getD k 0::l.drop (k+1):=by
 rw [K64 h,K60,K57 h];rfl
theorem E88 {n:Nat} {h:CHunk} (hl:h.At.length=n+1) (ha:∀k,k < n+1→0≤h.At.getD k 0∧h.At.getD k 0+M1 h.Rows n k≤4096):∀(m k:Nat),k+m=n+1→P2 n k ((List.range' k m).map (D84 n h))=some (h.At.drop k)
 | 0,k,hk=>by
  have:h.At.drop k=[]:=K66 (by omega)
  rw [this];rfl
 | m+1,k,hk=>by
  have ih:=E88 hl ha m (k+1) (by omega)
  obtain ⟨a1,a2⟩:=ha k (by omega)
  have hc:0≤M1 h.Rows n k:=by unfold M1;omega
  have hr:=J43 (t:=[]) a1 hc (by omega) (by omega) (by intro c hc;cases hc)
  rw [K81] at hr
  rw [List.range'_succ,K63,P2]
  have e1:(D84 n h k).take 1=[A18 n k]:=rfl
  have e2:(D84 n h k).drop 1=I7 (h.At.getD k 0) (M1 h.Rows n k):=rfl
  rw [if_pos e1,e2,hr]
  dsimp only
  rw [if_pos rfl,ih,E87 (l:=h.At) (k:=k) (by omega)];rfl
theorem x8 (n:Nat):(atS n).length=n:=by simp [atS]
theorem I36 {n:Nat} {h:CHunk} (hr:CRead n h):A35 n (Y8 n h)=some h.At:=by
 have hj:z6 n h (n+1) 0=32::(z6 n h (n+1) 0).tail:=by rw [z6,E11];rfl
 obtain ⟨T,hT⟩:∃T,T=(z6 n h (n+1) 0).tail:=⟨_,rfl⟩
 have e:Y8 n h=D05 n++(T++C52 n):=by
  unfold Y8 D05 C52
  rw [I35,hj,←hT];simp
 have hp:(D05 n).length=n+2:=by simp [D05,x8]
 have hs:(C52 n).length=n+2:=by simp [C52,x8]
 have t1:(Y8 n h).take (n+2)=D05 n:=by rw [e,←hp,List.take_left]
 have d1:(Y8 n h).drop (n+2)=T++C52 n:=by rw [e,←hp,List.drop_left]
 have l1:(T++C52 n).length - (n+2)=T.length:=by rw [K56,hs];omega
 unfold A35
 rw [t1,d1,if_pos ⟨rfl,by unfold R1;rw [hs,l1,List.drop_left];simp [hs]⟩,l1,List.take_left,hT,F93,E88 hr.len hr.at0 (n+1) 0 (by omega)]
 dsimp only
 rw [List.drop_zero,if_pos hr.len]
end Go.AL
namespace Go.AL
open Go
def A07 (a:Str):Option (Bool × Str):=if a.take 10=ccS then some (true,a.drop 10) else if a.take 16=combS then some (false,a.drop 16) else none
def s5 (q:Bool) (a b:Str):Option (Bool × Str × Int) :=
 match A07 a with
 | none=>none
 | some (d,x)=>if b.take 8=parS then (match Y7 x,b9 (b.drop 8) with
  | some (w,e),some (n,e2)=>if (q=true→e=x.length∧e2=(b.drop 8).length)∧1≤n∧n≤32 then some (d,w,(n:Int)) else none
  | _,_=>none) else none
theorem I37 (q d:Bool) (p:Str) (n:Int) (hn:1≤n∧n≤32):s5 q (D04 d++I9 p) (parS++K3 n)=some (d,p,n):=by
 have hk:A07 (D04 d++I9 p)=some (d,I9 p):=by
  cases d
  ·have h2:(combS++I9 p).take 16=combS:=rfl
   have h1:(combS++I9 p).take 10≠ccS:=by
    intro h
    have:=congrArg (fun l=>l[8]?) h
    revert this
    show ¬(some (111:UInt8)=some 99)
    decide
   show A07 (combS++I9 p)=_
   unfold A07
   rw [if_neg h1,if_pos h2];rfl
  ·show A07 (ccS++I9 p)=_
   have h2:(ccS++I9 p).take 10=ccS:=rfl
   unfold A07
   rw [if_pos h2];rfl
 have hf:=B95 (n:=n) (t:=[]) (by omega) (by omega) (by intro c hc;cases hc)
 rw [K81] at hf
 have h8:(parS++K3 n).take 8=parS:=rfl
 have d8:(parS++K3 n).drop 8=K3 n:=rfl
 unfold s5
 rw [hk]
 dsimp only
 rw [if_pos h8,d8,I31,hf]
 dsimp only
 rw [if_pos ⟨fun _=>⟨rfl,rfl⟩,by omega,by omega⟩,show ((n.toNat:Nat):Int)=n by omega]
def G68 (hs:List CHunk) (r:Row):Option (List CHunk):=match hs.getLast? with
 | none=>none
 | some h=>some (hs.dropLast++[⟨h.At,h.Rows++[r]⟩])
def E89 (hs:List CHunk):Option (List CHunk):=match hs.getLast? with
 | none=>none
 | some h=>match h.Rows.getLast? with
  | none=>none
  | some r=>some (hs.dropLast++[⟨h.At,h.Rows.dropLast++[⟨r.Lost,r.Marks,B66 r.Text⟩]⟩])
def V2 (n:Nat) (hs:List CHunk) (l:Str):Option (List CHunk) :=
 if l.take 1=[64] then (match A35 n l with | none=>none | some a=>some (hs++[⟨a,[]⟩]))
 else if hs=[] then none
 else if l=noNl then E89 hs
 else match rowAt (l++[10]) n with
  | none=>none
  | some r=>G68 hs r
def Z0 (n:Nat) (hs:List CHunk):List Str→Option (List CHunk)
 | []=>some hs
 | x::r=>match V2 n hs x with
  | none=>none
  | some g=>Z0 n g r
def Z1 (l:List Str):Option Comb:=match l with
 | a::b::r=>(match s5 true a b with
  | some (d,p,n)=>(match Z0 n.toNat [] r with | some hs=>some ⟨p,d,n,hs⟩ | none=>none)
  | none=>none)
 | _=>none
theorem K05 {n:Nat} (r:Row) (hn:1≤n) (t:Str):∃s,P0 n r++t=A51 r 0::s:=by
 obtain ⟨m,rfl⟩:∃m,n=m+1:=⟨n - 1,by omega⟩
 unfold P0
 rw [List.range_succ_eq_map]
 exact ⟨_,rfl⟩
theorem K06 (r:Row) (p:Nat):A51 r p≠64∧A51 r p≠92∧A51 r p≠10:=by unfold A51;split;decide;split<;>decide
theorem K07 {n:Nat} (hn:1≤n∧n≤32) (hs:List CHunk) (a:List Int) (rs:List Row) (r:Row) (rest:List Str) (hg:R7 n r=true):Z0 n (hs++[⟨a,rs⟩]) (C24 n r++rest)=Z0 n (hs++[⟨a,rs++[r]⟩]) rest:=by
 have hadd:∀t:Str,V2 n (hs++[⟨a,rs⟩]) (P0 n r++t)=some (hs++[⟨a,rs++[⟨r.Lost,r.Marks,t++[10]⟩]⟩]):=by
  intro t
  obtain ⟨s,e⟩:=K05 r hn.1 t
  have hb:=K06 r 0
  unfold V2
  rw [if_neg (by rw [e];simpa using hb.1),if_neg (by simp),if_neg (by rw [e];intro h;injection h with h;exact hb.2.1 h),K68,K04 hn hg]
  unfold G68;simp
 unfold C24
 split
 ·rename_i he
  obtain ⟨x,hx⟩:=ended_iff.1 he
  rw [K82,K78,Z0,hadd]
  dsimp only
  rw [hx,List.dropLast_concat,←hx]
 ·rename_i he
  rw [K82,Z0,hadd]
  dsimp only
  have h2:V2 n (hs++[⟨a,rs++[⟨r.Lost,r.Marks,r.Text++[10]⟩]⟩]) noNl=some (hs++[⟨a,rs++[r]⟩]):=by
   unfold V2
   rw [if_neg (by decide),if_neg (by simp),if_pos rfl]
   unfold E89
   simp only [List.getLast?_append,List.getLast?_singleton,Option.some_or,List.dropLast_concat]
   unfold B66
   rw [if_pos (D46 _),List.dropLast_concat]
  rw [K82,K78,Z0,h2]
theorem F94 {n:Nat} (hn:1≤n∧n≤32) (hs:List CHunk) (a:List Int):∀(xs rs:List Row) (rest:List Str),(∀r∈xs,R7 n r=true)→Z0 n (hs++[⟨a,rs⟩]) ((xs.map (C24 n)).flatten++rest)=Z0 n (hs++[⟨a,rs++xs⟩]) rest
 | [],rs,rest,_=>by simp
 | x::r,rs,rest,hg=>by
  rw [K63,K72,K68,K07 hn _ _ _ _ _ (hg x (by simp)),F94 hn hs a r _ _ (fun y hy=>hg y (by simp [hy])),K68];rfl
theorem K08 (n:Nat) (h:CHunk):(Y8 n h).take 1=[64]:=by
 unfold Y8 atS
 rw [List.replicate_succ];rfl
theorem D85 {n:Nat} (hn:1≤n∧n≤32):∀(xs hs:List CHunk),(∀h∈xs,CRead n h)→Z0 n hs ((xs.map (A19 n)).flatten)=some (hs++xs)
 | [],hs,_=>by simp [Z0]
 | h::r,hs,hg=>by
  have h1:=hg h (by simp)
  have e:((h::r).map (A19 n)).flatten=Y8 n h::((h.Rows.map (C24 n)).flatten++(r.map (A19 n)).flatten):=by simp [A19]
  have hs1:V2 n hs (Y8 n h)=some (hs++[⟨h.At,[]⟩]):=by
   unfold V2
   rw [if_pos (K08 n h),I36 h1]
  rw [e,Z0,hs1]
  dsimp only
  rw [F94 hn _ _ _ _ _ (fun x hx=>(h1.rows x hx).1),K78,D85 hn r _ (fun x hx=>hg x (by simp [hx])),K68];rfl
theorem H58 {c:Comb} (h:G8 c=0):Z1 (B68 c)=some c:=by
 obtain ⟨h1,h2,h3,_⟩:=B13 h
 unfold Z1 B68
 dsimp only
 rw [I37 true _ _ _ (by omega)]
 dsimp only
 rw [D85 h1 c.Hunks [] h3]
 rfl
def B14 (f:List Str→Option Comb) (s:Str):Comb × Int :=
 if 16777216 < s.length then (comb0,1) else match x3 s with
 | none=>(comb0,4)
 | some l=>match f l with
  | none=>(comb0,4)
  | some p=>if G8 p≠0∨T6 p≠s then (comb0,4) else (p,0)
theorem J47 (n:Nat) (h:CHunk):(10:UInt8)∉Y8 n h:=by
 have hw:(10:UInt8)∉V6 n h (n+1):=by
  unfold V6
  intro hm
  obtain ⟨l,h1,h2⟩:=List.mem_flatten.1 hm
  obtain ⟨k,_,rfl⟩:=List.mem_map.1 h1
  unfold B67 at h2
  simp only [K82,K78,K90] at h2
  rcases h2 with h2 | h2 | h2
  ·revert h2;decide
  ·exact (sgn_ne n k).2 h2
  ·exact H55 (.inl rfl) _ _ h2
 have ha:(10:UInt8)∉atS (n+1):=by unfold atS;intro h;have:=(List.mem_replicate.1 h).2;revert this;decide
 unfold Y8
 simp [hw,ha]
theorem K09 {n:Nat} {r:Row} (hl:H8 r.Text=true):∀t∈C24 n r,(10:UInt8)∉t:=by
 have hm:(10:UInt8)∉P0 n r:=by
  intro h
  have:=List.all_eq_true.1 (C50 n r) _ h
  revert this;decide
 obtain ⟨hne,hd⟩:=(w8 _).1 hl
 intro t ht
 unfold C24 at ht
 split at ht
 ·simp only [K90,K91,or_false] at ht
  subst ht
  simp [hm,hd]
 ·rename_i he
  simp only [K90,K91,or_false] at ht
  rcases ht with rfl | rfl
  ·simp only [L11,not_or]
   refine ⟨hm,fun h10=>?_⟩
   rw [←List.dropLast_concat_getLast hne] at h10
   rcases List.mem_append.1 h10 with h10 | h10
   ·exact hd h10
   ·simp only [K90,K91,or_false] at h10
    refine he (ended_iff.2 ⟨r.Text.dropLast,?_⟩)
    conv=>lhs;rw [←List.dropLast_concat_getLast hne]
    rw [h10]
  ·decide
theorem J48 {c:Comb} (h:G8 c=0):∀t∈B68 c,(10:UInt8)∉t:=by
 obtain ⟨h1,h2,h3,_⟩:=B13 h
 intro t ht
 unfold B68 at ht
 rcases List.mem_cons.1 ht with rfl | ht
 ·have:=I32 c.Path
  have hk:(10:UInt8)∉D04 c.Dense:=by cases c.Dense<;>decide
  simp [this,hk]
 ·rcases List.mem_cons.1 ht with rfl | ht
  ·have:=K01 c.Parents
   have hk:(10:UInt8)∉parS:=by decide
   simp [this,hk]
  ·obtain ⟨l,hl1,hl2⟩:=List.mem_flatten.1 ht
   obtain ⟨x,hx,rfl⟩:=List.mem_map.1 hl1
   unfold A19 at hl2
   rcases List.mem_cons.1 hl2 with rfl | hl2
   ·exact J47 _ _
   ·obtain ⟨l2,h4,h5⟩:=List.mem_flatten.1 hl2
    obtain ⟨y,hy,rfl⟩:=List.mem_map.1 h4
    exact K09 ((h3 x hx).rows y hy).2 t h5
theorem J49 {f:List Str→Option Comb} (hf:∀p:Comb,G8 p=0→f (B68 p)=some p) {p:Comb} (hc:G8 p=0):B14 f (T6 p)=(p,0):=by
 have hl:x3 (T6 p)=some (B68 p):=by rw [←H52];exact H50 _ (J48 hc)
 obtain ⟨_,_,_,h4,_⟩:=B13 hc
 unfold B14
 rw [if_neg (by omega),hl]
 dsimp only
 rw [hf p hc]
 dsimp only
 rw [if_neg]
 simp [hc]
end Go.AL
namespace Go.AL
open Go
def Q4 (r:Row):Nat:=r.Text.length+96
def C53 (h:CHunk):Nat:=2048+h.At.length+(h.Rows.map Q4).sum
def szC (hs:List CHunk):Nat:=(hs.map C53).sum
theorem l4 (rows:List Row):rows.length*96≤(rows.map Q4).sum:=by
 induction rows with
 | nil=>simp
 | cons x r ih=>simp only [K63,K85,K58,Q4] at ih ⊢;omega
theorem C54 (rows:List Row):P5 rows≤(rows.map Q4).sum:=by
 unfold P5
 induction rows with
 | nil=>simp
 | cons x r ih=>simp only [K63,K72,K56,K85,Q4] at ih ⊢;omega
theorem D47 {rows:List Row} {r:Row} (h:r∈rows):Q4 r≤(rows.map Q4).sum:=by
 induction rows with
 | nil=>cases h
 | cons x l ih =>
  simp only [K63,K85]
  rcases List.mem_cons.1 h with rfl | h
  ·omega
  ·have:=ih h;omega
theorem D06 {hs:List CHunk} {h:CHunk} (hm:h∈hs):C53 h≤szC hs:=by
 unfold szC
 induction hs with
 | nil=>cases hm
 | cons x l ih =>
  simp only [K63,K85]
  rcases List.mem_cons.1 hm with rfl | hm
  ·omega
  ·have:=ih hm;omega
theorem D07 (hs:List CHunk):hs.length*2048≤szC hs:=by
 unfold szC
 induction hs with
 | nil=>simp
 | cons x l ih =>
  have h2:2048≤C53 x:=by unfold C53;exact Nat.le_trans (Nat.le_add_right _ _) (Nat.le_add_right _ _)
  rw [K63,K85,K58,K80,Nat.one_mul,Nat.add_comm]
  exact Nat.add_le_add h2 ih
theorem I38 (rows:List Row) (k:Nat):((rows.take k).map Q4).sum≤(rows.map Q4).sum:=by
 conv=>rhs;rw [←K95 k rows,K73,K99]
 omega
theorem K10 (hs:List CHunk) (k:Nat):szC (hs.take k)≤szC hs:=by
 unfold szC
 conv=>rhs;rw [←K95 k hs,K73,K99]
 omega
theorem getI {l:List Int} {i:Nat} (h:i < l.length):l[i]?=some (l.getD i 0):=by simp [h]
theorem E90 (rows:List Row) (n k:Nat):0≤M1 rows n k∧M1 rows n k≤rows.length:=by
 have:=B88 rows (A06 n k)
 unfold M1;omega
theorem K11 (rows:List Row) (n k i:Nat) (h:i < rows.length):M1 (rows.take (i+1)) n k=M1 (rows.take i) n k+if a8 rows[i] (A06 n k)=true then 1 else 0:=by
 unfold M1 K0
 rw [K67 h,L04,K73,K56]
 by_cases hv:a8 rows[i] (A06 n k)=true<;>simp [hv]
def t6 (rows:List Row) (n i p:Nat):List Int:=(List.range (n+1)).map fun k=>M1 (rows.take (if k < p then i+1 else i)) n k
theorem J50 (rows:List Row) (n i p:Nat):(t6 rows n i p).length=n+1:=by unfold t6;simp
theorem I39 (rows:List Row) (n:Nat):t6 rows n 0 0=List.replicate (n+1) 0:=by
 unfold t6
 refine List.ext_getElem (by simp) fun k h1 h2=>?_
 simp [M1,K0]
theorem J51 (rows:List Row) (n i p:Nat) (hp:p≤n):(t6 rows n i p)[p]?=some (M1 (rows.take i) n p):=by
 unfold t6
 rw [K88,K97 (by omega)];simp
theorem E91 (f:Nat→Int) (n p:Nat) (v:Int):((List.range n).map f).set p v=(List.range n).map (fun k=>if k=p then v else f k):=by
 refine List.ext_getElem (by simp) fun k h1 h2=>?_
 rw [List.getElem_set,List.getElem_map,List.getElem_map,List.getElem_range]
 by_cases e:p=k
 ·rw [if_pos e,if_pos e.symm]
 ·rw [if_neg e,if_neg (fun h=>e h.symm)]
theorem I40 (rows:List Row) (n i p:Nat) (hi:i < rows.length) (hp:p≤n):t6 rows n i (p+1)=if a8 rows[i] (A06 n p)=true then (t6 rows n i p).set p (M1 (rows.take i) n p+1) else t6 rows n i p:=by
 have hs:=K11 rows n p i hi
 by_cases hv:a8 rows[i] (A06 n p)=true
 ·rw [if_pos hv] at hs ⊢
  unfold t6
  rw [E91]
  refine List.map_congr_left fun k hk=>?_
  by_cases e:k=p
  ·subst e;rw [if_pos rfl,if_pos (by omega),hs]
  ·rw [if_neg e]
   by_cases h3:k < p
   ·rw [if_pos (by omega),if_pos h3]
   ·rw [if_neg (by omega),if_neg h3]
 ·rw [if_neg hv] at hs ⊢
  unfold t6
  refine List.map_congr_left fun k hk=>?_
  by_cases e:k=p
  ·subst e;rw [if_pos (by omega),if_neg (by omega),hs];omega
  ·by_cases h3:k < p
   ·rw [if_pos (by omega),if_pos h3]
   ·rw [if_neg (by omega),if_neg h3]
theorem I41 (rows:List Row) (n i:Nat):t6 rows n i (n+1)=t6 rows n (i+1) 0:=by
 unfold t6
 refine List.map_congr_left fun k hk=>?_
 rw [if_pos (List.mem_range.1 hk),if_neg (by omega)]
theorem I42 (rows:List Row) (n:Nat):t6 rows n rows.length 0=F5 rows n:=by
 unfold t6 F5
 refine List.map_congr_left fun k hk=>?_
 rw [if_neg (by omega),K87]
theorem E92 (rows:List Row) (n:Nat):(F5 rows n).length=n+1:=by unfold F5;simp
theorem I43 (rows:List Row) (n k:Nat) (h:k < n+1):(F5 rows n)[k]?=some (M1 rows n k):=by
 unfold F5
 rw [K88,K97 h];rfl
def A08 (n:Nat) (h:CHunk) (k:Nat):List Int:=(List.range (n+1)).map fun j=>if j < k then h.At.getD j 0+M1 h.Rows n j else M1 h.Rows n j
theorem I44 (n:Nat) (h:CHunk) (k:Nat):(A08 n h k).length=n+1:=by unfold A08;simp
theorem H59 (n:Nat) (h:CHunk):A08 n h 0=F5 h.Rows n:=by
 unfold A08 F5
 refine List.map_congr_left fun k hk=>?_
 rw [if_neg (by omega)]
theorem I45 (n:Nat) (h:CHunk) (k:Nat) (hk:k < n+1):(A08 n h k)[k]?=some (M1 h.Rows n k):=by
 unfold A08
 rw [K88,K97 hk];simp
theorem I46 (n:Nat) (h:CHunk) (k:Nat):(A08 n h k).set k (M1 h.Rows n k+h.At.getD k 0)=A08 n h (k+1):=by
 unfold A08
 rw [E91]
 refine List.map_congr_left fun j hj=>?_
 by_cases e:j=k
 ·subst e;rw [if_pos rfl,if_pos (by omega)];omega
 ·rw [if_neg e]
  by_cases h3:j < k
  ·rw [if_pos h3,if_pos (by omega)]
  ·rw [if_neg h3,if_neg (by omega)]
theorem H60 (n:Nat) (h:CHunk):A08 n h (n+1)=U5 n h:=by
 unfold A08 U5
 refine List.map_congr_left fun k hk=>?_
 rw [if_pos (List.mem_range.1 hk)]
theorem D86 (n:Nat) (ends:List Int) (h:CHunk):Y9 n ends h=true↔(h.At.length=n+1∧h.Rows≠[])∧∀k,k < n+1→ends.getD k 0≤h.At.getD k 0∧h.At.getD k 0≤4096:=by
 unfold Y9
 simp only [K59,decide_eq_true_eq,List.all_eq_true,List.mem_range]
theorem J52 (n:Nat) (h:CHunk) (k:Nat):(B67 n h k).length≤26:=by
 have:=B56 (h.At.getD k 0) (M1 h.Rows n k)
 unfold B67;simp only [K56,K58,K61];omega
theorem B70 (n:Nat) (h:CHunk) (k:Nat):V6 n h (k+1)=V6 n h k++B67 n h k:=by
 unfold V6
 rw [K98,K73,K86];simp
theorem B15 (n:Nat) (h:CHunk):∀k,(V6 n h k).length≤26*k
 | 0=>by simp [V6]
 | k+1=>by
  have:=B15 n h k
  have:=J52 n h k
  rw [B70,K56];omega
theorem D48 {n:Nat} (hn:n≤32) (h:CHunk):(Y8 n h).length≤925:=by
 have:=B15 n h (n+1)
 unfold Y8
 simp only [K56,x8,K58,K61];omega
theorem F95 {n:Nat} (hn:n≤32) (r:Row):(A11 n r).flatten.length≤Q4 r:=by
 have hm:markS.length=29:=rfl
 unfold A11 Q4
 split<;>simp only [K72,L06,K56,W7,K61]<;>omega
theorem E93 {n:Nat} (hn:n≤32) (rs:List Row):((rs.map (A11 n)).flatten).flatten.length≤(rs.map Q4).sum:=by
 induction rs with
 | nil=>simp
 | cons x r ih =>
  have:=F95 hn x
  simp only [K63,K72,K86,K56,K85];omega
theorem H61 {n:Nat} (hn:n≤32) (h:CHunk):(X6 n h).flatten.length≤C53 h:=by
 have h1:=D48 hn h
 have h2:=E93 hn h.Rows
 unfold X6 C53
 simp only [K72,K56,K58,K61];omega
theorem G69 {n:Nat} (hn:n≤32) (hs:List CHunk):((hs.map (X6 n)).flatten).flatten.length≤szC hs:=by
 unfold szC
 induction hs with
 | nil=>simp
 | cons x r ih =>
  have:=H61 hn x
  simp only [K63,K72,K86,K56,K85];omega
def B16 (c:Comb):Str:=D04 c.Dense++I9 c.Path++[10]++(parS++K3 c.Parents++[10])
def cTo (c:Comb) (k:Nat):Str:=B16 c++(((c.Hunks.take k).map (X6 c.Parents.toNat)).flatten).flatten
theorem E94 (c:Comb):cTo c 0=B16 c:=by simp [cTo]
theorem H62 (c:Comb) (k:Nat) (h:k < c.Hunks.length):cTo c (k+1)=cTo c k++(X6 c.Parents.toNat c.Hunks[k]).flatten:=by
 unfold cTo
 rw [K67 h];simp only [K73,K63,K96,K86,K72,L06,K81,K68]
theorem E95 (c:Comb):cTo c c.Hunks.length=T6 c:=by
 unfold cTo B16 T6 I33
 rw [K87];simp
def rTo (n:Nat) (rs:List Row) (k:Nat):Str:=(((rs.take k).map (A11 n)).flatten).flatten
theorem H63 (n:Nat) (rs:List Row):rTo n rs 0=[]:=by simp [rTo]
theorem H64 (n:Nat) (rs:List Row) (k:Nat) (h:k < rs.length):rTo n rs (k+1)=rTo n rs k++(A11 n rs[k]).flatten:=by
 unfold rTo
 rw [K67 h];simp only [K73,K63,K96,K86,K72,L06,K81,K68]
theorem I84 {n:Nat} (hn:n≤32) (rs:List Row) (k:Nat):(rTo n rs k).length≤(rs.map Q4).sum:=by
 have:=E93 hn (rs.take k)
 have:=I38 rs k
 unfold rTo;omega
theorem F96 (n:Nat) (h:CHunk):(X6 n h).flatten=Y8 n h++[10]++rTo n h.Rows h.Rows.length:=by
 unfold X6 rTo
 rw [K87];simp
theorem E96 (p:Str):(I9 p).length≤4*p.length+2:=H36 p
theorem I85 (n:Int):(K3 n).length≤10:=w9 n
theorem E97 (c:Comb):(B16 c).length≤4*c.Path.length+48:=by
 have h1:=E96 c.Path
 have h2:=I85 c.Parents
 have h3:(D04 c.Dense).length≤16:=by cases c.Dense<;>decide
 have h4:parS.length=8:=rfl
 unfold B16
 simp only [K56,K58,K61];omega
theorem I86 (c:Comb) (hn:c.Parents.toNat≤32) (k:Nat):(cTo c k).length≤4*c.Path.length+48+szC c.Hunks:=by
 have h1:=E97 c
 have h2:=G69 hn (c.Hunks.take k)
 have h3:=K10 c.Hunks k
 unfold cTo
 rw [K56];omega
theorem H65 (n:Nat) (r:Row):P0 (n+1) r=P0 n r++[A51 r n]:=by
 unfold P0
 rw [K98,K73];rfl
theorem E98 (n:Nat) (r:Row):(A11 n r).flatten=P0 n r++r.Text++(if ended r.Text=true then [] else markS):=by
 unfold A11
 split<;>simp
end Go.AL
namespace Go.AL
open Go
def A76 (s:Str) (n:Int):Option Row:=if n < 1 then none else rowAt s n.toNat
theorem shl_nat (p:Nat) (h:p < 32):IntKind.u32.wrap (1*2 ^ (min ((p:Int)).toNat IntKind.u32.bits))=((2 ^ p:Nat):Int):=by
 have h2:2 ^ p < 2 ^ 32:=Nat.pow_lt_pow_right (by decide) h
 have e:(2:Int) ^ p=((2 ^ p:Nat):Int):=by simp
 rw [show min ((p:Int)).toNat IntKind.u32.bits=p by rw [K62];exact Nat.min_eq_left (by show p≤32;omega),Int.one_mul,e,A15 _ (by omega)]
theorem or_bit {x p:Nat} (h:x < 2 ^ p) (hp:p < 32):K9 (x:Int) ((2 ^ p:Nat):Int)=((x+2 ^ p:Nat):Int):=by
 have h2:2 ^ p < 2 ^ 32:=Nat.pow_lt_pow_right (by decide) hp
 rw [(A32 x (2 ^ p) (by omega) (by omega)).1]
 have h3:=Nat.two_pow_add_eq_or_of_lt h 1
 rw [Nat.mul_one] at h3
 rw [Nat.or_comm,←h3,Nat.add_comm]
theorem or_zero {x:Nat} (h:x < 4294967296):K9 (x:Int) 0=(x:Int):=by
 have:=(A32 x 0 h (by omega)).1
 simpa using this
theorem zero_or {x:Nat} (h:x < 4294967296):K9 0 (x:Int)=(x:Int):=by
 have:=(A32 0 x (by omega) h).1
 simpa using this
theorem F97 {s:Str} {p:Nat} {c:UInt8} (hv:s[p]?=some c) (d:UInt8):H7 d s (p+1)=H7 d s p+if c=d then 2 ^ p else 0:=by
 rw [H7,K60,hv];rfl
theorem J53 {s:Str} {p:Nat} {c:UInt8} (hv:s[p]?=some c):(s.take (p+1)).all A75=((s.take p).all A75&&A75 c):=by
 obtain ⟨h,rfl⟩:=List.getElem?_eq_some_iff.1 hv
 rw [K67 h,L05];simp
theorem sign_no {s:Str} {p N:Nat} {c:UInt8} (hp:p < N) (hv:s[p]?=some c) (hc:A75 c=false):(s.take N).all A75=false:=by
 rw [Bool.eq_false_iff]
 intro h
 have:=List.all_eq_true.1 h c (K75 (i:=p) (by rw [K77 hp];exact hv))
 rw [hc] at this;cases this
theorem rowI_no {s:Str} {n:Int} (h:n < 1∨32 < n∨(s.length:Int) < n):A76 s n=none:=by
 unfold A76
 by_cases h1:n < 1
 ·rw [if_pos h1]
 ·rw [if_neg h1];unfold rowAt;rw [if_pos (by omega)]
theorem J54 {s:Str} {N:Nat} (h:(s.take N).all A75=false):A76 s N=none:=by
 unfold A76
 by_cases h1:(N:Int) < 1
 ·rw [if_pos h1]
 ·rw [if_neg h1];unfold rowAt;rw [if_pos (.inr (.inr (.inr (.inl (by rw [K62];exact h)))))]
theorem J55 {s:Str} {N:Nat} (h:H7 43 s N≠0∧H7 45 s N≠0):A76 s N=none:=by
 unfold A76
 by_cases h1:(N:Int) < 1
 ·rw [if_pos h1]
 ·rw [if_neg h1];unfold rowAt;rw [if_pos (.inr (.inr (.inr (.inr (by rw [K62];exact h)))))]
theorem K12 {s:Str} {N:Nat} (h1:1≤N∧N≤32) (h2:N≤s.length) (h3:(s.take N).all A75=true) (h4:¬(H7 43 s N≠0∧H7 45 s N≠0)) :
  A76 s N=some ⟨decide (H7 45 s N≠0),((H7 43 s N+H7 45 s N:Nat):Int),s.drop N⟩:=by
 unfold A76
 rw [if_neg (by omega)]
 unfold rowAt
 rw [K62,if_neg]
 simp only [not_or]
 exact ⟨by omega,by omega,by omega,by rw [h3];decide,h4⟩
theorem F98 (c:UInt8) (s:Str) {k:Nat} (h:k≤32):H7 c s k < 4294967296:=by
 have h1:=E10 c s k
 have h2:2 ^ k≤2 ^ 32:=Nat.pow_le_pow_right (by decide) h
 omega
theorem bits_or {s:Str} {N:Nat} (hN:N≤32) (h:¬(H7 43 s N≠0∧H7 45 s N≠0)):K9 (H7 43 s N:Nat) (H7 45 s N:Nat)=((H7 43 s N+H7 45 s N:Nat):Int):=by
 have h1:=F98 43 s hN
 have h2:=F98 45 s hN
 by_cases h3:H7 43 s N=0
 ·rw [h3]
  have:=zero_or h2
  rw [Nat.zero_add];exact this
 ·have h4:H7 45 s N=0:=by omega
  rw [h4]
  have:=or_zero h1
  rw [Nat.add_zero];exact this
theorem J56 {s:Str} {n:Int} {r:Row} (h:A76 s n=some r):(1≤n∧n≤32)∧r.Text=s.drop n.toNat∧(0≤r.Marks∧r.Marks < 4294967296)∧n.toNat≤s.length:=by
 unfold A76 at h
 split at h
 ·cases h
 ·rename_i h0
  unfold rowAt at h
  split at h
  ·cases h
  ·rename_i h1
   simp only [not_or,Nat.not_lt] at h1
   obtain ⟨a1,a2,a3,a4,a5⟩:=h1
   have hb:=H54 (c:=43) (d:=45) (by decide) s n.toNat
   have hp:2 ^ n.toNat≤2 ^ 32:=Nat.pow_le_pow_right (by decide) a2
   cases h
   refine ⟨by omega,rfl,?_,a3⟩
   dsimp only
   omega
theorem E99 {c:UInt8}:∀(s:Str) (v:Str),v∈M9 c s→v.length≤s.length
 | [],v,h=>by simp [M9] at h;simp [h]
 | x::r,v,h=>by
  have ih:=E99 (c:=c) r
  unfold M9 at h
  split at h
  ·rcases List.mem_cons.1 h with rfl | h
   ·simp
   ·have:=ih v h;simp;omega
  ·split at h
   ·simp at h;simp [h]
   ·rename_i a b e
    rw [e] at ih
    rcases List.mem_cons.1 h with rfl | h
    ·have:=ih a (by simp);simp;omega
    ·have:=ih v (by simp [h]);simp;omega
end Go.AL
namespace Go.AL
open Go
def z7 (n:Nat) (rows:List Row):Int→List CHunk→List Span→Option (List CHunk)
 | _,hs,[]=>some hs
 | e,hs,s::r=>if s.From < e∨s.To≤s.From∨(rows.length:Int) < s.To then none else z7 n rows s.To (hs++[⟨F5 (rows.take s.From.toNat) n,(rows.drop s.From.toNat).take (s.To.toNat - s.From.toNat)⟩]) r
def A12 (path:Str) (t:Table) (sp:List Span) (d:Bool):Comb × Int :=
 if X3 path=false then (comb0,120) else if M6 t≠0 then (comb0,M6 t) else match z7 t.Parents.toNat t.Rows 0 [] sp with
  | none=>(comb0,3)
  | some hs=>if G8 ⟨path,d,t.Parents,hs⟩≠0 then (comb0,G8 ⟨path,d,t.Parents,hs⟩) else (⟨path,d,t.Parents,hs⟩,0)
theorem G70 (f:Row→Nat) (c n:Nat) (rows:List Row):∀(sp:List Span) (e:Int) (hs hs':List CHunk),0≤e→z7 n rows e hs sp=some hs'→(hs.map fun h=>c+(h.Rows.map f).sum).sum≤c*hs.length+((rows.take e.toNat).map f).sum→hs.length≤e.toNat →
  (hs'.map fun h=>c+(h.Rows.map f).sum).sum≤c*hs'.length+(rows.map f).sum∧hs'.length≤max rows.length hs.length
 | [],e,hs,hs',he,h,hw,hl=>by
  cases h
  refine ⟨?_,by omega⟩
  have:((rows.take e.toNat).map f).sum≤(rows.map f).sum:=by
   conv=>rhs;rw [←K95 e.toNat rows,K73,K99]
   omega
  omega
 | s :: r,e,hs,hs',he,h,hw,hl=>by
  rw [z7] at h
  split at h
  ·cases h
  ·rename_i hc
   simp only [not_or,Int.not_lt,Int.not_le] at hc
   obtain ⟨c1,c2,c3⟩:=hc
   have ih:=G70 f c n rows r s.To _ hs' (by omega) h
   have hsum:((rows.take e.toNat).map f).sum+(((rows.drop s.From.toNat).take (s.To.toNat - s.From.toNat)).map f).sum≤((rows.take s.To.toNat).map f).sum:=by
    have e1:rows.take s.To.toNat=rows.take s.From.toNat++(rows.drop s.From.toNat).take (s.To.toNat - s.From.toNat):=by
     have:=List.take_add (l:=rows) (i:=s.From.toNat) (j:=s.To.toNat - s.From.toNat)
     rw [show s.From.toNat+(s.To.toNat - s.From.toNat)=s.To.toNat by omega] at this
     exact this
    have e2:rows.take s.From.toNat=rows.take e.toNat++(rows.drop e.toNat).take (s.From.toNat - e.toNat):=by
     have:=List.take_add (l:=rows) (i:=e.toNat) (j:=s.From.toNat - e.toNat)
     rw [show e.toNat+(s.From.toNat - e.toNat)=s.From.toNat by omega] at this
     exact this
    rw [e1,K73,K99]
    conv=>rhs;rw [e2,K73,K99]
    omega
   have hih:=ih (by
    rw [K73,K99,K56]
    simp only [K63,K96,K85,L09,K58,K61,Nat.mul_add,Nat.mul_one,Nat.mul_zero]
    omega) (by rw [K56];simp;omega)
   refine ⟨hih.1,?_⟩
   have:=hih.2
   rw [K56] at this
   simp only [K58,K61] at this
   have h3:hs.length+1≤rows.length:=by omega
   omega
def CInvA (n:Nat) (hs:List CHunk):Prop:=∀h∈hs,h.At.length=n+1∧J8 h.Rows
theorem F00 {n:Nat} {rows:List Row} (hr:J8 rows):∀(sp:List Span) (e:Int) (hs hs':List CHunk),z7 n rows e hs sp=some hs'→CInvA n hs→CInvA n hs'
 | [],e,hs,hs',h,hi=>by cases h;exact hi
 | s::r,e,hs,hs',h,hi=>by
  rw [z7] at h
  split at h
  ·cases h
  ·refine F00 hr r _ _ hs' h ?_
   intro x hx
   rcases List.mem_append.1 hx with hx | hx
   ·exact hi x hx
   ·simp only [K90,K91,or_false] at hx
    rw [hx]
    exact ⟨E92 _ _,fun y hy=>hr y (List.mem_of_mem_drop (List.mem_of_mem_take hy))⟩
def D49 (n:Nat) (r:Row):Nat:=r.Text.length+n+29
theorem headC_w (n:Nat) (h:CHunk):(Y8 n h).length≤28*(n+1)+1:=by
 have:=B15 n h (n+1)
 unfold Y8
 simp only [K56,x8,K58,K61];omega
theorem K13 (n:Nat) (rs:List Row):((rs.map (A11 n)).flatten).flatten.length≤(rs.map (D49 n)).sum:=by
 have hm:markS.length=29:=rfl
 induction rs with
 | nil=>simp
 | cons x r ih =>
  have:(A11 n x).flatten.length≤D49 n x:=by
   unfold A11 D49
   split<;>simp only [K72,L06,K56,W7,K61]<;>omega
  simp only [K63,K72,K86,K56,K85];omega
theorem I47 (n:Nat) (hs:List CHunk):((hs.map (X6 n)).flatten).flatten.length≤(hs.map fun h=>(28*(n+1)+2)+(h.Rows.map (D49 n)).sum).sum:=by
 induction hs with
 | nil=>simp
 | cons x r ih =>
  have h1:=headC_w n x
  have h2:=K13 n x.Rows
  have h3:(X6 n x).flatten.length≤(28*(n+1)+2)+(x.Rows.map (D49 n)).sum:=by
   unfold X6
   simp only [K72,K56,K58,K61];omega
  rw [K63,K72,K86,K56,K63,K85]
  exact Nat.add_le_add h3 ih
theorem H66 (c:Comb):(T6 c).length≤4*c.Path.length+48+(c.Hunks.map fun h=>(28*(c.Parents.toNat+1)+2)+(h.Rows.map (D49 c.Parents.toNat)).sum).sum:=by
 have h1:=E97 c
 have h2:=I47 c.Parents.toNat c.Hunks
 rw [←E95]
 unfold cTo
 rw [K87,K56];omega
theorem B17:∀(s cur:Str),(F8 cur s).length≤s.count 10+1
 | [],cur=>by unfold F8;split<;>simp
 | c::r,cur=>by
  rw [W5]
  split
  ·rename_i h
   have:=B17 r []
   rw [K58,List.count_cons,h];simp;omega
  ·have:=B17 r (cur++[c])
   rw [List.count_cons];omega
theorem D87 (s:Str):(C1 s).length≤s.count 10+1:=B17 s []
theorem G71 (result:Str) (parents:List Str) (L B:Nat) (h0:(C1 result).length≤L∧result.length≤B) (h1:∀b∈parents,(C1 b).length≤L∧b.length≤B) :
  J8 (G5 result parents).1.Rows∧(G5 result parents).1.Rows.length≤(L+1)*(parents.length*L+1)∧∀r∈(G5 result parents).1.Rows,r.Text.length≤B:=by
 have hnil:J8 []∧([]:List Row).length≤(L+1)*(parents.length*L+1)∧∀r∈([]:List Row),r.Text.length≤B:=⟨fun r hr=>(by cases hr),(by simp),fun r hr=>(by cases hr)⟩
 by_cases hn:parents.length < 1∨32 < parents.length
 ·rw [G5,if_pos hn];exact hnil
 obtain ⟨fs,hfs⟩:∃fs,fs=C1 result::parents.map C1:=⟨_,rfl⟩
 obtain ⟨names,hnames⟩:∃names,names=I6 fs:=⟨_,rfl⟩
 obtain ⟨s,hs⟩:∃s,s=X1 (fs.map (O7 names)) (C1 result).length parents.length parents.length:=⟨_,rfl⟩
 have hm:G5 result parents=if ∃k,k < (C1 result).length+1∧(H4 (s.2 k)).2≠0 then (⟨0,[]⟩,1) else (⟨parents.length,X2 names (C1 result) s ((C1 result).length+1)⟩,0):=by
  rw [G5,if_neg hn,hs,hnames,hfs]
 rw [hm]
 split
 ·exact hnil
 have hfB:∀f∈fs,f.length≤L∧∀t∈f,t.length≤B:=by
  intro f hf
  rw [hfs] at hf
  rcases List.mem_cons.1 hf with rfl | hf
  ·exact ⟨h0.1,fun t ht=>by have:=H41 _ _ ht;omega⟩
  ·obtain ⟨b,hb,rfl⟩:=List.mem_map.1 hf
   have:=h1 b hb
   exact ⟨this.1,fun t ht=>by have:=H41 _ _ ht;omega⟩
 have hnB:∀t∈names,t.length≤B:=by
  intro t ht
  rw [hnames] at ht
  obtain ⟨f,hf,h2⟩:=List.mem_flatten.1 (D73 fs t ht)
  exact (hfB f hf).2 t h2
 have hid:∀x∈fs.map (O7 names),x.length≤L∧∀v∈x,(fun _:Int=>True) v:=by
  intro x hx
  obtain ⟨f,hf,rfl⟩:=List.mem_map.1 hx
  exact ⟨by rw [O7,K84];exact (hfB f hf).1,fun _ _=>trivial⟩
 have hok:LoomOk (fun _=>True) L (C1 result).length parents.length s:=by rw [hs];exact A71 hid _
 have hL:(C1 result).length≤L:=h0.1
 have hcs:∀k,(H4 (s.2 k)).1.length≤parents.length*L∧∀m∈(H4 (s.2 k)).1,0≤m.Parents∧m.Parents < 4294967296:=fun k=>by
  have h2:=hok.gaps k
  have h3:=A61 (fun _=>True) L (s.2 k) h2.2
  rw [h2.1] at h3
  exact ⟨h3.1,fun m hmem=>(h3.2 m hmem).1⟩
 have hgetD:∀(l:List Str) (k:Nat),(∀t∈l,t.length≤B)→(l.getD k []).length≤B:=by
  intro l k hl
  rw [K60]
  cases h:l[k]? with
  | none=>simp
  | some t=>exact hl t (K75 h)
 have key:∀k,k≤(C1 result).length+1→J8 (X2 names (C1 result) s k)∧(X2 names (C1 result) s k).length≤k*(parents.length*L+1)∧∀r∈X2 names (C1 result) s k,r.Text.length≤B:=by
  intro k
  induction k with
  | zero=>intro _;simp only [X2,List.range_zero,K96,L06];exact ⟨fun r hr=>(by cases hr),by simp,fun r hr=>(by cases hr)⟩
  | succ k ih =>
   intro hk
   obtain ⟨i1,i2,i3⟩:=ih (by omega)
   have hc:=hcs k
   have hgap:∀r∈S3 names (C1 result) s k,(0≤r.Marks∧r.Marks < 4294967296)∧r.Text.length≤B:=by
    intro r hr
    unfold S3 at hr
    rcases List.mem_append.1 hr with h | h
    ·obtain ⟨m,hmem,rfl⟩:=List.mem_map.1 h
     exact ⟨hc.2 m hmem,hgetD _ _ hnB⟩
    ·split at h
     ·rename_i hkl
      simp only [List.mem_singleton] at h
      subst h
      refine ⟨?_,hgetD _ _ (hfB _ (by rw [hfs];simp)).2⟩
      have:k < s.1.length:=by rw [hok.len];exact hkl
      show 0≤s.1.getD k 0∧s.1.getD k 0 < 4294967296
      rw [K60,K57 this]
      exact hok.marks _ (K76 this)
     ·cases h
   have hgl:(S3 names (C1 result) s k).length≤parents.length*L+1:=by
    unfold S3
    rw [K56,K84]
    have:=hc.1
    split<;>simp<;>omega
   rw [D72]
   refine ⟨fun r hr=>?_,by rw [K56,K80,Nat.one_mul];omega,fun r hr=>?_⟩
   ·rcases List.mem_append.1 hr with h | h
    ·exact i1 r h
    ·exact (hgap r h).1
   ·rcases List.mem_append.1 hr with h | h
    ·exact i3 r h
    ·exact (hgap r h).2
 obtain ⟨k1,k2,k3⟩:=key _ (Nat.le_refl _)
 have:((C1 result).length+1)*(parents.length*L+1)≤(L+1)*(parents.length*L+1):=K71 _ (by omega)
 exact ⟨k1,by simp only;omega,k3⟩
end Go.AL
namespace Go.AL
open Go
end Go.AL
namespace Go.AL
open Go
end Go.AL
namespace Go.AL
open Go
theorem D08 {p:Nat} (hp:p < 32):2 ^ p < 4294967296:=Nat.pow_lt_pow_right (a:=2) (by decide) hp
theorem D09 {m:Int} {p q:Nat} (hm:0≤m∧m < 4294967296) (hp:p < 32):V0 (K9 m (J1 p)) q=(V0 m q||decide (p=q)):=by
 obtain ⟨k,rfl⟩:∃k:Nat,m=k:=⟨m.toNat,by omega⟩
 have:=D08 hp
 rw [B92 hp,(A32 k (2 ^ p) (by omega) (by omega)).1,j9,j9,Nat.testBit_or,Nat.testBit_two_pow]
theorem F99 {p q:Nat} (hp:p < 32):V0 (J1 p) q=decide (p=q):=by
 rw [B92 hp,j9,Nat.testBit_two_pow]
theorem G00 {m:Int} {p q:Nat} (h:0≤m∧m < ((2 ^ p:Nat):Int)) (hq:p≤q):V0 m q=false:=by
 obtain ⟨k,rfl⟩:∃k:Nat,m=k:=⟨m.toNat,by omega⟩
 rw [j9]
 exact Nat.testBit_lt_two_pow (Nat.lt_of_lt_of_le (by omega) (Nat.pow_le_pow_right (by decide) hq))
def s6 (q:Nat) (l:List Merged):List Int:=H6 (l.filter fun m=>V0 m.Parents q)
theorem c5 (q:Nat) (a b:List Merged):s6 q (a++b)=s6 q a++s6 q b:=by unfold s6 H6;rw [L04,K73]
theorem D50 {q:Nat} {l:List Merged} (h:∀m∈l,V0 m.Parents q=false):s6 q l=[]:=by
 unfold s6
 rw [List.filter_eq_nil_iff.2 (fun m hm=>by rw [h m hm];decide)];rfl
theorem D10 {p q:Nat} (hp:p < 32) (l:List Int):s6 q (l.map fun v=>(⟨v,J1 p⟩:Merged))=if p=q then l else []:=by
 by_cases h:p=q
 ·rw [if_pos h]
  unfold s6 H6
  rw [List.filter_eq_self.2 (fun m hm=>by obtain ⟨v,_,rfl⟩:=List.mem_map.1 hm;rw [F99 hp];exact decide_eq_true h),K93]
  exact List.map_id _
 ·rw [if_neg h]
  exact D50 fun m hm=>by obtain ⟨v,_,rfl⟩:=List.mem_map.1 hm;rw [F99 hp];exact decide_eq_false h
def LowP (p:Nat) (l:List Merged):Prop:=∀m∈l,0 < m.Parents∧m.Parents < ((2 ^ p:Nat):Int)
theorem LowP.sub {p:Nat} {l l':List Merged} (h:LowP p l) (hs:∀m∈l',m∈l):LowP p l':=fun m hm=>h m (hs m hm)
theorem LowP.up {p:Nat} {l:List Merged} (h:LowP p l):LowP (p+1) l:=fun m hm=>by
 have:=h m hm
 have:2 ^ p≤2 ^ (p+1):=Nat.pow_le_pow_right (by decide) (by omega)
 omega
theorem D11 {p:Nat} {a b:List Merged} (ha:LowP p a) (hb:LowP p b):LowP p (a++b):=fun m hm=>by
 rcases List.mem_append.1 hm with h | h
 ·exact ha m h
 ·exact hb m h
theorem H67 {p:Nat} (hp:p < 32) (l:List Int):LowP (p+1) (l.map fun v=>(⟨v,J1 p⟩:Merged)):=fun m hm=>by
 obtain ⟨v,_,rfl⟩:=List.mem_map.1 hm
 have h1:0 < 2 ^ p:=Nat.pow_pos (by decide)
 have h2:2 ^ (p+1)=2*2 ^ p:=by rw [Nat.pow_succ];omega
 show 0 < J1 p∧J1 p < _
 rw [B92 hp];omega
theorem or_pos {m:Int} {p:Nat} (hp:p < 32) (h:0 < m∧m < ((2 ^ p:Nat):Int)):0 < K9 m (J1 p)∧K9 m (J1 p) < ((2 ^ (p+1):Nat):Int):=by
 have h1:=or_low hp (m:=m) (by omega)
 refine ⟨?_,h1.2⟩
 have h2:=D08 hp
 have h3:=D09 (m:=m) (q:=p) (by omega) hp
 rw [decide_eq_true rfl,Bool.or_true] at h3
 have:K9 m (J1 p)≠0:=fun e=>by rw [e] at h3;simp [V0] at h3
 omega
theorem A36 {α:Type} (l:List α) {a b:Nat} (h:a≤b):l.drop a=(l.drop a).take (b - a)++l.drop b:=by
 have:=K95 (b - a) (l.drop a)
 rw [List.drop_drop,show a+(b - a)=b by omega] at this
 exact this.symm
theorem G01 {l:List Merged} {list:List Int} {p:Nat} (hp:p < 32) (hl:LowP p l):∀(ps:List Span) (i j:Nat),Asc l.length list.length i j ps→(∀x∈ps,(H6 l)[x.From.toNat]?=list[x.To.toNat]?) →
  s6 p (Y4 l list (J1 p) i j ps)=list.drop j∧(∀q,q≠p→s6 q (Y4 l list (J1 p) i j ps)=s6 q (l.drop i))∧LowP (p+1) (Y4 l list (J1 p) i j ps)
 | [],i,j,ha,_=>by
  have e1:(l.drop i).take (l.length - i)=l.drop i:=K92 (by simp)
  have e2:(list.drop j).take (list.length - j)=list.drop j:=K92 (by simp)
  unfold Y4
  rw [e1,e2]
  refine ⟨?_,fun q hq=>?_,D11 ((hl.sub fun m hm=>List.mem_of_mem_drop hm).up) (H67 hp _)⟩
  ·rw [c5,D10 hp,if_pos rfl,D50 fun m hm=>G00 (p:=p) (by have:=hl m (List.mem_of_mem_drop hm);omega) (Nat.le_refl _)];rfl
  ·rw [c5,D10 hp,if_neg (Ne.symm hq),K81]
 | x :: r,i,j,ha,hx=>by
  obtain ⟨h1,h2,h3⟩:=ha
  have h4:=h3.le
  have e1:((x.From.toNat+1:Nat):Int)=x.From+1:=by omega
  have e2:((x.To.toNat+1:Nat):Int)=x.To+1:=by omega
  obtain ⟨i1,i2,i3⟩:=G01 hp hl r (x.From.toNat+1) (x.To.toNat+1) (by rw [e1,e2];exact h3) (fun y hy=>hx y (List.mem_cons_of_mem _ hy))
  have hF:x.From.toNat < l.length:=by omega
  have hT:x.To.toNat < list.length:=by omega
  have hy:=hl l[x.From.toNat] (K76 hF)
  have hline:l[x.From.toNat].Line=list[x.To.toNat]:=by
   have:=hx x (by simp)
   rw [K57 hT] at this
   unfold H6 at this
   rw [K88,K57 hF] at this
   exact Option.some.inj this
  have h2p:=D08 hp
  have d1:l.drop i=(l.drop i).take (x.From.toNat - i)++l[x.From.toNat]::l.drop (x.From.toNat+1):=by
   rw [←K64 hF];exact A36 l (by omega)
  have d2:list.drop j=(list.drop j).take (x.To.toNat - j)++list[x.To.toNat]::list.drop (x.To.toNat+1):=by
   rw [←K64 hT];exact A36 list (by omega)
  have hM:(l[x.From.toNat]?.map fun y=>(⟨y.Line,K9 y.Parents (J1 p)⟩:Merged)).toList=[⟨l[x.From.toNat].Line,K9 l[x.From.toNat].Parents (J1 p)⟩]:=by rw [K57 hF];rfl
  have hbit:=fun q=>D09 (m:=l[x.From.toNat].Parents) (p:=p) (q:=q) (by omega) hp
  have hA:LowP p ((l.drop i).take (x.From.toNat - i)):=hl.sub fun m hm=>W6 hm
  unfold Y4
  rw [hM]
  generalize ha':(l.drop i).take (x.From.toNat - i)=A at hA d1 ⊢
  generalize hb':(list.drop j).take (x.To.toNat - j)=A2 at d2 ⊢
  refine ⟨?_,fun q hq=>?_,?_⟩
  ·rw [c5,c5,c5,i1,D10 hp,if_pos rfl,D50 (l:=A) fun m hm=>G00 (p:=p) (by have:=hA m hm;omega) (Nat.le_refl _),K78,d2]
   have:s6 p [(⟨l[x.From.toNat].Line,K9 l[x.From.toNat].Parents (J1 p)⟩:Merged)]=[list[x.To.toNat]]:=by
    unfold s6
    rw [List.filter_cons_of_pos (by rw [hbit,decide_eq_true rfl,Bool.or_true])]
    show [l[x.From.toNat].Line]=_
    rw [hline]
   rw [this]
   simp
  ·have d3:s6 q (l.drop i)=s6 q A++(s6 q [l[x.From.toNat]]++s6 q (l.drop (x.From.toNat+1))):=by
    rw [d1,←c5,←c5];rfl
   rw [c5,c5,c5,i2 q hq,D10 hp,if_neg (Ne.symm hq),K81,d3]
   have:s6 q [(⟨l[x.From.toNat].Line,K9 l[x.From.toNat].Parents (J1 p)⟩:Merged)]=s6 q [l[x.From.toNat]]:=by
    unfold s6
    have hb:V0 (K9 l[x.From.toNat].Parents (J1 p)) q=V0 l[x.From.toNat].Parents q:=by rw [hbit,decide_eq_false (Ne.symm hq),Bool.or_false]
    cases hc:V0 l[x.From.toNat].Parents q
    ·rw [List.filter_cons_of_neg (by rw [hb,hc];decide),List.filter_cons_of_neg (by rw [hc];decide)]
    ·rw [List.filter_cons_of_pos (by rw [hb,hc]),List.filter_cons_of_pos (by rw [hc])]
     rfl
   rw [this]
  ·refine D11 (D11 hA.up (H67 hp _)) (D11 ?_ i3)
   intro m hm
   rw [List.mem_singleton.1 hm]
   exact or_pos hp hy
theorem H68 {l:List Merged} {list:List Int} {p:Nat} (hp:p < 32) (hl:LowP p l) :
  s6 p (Y5 l list p)=list∧(∀q,q≠p→s6 q (Y5 l list p)=s6 q l)∧LowP (p+1) (Y5 l list p):=by
 have hasc:=V5 (H6 l) list 0 0
 rw [Int.zero_add,Int.zero_add,show (H6 l).length=l.length by simp [H6]] at hasc
 have:=G01 (list:=list) hp hl (H2 0 0 (H6 l) list) 0 0 hasc (fun x hx=>by
  obtain ⟨_,_,v,h1,h2⟩:=F84 (H6 l) list 0 0 x hx
  rw [Int.sub_zero] at h1 h2
  rw [h1,h2])
 exact this
theorem C25:∀(ls:List (List Int)) (acc:List Merged) (p:Nat),p+ls.length≤32→LowP p acc→(H9 acc p ls).2=0 →
  LowP (p+ls.length) (H9 acc p ls).1∧(∀q,q < p→s6 q (H9 acc p ls).1=s6 q acc)∧∀t,t < ls.length→s6 (p+t) (H9 acc p ls).1=ls.getD t []
 | [],acc,p,_,ha,_=>⟨ha,fun _ _=>rfl,fun t ht=>absurd ht (Nat.not_lt_zero _)⟩
 | x :: r,acc,p,hp,ha,h=>by
  rw [K58] at hp
  unfold H9 at h ⊢
  split at h
  ·cases h
  ·rename_i hc
   rw [if_neg hc]
   obtain ⟨j1,j2,j3⟩:=H68 (list:=x) (p:=p) (by omega) ha
   obtain ⟨i1,i2,i3⟩:=C25 r (Y5 acc x p) (p+1) (by omega) j3 h
   refine ⟨?_,fun q hq=>?_,fun t ht=>?_⟩
   ·rw [K58,show p+(r.length+1)=p+1+r.length by omega];exact i1
   ·exact (i2 q (by omega)).trans (j2 q (by omega))
   ·cases t with
    | zero=>exact (i2 p (by omega)).trans j1
    | succ t =>
     have:=i3 t (by rw [K58] at ht;omega)
     rw [show p+1+t=p+(t+1) by omega] at this
     exact this
theorem D95 {ls:List (List Int)} (h:(H4 ls).2=0):LowP ls.length (H4 ls).1∧∀q,q < ls.length→s6 q (H4 ls).1=ls.getD q []:=by
 unfold H4 at h ⊢
 split at h
 ·cases h
 ·rename_i hc
  rw [if_neg hc]
  obtain ⟨h1,_,h3⟩:=C25 ls [] 0 (by omega) (fun m hm=>by cases hm) h
  rw [Nat.zero_add] at h1
  exact ⟨h1,fun q hq=>by have:=h3 q hq;rwa [Nat.zero_add] at this⟩
theorem C26 (B:Nat):∀(ls:List (List Int)) (acc:List Merged) (p:Nat),(∀x∈ls,x.length≤B)→acc.length+ls.length*B≤4096→(H9 acc p ls).2=0
 | [],acc,p,_,_=>rfl
 | x::r,acc,p,hl,h=>by
  have hx:=hl x (by simp)
  have hj:=A45 acc x p
  rw [K58,K80,Nat.one_mul] at h
  unfold H9
  rw [if_neg (by omega)]
  exact C26 B r (Y5 acc x p) (p+1) (fun y hy=>hl y (List.mem_cons_of_mem _ hy)) (by omega)
theorem D96 {B:Nat} {ls:List (List Int)} (hl:∀x∈ls,x.length≤B) (hn:ls.length≤32) (h:ls.length*B≤4096):(H4 ls).2=0:=by
 unfold H4
 rw [if_neg (by omega)]
 exact C26 B ls [] 0 hl (by simpa using h)
end Go.AL
namespace Go.AL
open Go
def x4 {α:Type} (G:Nat→List α) (a b:Nat):List α:=((List.range (b - a)).map fun t=>G (a+t)).flatten
theorem A37 {α:Type} (G:Nat→List α) {a b c:Nat} (h1:a≤b) (h2:b≤c):x4 G a c=x4 G a b++x4 G b c:=by
 unfold x4
 rw [show c - a=(b - a)+(c - b) by omega,List.range_add,K73,K86,K93]
 congr 3
 funext t
 show G (a+(b - a+t))=G (b+t)
 rw [show a+(b - a+t)=b+t by omega]
theorem B71 {α:Type} (G:Nat→List α) (a:Nat):x4 G a (a+1)=G a:=by
 unfold x4
 rw [show a+1 - a=1 by omega]
 simp [K98]
theorem G02 {α:Type} (G:Nat→List α) (a:Nat):x4 G a a=[]:=by unfold x4;simp
theorem B18 {α:Type} {G G':Nat→List α} {a b:Nat} (h:∀k,a≤k→k < b→G k=G' k):x4 G a b=x4 G' a b:=by
 unfold x4
 congr 1
 exact List.map_congr_left fun t ht=>h _ (by omega) (by have:=List.mem_range.1 ht;omega)
theorem F01 {α:Type} {G:Nat→List α} {a b:Nat} (h:∀k,a≤k→k < b→G k=[]):x4 G a b=[]:=by
 rw [B18 (G':=fun _=>[]) h]
 unfold x4
 exact List.flatten_eq_nil_iff.2 fun l hl=>by obtain ⟨t,_,rfl⟩:=List.mem_map.1 hl;rfl
theorem K14 {α β:Type} (f:α→β) (G:Nat→List α) (a b:Nat):x4 (fun k=>(G k).map f) a b=(x4 G a b).map f:=by
 unfold x4
 rw [List.map_flatten,K93];rfl
theorem H69 {α:Type} (l:List α):∀d i,i+d=l.length→x4 (fun k=>(l[k]?).toList) i (l.length+1)=l.drop i
 | 0,i,h=>by
  rw [show l.length+1=i+1 by omega,B71,K79 (by omega),List.drop_of_length_le (by omega)];rfl
 | d+1,i,h=>by
  have hi:i < l.length:=by omega
  rw [A37 _ (show i≤i+1 by omega) (show i+1≤l.length+1 by omega),B71,H69 l d (i+1) (by omega),K57 hi,K64 hi];rfl
def piece (file:List Int) (c:Change):List Int:=(file.drop c.Old.toNat).take ((c.Old+c.OldLen).toNat - c.Old.toNat)
def A52 (file:List Int) (cs:List Change) (k:Nat) (a:List Int):List Int:=cs.foldl (fun a c=>if k=c.New.toNat then piece file c else a) a
theorem G03 {file:List Int} {k:Nat}:∀{cs:List Change} {a:List Int},(∀c∈cs,k≠c.New.toNat)→A52 file cs k a=a
 | [],_,_=>rfl
 | c::r,a,h=>by
  unfold A52
  rw [K89,if_neg (h c (by simp))]
  exact G03 (fun d hd=>h d (List.mem_cons_of_mem _ hd))
theorem G04 (file:List Int) (a b:List Change) (k:Nat) (z:List Int):A52 file (a++b) k z=A52 file b k (A52 file a k z):=by unfold A52;rw [L00]
theorem H70 (p:Nat) (file:List Int) (k:Nat):∀(cs:List Change) (g:Nat→List (List Int)),cs.foldl (O9 p file) g k=(g k).set p (A52 file cs k ((g k).getD p []))
 | [],g=>by
  refine List.ext_getElem? fun q=>?_
  show (g k)[q]?=((g k).set p ((g k).getD p []))[q]?
  rw [List.getElem?_set]
  split
  ·rename_i h;subst h
   split
   ·rename_i h;rw [K60,K57 h];rfl
   ·rename_i h;exact K79 (by omega)
  ·rfl
 | c::r,g=>by
  rw [K89,H70 p file k r]
  have e:O9 p file g c k=if k=c.New.toNat then (g k).set p (piece file c) else g k:=rfl
  rw [e]
  show _=(g k).set p (A52 file r k (if k=c.New.toNat then piece file c else (g k).getD p []))
  split
  ·rw [List.set_set]
   by_cases hp:p < (g k).length
   ·rw [K60,List.getElem?_set_self hp];rfl
   ·rw [List.set_eq_of_length_le (by omega),List.set_eq_of_length_le (by omega)]
  ·rfl
theorem G05 (a b:List Change) (k:Nat):R0 (a++b) k=(R0 a k||R0 b k):=by unfold R0;rw [List.any_append]
theorem J57 {cs:List Change} {k:Nat} (h:∀c∈cs,(k:Int) < c.New):R0 cs k=false:=by
 unfold R0
 rw [List.any_eq_false]
 intro c hc
 have:=h c hc
 rw [decide_eq_true_eq];omega
def F02 (file base:List Int) (cs:List Change) (k:Nat):List Int:=A52 file cs k []++(if R0 cs k=true then [] else (base[k]?).toList)
theorem H71 {file base:List Int}:∀(ps:List Span) (i j:Nat),Asc file.length base.length i j ps→(∀x∈ps,file[x.From.toNat]?=base[x.To.toNat]?) →
  x4 (F02 file base (O8 i j ps file.length base.length)) j (base.length+1)=file.drop i
 | [],i,j,ha,_=>by
  have h1:(i:Int)≤file.length∧(j:Int)≤base.length:=ha
  unfold O8
  rw [A37 _ (show j≤j+1 by omega) (show j+1≤base.length+1 by omega),B71]
  by_cases h:(file.length:Int) > i∨(base.length:Int) > j
  ·rw [if_pos h]
   have e1:∀k,A52 file [⟨i,(file.length:Int) - i,j,(base.length:Int) - j⟩] k []=if k=j then file.drop i else []:=by
    intro k
    show (if k=(j:Int).toNat then piece file _ else [])=_
    rw [K62]
    have e2:piece file ⟨i,(file.length:Int) - i,j,(base.length:Int) - j⟩=file.drop i:=by
     unfold piece
     dsimp only
     rw [K62,K92 (by rw [K65];omega)]
    rw [e2]
   have e3:∀k,j≤k→(if R0 [⟨i,(file.length:Int) - i,j,(base.length:Int) - j⟩] k=true then [] else (base[k]?).toList)=([]:List Int):=by
    intro k hk
    by_cases hk2:k < base.length
    ·rw [if_pos]
     unfold R0
     simp only [List.any_cons,List.any_nil,Bool.or_false,decide_eq_true_eq,K62]
     omega
    ·rw [K79 (by omega)]
     split<;>rfl
   rw [F01 (fun k hk _=>by unfold F02;rw [e1,e3 k (by omega),if_neg (by omega)];rfl)]
   unfold F02
   rw [e1,e3 j (Nat.le_refl _),if_pos rfl];simp
  ·rw [if_neg h,F01 (fun k hk hk2=>by omega)]
   unfold F02
   rw [K79 (by omega),List.drop_of_length_le (by omega)]
   rfl
 | x :: r,i,j,ha,hx=>by
  obtain ⟨h1,h2,h3⟩:=ha
  have h4:=h3.le
  have e1:((x.From.toNat+1:Nat):Int)=x.From+1:=by omega
  have e2:((x.To.toNat+1:Nat):Int)=x.To+1:=by omega
  have ih:=H71 r (x.From.toNat+1) (x.To.toNat+1) (by rw [e1,e2];exact h3) (fun y hy=>hx y (List.mem_cons_of_mem _ hy))
  rw [e1,e2] at ih
  have hbd:=h3.made
  have hv:=hx x (by simp)
  have hF:x.From.toNat < file.length:=by omega
  have hT:x.To.toNat < base.length:=by omega
  have hd:file.drop i=(file.drop i).take (x.From.toNat - i)++(base[x.To.toNat]?.toList++file.drop (x.From.toNat+1)):=by
   rw [←hv,K57 hF]
   show _=_++(file[x.From.toNat]::file.drop (x.From.toNat+1))
   rw [←K64 hF];exact A36 file (by omega)
  unfold O8
  obtain ⟨R,hR⟩:∃R,R=O8 (x.From+1) (x.To+1) r file.length base.length:=⟨_,rfl⟩
  rw [←hR] at hbd ih ⊢
  have outR:∀k:Nat,(k:Int)≤x.To→∀z,A52 file R k z=z:=fun k hk z=>G03 fun c hc=>by have:=hbd c hc;omega
  have outN:∀k:Nat,(k:Int)≤x.To→R0 R k=false:=fun k hk=>J57 fun c hc=>by have:=hbd c hc;omega
  rw [A37 _ (show j≤x.To.toNat by omega) (show x.To.toNat≤base.length+1 by omega),A37 _ (show x.To.toNat≤x.To.toNat+1 by omega) (show x.To.toNat+1≤base.length+1 by omega),B71]
  by_cases h:x.From > i∨x.To > j
  ·rw [if_pos h]
   have l1:∀k,A52 file [⟨i,x.From - i,j,x.To - j⟩] k []=if k=j then (file.drop i).take (x.From.toNat - i) else []:=by
    intro k
    show (if k=(j:Int).toNat then piece file _ else [])=_
    rw [K62]
    have e3:piece file ⟨i,x.From - i,j,x.To - j⟩=(file.drop i).take (x.From.toNat - i):=by
     unfold piece
     dsimp only
     rw [K62,show ((i:Int)+(x.From - i)).toNat=x.From.toNat by omega]
    rw [e3]
   have l2:∀k,R0 [⟨i,x.From - i,j,x.To - j⟩] k=decide (j≤k∧k < x.To.toNat):=by
    intro k
    unfold R0
    simp only [List.any_cons,List.any_nil,Bool.or_false,K62]
    refine decide_eq_decide.2 ?_
    omega
   have hlow:∀k:Nat,(k:Int)≤x.To→F02 file base ([⟨i,x.From - i,j,x.To - j⟩]++R) k=(if k=j then (file.drop i).take (x.From.toNat - i) else [])++(if j≤k∧k < x.To.toNat then [] else (base[k]?).toList):=by
    intro k hk
    unfold F02
    rw [G04,outR k hk,l1,G05,outN k hk,l2,Bool.or_false]
    by_cases hq:j≤k∧k < x.To.toNat
    ·rw [decide_eq_true hq,if_pos (show true=true from rfl),if_pos hq]
    ·rw [decide_eq_false hq,if_neg (show ¬false=true by decide),if_neg hq]
   have hhigh:x4 (F02 file base ([⟨i,x.From - i,j,x.To - j⟩]++R)) (x.To.toNat+1) (base.length+1)=file.drop (x.From.toNat+1):=by
    rw [←ih]
    refine B18 fun k hk hk2=>?_
    unfold F02
    rw [G04,l1,if_neg (by omega),G05,l2,decide_eq_false (by omega),Bool.false_or]
   rw [hhigh,hlow _ (by omega),if_neg (show ¬(j≤x.To.toNat∧x.To.toNat < x.To.toNat) by omega)]
   conv=>rhs;rw [hd]
   by_cases hj:x.To.toNat=j
   ·rw [if_pos hj,hj,G02];simp
   ·rw [if_neg hj,A37 _ (show j≤j+1 by omega) (show j+1≤x.To.toNat by omega),B71,F01 (fun k hk hk2=>by rw [hlow k (by omega),if_neg (by omega),if_pos (by omega)];rfl),hlow j (by omega),if_pos rfl,if_pos (by omega)]
    simp
  ·rw [if_neg h,K78,ih]
   have e3:x.From.toNat=i:=by omega
   have e4:x.To.toNat=j:=by omega
   conv=>rhs;rw [hd]
   rw [e3,e4,G02]
   unfold F02
   rw [outR j (by omega),outN j (by omega),if_neg (by decide)]
   simp
theorem K15 (file base:List Int):x4 (F02 file base (N5 file base)) 0 (base.length+1)=file:=by
 have hasc:=V5 file base 0 0
 rw [Int.zero_add,Int.zero_add] at hasc
 have:=H71 (H2 0 0 file base) 0 0 hasc (fun x hx=>by
  obtain ⟨_,_,v,h1,h2⟩:=F84 file base 0 0 x hx
  rw [Int.sub_zero] at h1 h2
  rw [h1,h2])
 exact this
theorem H72 (ids:List (List Int)) (lines n:Nat):∀p,p≤n→∀k,((X1 ids lines n p).2 k).length=n∧∀q,((X1 ids lines n p).2 k).getD q []=if q < p then A52 (ids.getD (q+1) []) (N5 (ids.getD (q+1) []) (ids.getD 0 [])) k [] else []
 | 0,_,k=>by
  refine ⟨by simp [X1,E64],fun q=>?_⟩
  rw [if_neg (by omega)]
  show (List.replicate n []).getD q []=[]
  rw [K60,List.getElem?_replicate]
  split<;>rfl
 | p+1,hp,k=>by
  obtain ⟨h1,h2⟩:=H72 ids lines n p (by omega) k
  rw [B51]
  have e:(i7 ids (X1 ids lines n p) p).2 k=((X1 ids lines n p).2 k).set p (A52 (ids.getD (p+1) []) (N5 (ids.getD (p+1) []) (ids.getD 0 [])) k (((X1 ids lines n p).2 k).getD p [])):=H70 p _ k _ _
  rw [e,h2 p,if_neg (by omega)]
  refine ⟨by rw [L10,h1],fun q=>?_⟩
  rw [K60,List.getElem?_set]
  by_cases hq:p=q
  ·subst hq
   rw [if_pos rfl,if_pos (by omega),if_pos (by omega)];rfl
  ·rw [if_neg hq,←K60,h2 q]
   by_cases hq2:q < p
   ·rw [if_pos hq2,if_pos (by omega)]
   ·rw [if_neg hq2,if_neg (by omega)]
theorem G06 {ids:List (List Int)} {base:List Int} {n:Nat} (hb:base=ids.getD 0 []) (hl:∀x∈ids,x.length≤4096) (hbl:base.length≤4096):∀p,p≤32→∀(q k:Nat) (v:Int),(x1 ids base.length n p).1[k]?=some v→V0 v q=(decide (q < p)&&R0 (N5 (ids.getD (q+1) []) base) k)
 | 0,_,q,k,v,h=>by
  have:=List.eq_of_mem_replicate (show v∈List.replicate base.length 0 from K75 h)
  subst this
  rw [decide_eq_false (by omega),Bool.false_and]
  simp [V0]
 | p+1,hp,q,k,v,h=>by
  obtain ⟨h1,h2,h3⟩:=B93 (n:=n) hb hl hbl p (by omega)
  rw [B63] at h
  have e:(y9 ids (x1 ids base.length n p) p).1=(N5 (ids.getD (p+1) []) (ids.getD 0 [])).foldl (M8 p) (x1 ids base.length n p).1:=rfl
  rw [e,E78,←hb] at h
  cases hw:(x1 ids base.length n p).1[k]? with
  | none=>rw [hw] at h;cases h
  | some w =>
   rw [hw] at h
   have ih:=G06 (n:=n) hb hl hbl p (by omega) q k w hw
   have hlow:=h2 w (K75 hw)
   have h2p:=D08 (p:=p) (by omega)
   have h:(if R0 (N5 (ids.getD (p+1) []) base) k=true then K9 w (J1 p) else w)=v:=Option.some.inj h
   rw [←h]
   by_cases hq:p=q
   ·subst hq
    rw [decide_eq_false (Nat.lt_irrefl _),Bool.false_and] at ih
    rw [decide_eq_true (by omega),Bool.true_and]
    cases R0 (N5 (ids.getD (p+1) []) base) k
    ·rw [if_neg (by decide),ih]
    ·rw [if_pos rfl,D09 (by omega) (by omega),decide_eq_true rfl,Bool.or_true]
   ·have e2:decide (q < p+1)=decide (q < p):=by by_cases h:q < p<;>simp [h]<;>omega
    rw [e2,←ih]
    split
    ·rw [D09 (by omega) (by omega),decide_eq_false hq,Bool.or_false]
    ·rfl
end Go.AL
namespace Go.AL
open Go
theorem H73 (s:Str):∀(l:List Str) (k:Int),0≤k→s∈l→l[(I5 l s k - k).toNat]?=some s
 | [],_,_,h=>(by cases h)
 | x::r,k,hk,h=>by
  unfold I5
  by_cases hx:x=s
  ·rw [if_pos hx,Int.sub_self,hx];rfl
  ·rw [if_neg hx]
   have hm:s∈r:=by rcases List.mem_cons.1 h with rfl | h;exact absurd rfl hx;exact h
   have h1:=A99 r s (k+1) (by omega) hm
   have h2:=H73 s r (k+1) (by omega) hm
   rw [show (I5 r s (k+1) - k).toNat=(I5 r s (k+1) - (k+1)).toNat+1 by omega,List.getElem?_cons_succ]
   exact h2
def B72 (names:List Str) (v:Int):Str:=names.getD v.toNat []
theorem I87 {names:List Str} {s:Str} (h:s∈names):B72 names (I5 names s 0)=s:=by
 have:=H73 s names 0 (Int.le_refl _) h
 rw [Int.sub_zero] at this
 unfold B72
 rw [K60,this];rfl
theorem I48 {names f:List Str} (h:∀s∈f,s∈names):(O7 names f).map (B72 names)=f:=by
 unfold O7
 rw [K93]
 conv=>rhs;rw [←List.map_id f]
 exact List.map_congr_left fun s hs=>I87 (h s hs)
theorem G07 (G:Nat→List Row) (a b:Nat) (c:Int):K0 (x4 G a b) c=x4 (fun k=>K0 (G k) c) a b:=by
 unfold K0 x4
 rw [List.filter_flatten,List.map_flatten,K93,K93];rfl
theorem D51 (a b:List Row) (c:Int):K0 (a++b) c=K0 a c++K0 b c:=by unfold K0;rw [L04,K73]
theorem F03 (w:Row) {q:Nat} (hq:q < 32):a8 w q=(V0 w.Marks q == w.Lost):=by
 rw [a8,if_neg (by omega),if_neg (by omega),K62]
theorem H74 (f:Int→Str) {q:Nat} (hq:q < 32):∀l:List Merged,K0 (l.map fun m=>(⟨true,m.Parents,f m.Line⟩:Row)) q=(s6 q l).map f
 | []=>rfl
 | m::r=>by
  have ih:=H74 f hq r
  unfold K0 s6 H6 at ih ⊢
  rw [K63,L03,L03,F03 _ hq]
  dsimp only
  rw [show (V0 m.Parents q == true)=V0 m.Parents q by simp]
  cases V0 m.Parents q
  ·rw [if_neg (by decide),if_neg (by decide)];exact ih
  ·rw [if_pos rfl,if_pos rfl,K63,K63,K63,ih]
theorem J58 (f:Int→Str) (l:List Merged):K0 (l.map fun m=>(⟨true,m.Parents,f m.Line⟩:Row)) (-1)=[]:=by
 unfold K0
 rw [List.filter_eq_nil_iff.2]
 ·rfl
 ·intro w hw
  obtain ⟨m,_,rfl⟩:=List.mem_map.1 hw
  simp [a8]
structure Made16 (x:Str) (r:List Str) (rows:List Row):Prop where
 res:K0 rows (-1)=C1 x
 par:∀q,q < r.length→K0 rows q=C1 (r.getD q [])
 marks:R4 rows r.length=true
 texts:∀w∈rows,H8 w.Text=true
theorem B73 {x:Str} {r:List Str} (hx:(C1 x).length≤4096) (hr:∀b∈r,(C1 b).length≤4096) (h:(G5 x r).2=0) :
  (1≤r.length∧r.length≤32)∧(G5 x r).1.Parents=r.length∧Made16 x r (G5 x r).1.Rows:=by
 by_cases hn:r.length < 1∨32 < r.length
 ·rw [G5,if_pos hn] at h;cases h
 obtain ⟨F,hF⟩:∃F,F=C1 x:=⟨_,rfl⟩
 obtain ⟨N,hN⟩:∃N,N=I6 (F::r.map C1):=⟨_,rfl⟩
 obtain ⟨ids,hids⟩:∃ids,ids=(F::r.map C1).map (O7 N):=⟨_,rfl⟩
 obtain ⟨s,hs⟩:∃s,s=X1 ids F.length r.length r.length:=⟨_,rfl⟩
 have hm:G5 x r=if ∃k,k < F.length+1∧(H4 (s.2 k)).2≠0 then (⟨0,[]⟩,1) else (⟨r.length,X2 N F s (F.length+1)⟩,0):=by
  rw [G5,if_neg hn,hs,hids,hN,hF]
 rw [hm] at h ⊢
 split at h
 ·cases h
 rename_i hno
 rw [if_neg hno]
 have hz:∀k,k < F.length+1→(H4 (s.2 k)).2=0:=fun k hk=>Classical.byContradiction fun hc=>hno ⟨k,hk,hc⟩
 refine ⟨by omega,rfl,?_⟩
 dsimp only
 have hrun:X2 N F s (F.length+1)=x4 (S3 N F s) 0 (F.length+1):=by
  unfold X2 x4
  rw [Nat.sub_zero]
  congr 1
  exact List.map_congr_left fun t _=>by rw [Nat.zero_add]
 rw [hrun]
 have hmem:∀f∈F::r.map C1,∀t∈f,t∈N:=fun f hf t ht=>by rw [hN];exact B52 _ t f hf ht
 have hlok:∀f∈F::r.map C1,f.length≤4096∧∀t∈f,H8 t=true:=by
  intro f hf
  rcases List.mem_cons.1 hf with rfl | hf
  ·rw [hF];exact ⟨hx,(i8 x).1⟩
  ·obtain ⟨b,hb,rfl⟩:=List.mem_map.1 hf
   exact ⟨hr b hb,(i8 b).1⟩
 have hil:∀z∈ids,z.length≤4096:=by
  intro z hz
  rw [hids] at hz
  obtain ⟨f,hf,rfl⟩:=List.mem_map.1 hz
  rw [O7,K84];exact (hlok f hf).1
 obtain ⟨base,hb⟩:∃base,base=O7 N F:=⟨_,rfl⟩
 have hb0:base=ids.getD 0 []:=by rw [hb,hids];rfl
 have hbl:base.length=F.length:=by rw [hb,O7,K84]
 have hFl:F.length≤4096:=(hlok F (by simp)).1
 obtain ⟨p1,p2,p3⟩:=B93 (n:=r.length) hb0 hil (by omega) r.length (by omega)
 rw [hbl] at p1 p2 p3
 rw [←hs] at p1
 rw [p1] at p2 p3
 have hmark:=G06 (n:=r.length) hb0 hil (by omega) r.length (by omega)
 rw [hbl,p1] at hmark
 have hgap:=H72 ids F.length r.length r.length (Nat.le_refl _)
 rw [←hs] at hgap
 have hco:=fun k hk=>D95 (hz k hk)
 have hspec:LoomOk (fun v=>0≤v∧v < (N.length:Int)) 4096 F.length r.length s:=by
  rw [hs]
  refine A71 (fun z hz=>⟨hil z hz,fun v hv=>?_⟩) _
  rw [hids,hN] at hz
  rw [hN]
  exact ids_in _ z hz v hv
 have hkeep:∀k,k < F.length→∃v,s.1[k]?=some v∧s.1.getD k 0=v∧0≤v∧v < ((2 ^ r.length:Nat):Int):=by
  intro k hk
  refine ⟨s.1[k]'(by omega),K57 _,?_,p2 _ (K76 _)⟩
  rw [K60,K57 (by omega)];rfl
 have hrow:∀w∈x4 (S3 N F s) 0 (F.length+1),R7 r.length w=true∧H8 w.Text=true:=by
  intro w hw
  unfold x4 at hw
  obtain ⟨l,hl,hwl⟩:=List.mem_flatten.1 hw
  obtain ⟨k,hk,rfl⟩:=List.mem_map.1 hl
  have hk:=List.mem_range.1 hk
  rw [Nat.zero_add] at hwl
  have hpw:((2 ^ r.length:Nat):Int)=2 ^ r.length:=by simp
  unfold S3 at hwl
  rcases List.mem_append.1 hwl with hwl | hwl
  ·obtain ⟨m,hmm,rfl⟩:=List.mem_map.1 hwl
   have h1:=(hco k (by omega)).1 m hmm
   rw [(hgap k).1] at h1
   have h2:=((A61 _ 4096 (s.2 k) (hspec.gaps k).2).2 m hmm).2
   refine ⟨?_,?_⟩
   ·unfold R7
    dsimp only
    rw [Int.ediv_eq_zero_of_lt (by omega) (by omega)]
    have:(m.Parents == 0)=false:=by rw [beq_eq_false_iff_ne];omega
    rw [this];decide
   ·show H8 (N.getD m.Line.toNat [])=true
    have h3:m.Line.toNat < N.length:=by omega
    rw [K60,K57 h3]
    have h4:N[m.Line.toNat]∈I6 (F::r.map C1):=by rw [←hN];exact K76 h3
    obtain ⟨f,hf,ht⟩:=List.mem_flatten.1 (D73 _ _ h4)
    exact (hlok f hf).2 _ ht
  ·split at hwl
   ·rename_i hkF
    rw [List.mem_singleton] at hwl
    subst hwl
    obtain ⟨v,_,g2,g3,g4⟩:=hkeep k hkF
    refine ⟨?_,?_⟩
    ·unfold R7
     dsimp only
     rw [g2,Int.ediv_eq_zero_of_lt g3 (by omega)];rfl
    ·show H8 (F.getD k [])=true
     rw [K60,K57 hkF]
     exact (hlok F (by simp)).2 _ (K76 hkF)
   ·cases hwl
 have hid:∀(z:List Str) (k:Nat) (h:k < z.length),z.getD k []=z[k]:=fun z k h=>by rw [K60,K57 h];rfl
 refine ⟨?_,fun q hq=>?_,List.all_eq_true.2 fun w hw=>(hrow w hw).1,fun w hw=>(hrow w hw).2⟩
 ·rw [G07,←hF]
  have:=H69 F F.length 0 (by omega)
  rw [List.drop_zero] at this
  conv=>rhs;rw [←this]
  refine B18 fun k _ hk=>?_
  unfold S3
  rw [D51,show (fun m:Merged=>(⟨true,m.Parents,N.getD m.Line.toNat []⟩:Row))=fun m=>⟨true,m.Parents,B72 N m.Line⟩ from rfl,J58,K78]
  by_cases hkF:k < F.length
  ·rw [if_pos hkF,K57 hkF,hid F k hkF];rfl
  ·rw [if_neg hkF,K79 (by omega)];rfl
 ·obtain ⟨file,hfile⟩:∃file,file=ids.getD (q+1) []:=⟨_,rfl⟩
  have hfq:file=O7 N (C1 (r.getD q [])):=by
   rw [hfile,hids,hid r q hq,K60,K63,List.getElem?_cons_succ,K88,K88,K57 hq];rfl
  have hback:file.map (B72 N)=C1 (r.getD q []):=by
   rw [hfq]
   refine I48 fun t ht=>hmem _ (List.mem_cons_of_mem _ (List.mem_map_of_mem ?_)) t ht
   rw [hid r q hq];exact K76 hq
  have hcol:=K15 file base
  rw [G07,←hback]
  conv=>rhs;rw [←hcol,←K14,hbl]
  refine B18 fun k _ hk=>?_
  have hgk:=(hgap k).2 q
  rw [if_pos hq,←hfile,←hb0] at hgk
  have hck:=(hco k hk).2 q (by rw [(hgap k).1];exact hq)
  unfold S3 F02
  rw [D51,show (fun m:Merged=>(⟨true,m.Parents,N.getD m.Line.toNat []⟩:Row))=fun m=>⟨true,m.Parents,B72 N m.Line⟩ from rfl,H74 (B72 N) (by omega),hck,hgk,K73]
  congr 1
  by_cases hkF:k < F.length
  ·obtain ⟨v,g1,g2,_⟩:=hkeep k hkF
   have hmk:=hmark q k v g1
   rw [decide_eq_true hq,Bool.true_and,←hfile] at hmk
   rw [if_pos hkF,g2]
   unfold K0
   rw [L03,F03 _ (by omega)]
   dsimp only
   rw [hmk]
   cases R0 (N5 file base) k
   ·rw [if_pos (show (false == false)=true from rfl),if_neg (show ¬false=true by decide)]
    have hbk:base[k]?=some (I5 N F[k] 0):=by rw [hb,O7,K88,K57 hkF];rfl
    rw [hbk,hid F k hkF]
    show [F[k]]=[B72 N (I5 N F[k] 0)]
    rw [I87 (hmem F (by simp) _ (K76 hkF))]
   ·rw [if_neg (show ¬(true == false)=true by decide),if_pos (show true=true from rfl)];rfl
  ·rw [if_neg hkF,K79 (by omega)]
   split<;>rfl
theorem Made16.texts16 {x:Str} {r:List Str} {rows:List Row} (h:Made16 x r rows):c9 rows r.length=true:=by
 unfold c9
 rw [K59]
 refine ⟨List.all_eq_true.2 h.texts,List.all_eq_true.2 fun k hk=>?_⟩
 have hk:=List.mem_range.1 hk
 have hl:=fun b=>A17 (C1 b) (i8 b).1 (i8 b).2
 cases k with
 | zero=>rw [show ((0:Nat):Int) - 1 = -1 from rfl,h.res];exact hl x
 | succ q =>
  rw [show ((q+1:Nat):Int) - 1=(q:Int) by omega,h.par q (by omega)];exact hl _
theorem G72 {x:Str} {r:List Str} (hx:(C1 x).length≤4096) (hr:∀b∈r,(C1 b).length≤4096) (h:(G5 x r).2=0):M6 (G5 x r).1=0:=by
 obtain ⟨h1,h2,h3⟩:=B73 hx hr h
 unfold M6
 rw [h2,if_neg (by omega),K62,h3.marks,if_neg (by decide),h3.texts16,if_neg (by decide)]
theorem D88 {x:Str} {r:List Str} {B:Nat} (hn:1≤r.length∧r.length≤32) (hx:(C1 x).length≤B) (hr:∀b∈r,(C1 b).length≤B) (h:r.length*B≤4096):(G5 x r).2=0:=by
 unfold G5
 rw [if_neg (by omega)]
 dsimp only
 rw [if_neg]
 rintro ⟨k,_,hk⟩
 refine hk ?_
 have hok:=(A71 (Q:=fun _=>True) (B:=B) (lines:=(C1 x).length) (n:=r.length) (ids:=(C1 x::r.map C1).map (O7 (I6 (C1 x::r.map C1)))) (fun z hz=>by
  obtain ⟨f,hf,rfl⟩:=List.mem_map.1 hz
  refine ⟨?_,fun _ _=>trivial⟩
  rw [O7,K84]
  rcases List.mem_cons.1 hf with rfl | hf
  ·exact hx
  ·obtain ⟨b,hb,rfl⟩:=List.mem_map.1 hf
   exact hr b hb) r.length).gaps k
 exact D96 (B:=B) (fun z hz=>(hok.2 z hz).1) (by rw [hok.1];exact hn.2) (by rw [hok.1];exact h)
end Go.AL
namespace Go.AL
open Go
def CutSp (m:Nat):Int→List Span→Prop
 | _,[]=>True
 | e,s::r=>e≤s.From∧s.From < s.To∧s.To≤m∧CutSp m s.To r
def endOf (e:Int):List Span→Int
 | []=>e
 | s::r=>endOf s.To r
theorem CutSp.mono {m m':Nat} (hm:m≤m'):∀{sp:List Span} {e:Int},CutSp m e sp→CutSp m' e sp
 | [],_,_=>trivial
 | s::r,e,h=>⟨h.1,h.2.1,by have:=h.2.2.1;omega,CutSp.mono hm h.2.2.2⟩
theorem CutSp.end_le {m:Nat}:∀{sp:List Span} {e:Int},CutSp m e sp→e≤m→endOf e sp≤m
 | [],_,_,he=>he
 | s::r,_,h,_=>CutSp.end_le (sp:=r) (e:=s.To) h.2.2.2 h.2.2.1
def cutH (n:Nat) (rows:List Row) (s:Span):CHunk:=⟨F5 (rows.take s.From.toNat) n,(rows.drop s.From.toNat).take (s.To.toNat - s.From.toNat)⟩
def U6 (n:Nat) (rows:List Row) (sp:List Span):List CHunk:=sp.map (cutH n rows)
theorem F04 (n:Nat) (rows:List Row):∀(sp:List Span) (e:Int) (hs:List CHunk),CutSp rows.length e sp→z7 n rows e hs sp=some (hs++U6 n rows sp)
 | [],_,hs,_=>by simp [z7,U6]
 | s::r,e,hs,h=>by
  obtain ⟨h1,h2,h3,h4⟩:=h
  rw [z7,if_neg (by omega),F04 n rows r _ _ h4]
  simp [U6,cutH]
theorem F05 (a b:List Row) (n k:Nat):M1 (a++b) n k=M1 a n k+M1 b n k:=by
 unfold M1;rw [D51,K56];omega
theorem G73 (a:List Row) (n k:Nat):0≤M1 a n k∧M1 a n k≤a.length:=by
 have:=B88 a (A06 n k)
 unfold M1;omega
theorem D52 (rows:List Row) (n k:Nat) (h:k < n+1):(F5 rows n).getD k 0=M1 rows n k:=A34 _ _ _ h
theorem C55 {α:Type} (rows:List α) {a b:Nat} (h:a≤b):rows.take b=rows.take a++(rows.drop a).take (b - a):=by
 have:=List.take_add (l:=rows) (i:=a) (j:=b - a)
 rwa [show a+(b - a)=b by omega] at this
theorem K16 (n:Nat) (rows:List Row) {s:Span} (h1:0≤s.From) (h2:s.From < s.To):U5 n (cutH n rows s)=F5 (rows.take s.To.toNat) n:=by
 unfold U5 F5
 refine List.map_congr_left fun k hk=>?_
 have hk:=List.mem_range.1 hk
 show (F5 (rows.take s.From.toNat) n).getD k 0+M1 ((rows.drop s.From.toNat).take (s.To.toNat - s.From.toNat)) n k=_
 rw [D52 _ _ _ hk,←F05,←C55 rows (by omega)]
theorem F06 (n:Nat) {rows:List Row} (hl:rows.length≤4096):∀(sp:List Span) (e:Int),0≤e→CutSp rows.length e sp→W2 n (F5 (rows.take e.toNat) n) (U6 n rows sp)=true
 | [],_,_,_=>rfl
 | s::r,e,he,h=>by
  obtain ⟨h1,h2,h3,h4⟩:=h
  show (C48 n (F5 (rows.take e.toNat) n) (cutH n rows s)&&W2 n (U5 n (cutH n rows s)) (U6 n rows r))=true
  rw [K16 n rows (by omega) h2,F06 n hl r s.To (by omega) h4,Bool.and_true]
  unfold C48
  rw [K59]
  refine ⟨decide_eq_true ⟨E92 _ _,fun hc=>?_⟩,List.all_eq_true.2 fun k hk=>decide_eq_true ?_⟩
  ·have:((rows.drop s.From.toNat).take (s.To.toNat - s.From.toNat)).length=0:=by
    rw [show (rows.drop s.From.toNat).take (s.To.toNat - s.From.toNat)=[] from hc];rfl
   rw [K70,K65] at this
   omega
  ·have hk:=List.mem_range.1 hk
   show ((F5 (rows.take e.toNat) n).getD k 0≤(F5 (rows.take s.From.toNat) n).getD k 0∧(F5 (rows.take s.From.toNat) n).getD k 0≤4096)∧(F5 (rows.take s.From.toNat) n).getD k 0+M1 ((rows.drop s.From.toNat).take (s.To.toNat - s.From.toNat)) n k≤4096
   rw [D52 _ _ _ hk,D52 _ _ _ hk,←F05,←C55 rows (by omega)]
   have g1:=F05 (rows.take e.toNat) ((rows.drop e.toNat).take (s.From.toNat - e.toNat)) n k
   rw [←C55 rows (by omega)] at g1
   have g2:=G73 ((rows.drop e.toNat).take (s.From.toNat - e.toNat)) n k
   have g3:=G73 (rows.take s.From.toNat) n k
   have g4:=G73 (rows.take s.To.toNat) n k
   rw [K70] at g3 g4
   omega
theorem D89 (n:Nat) (rows:List Row):∀(sp:List Span) (e:Int),0≤e→CutSp rows.length e sp→(d7 (U6 n rows sp)).Sublist (rows.drop e.toNat)
 | [],_,_,_=>List.nil_sublist _
 | s::r,e,he,h=>by
  obtain ⟨h1,h2,h3,h4⟩:=h
  have ih:=D89 n rows r s.To (by omega) h4
  show ((rows.drop s.From.toNat).take (s.To.toNat - s.From.toNat)++d7 (U6 n rows r)).Sublist _
  have e1:rows.drop e.toNat=(rows.drop e.toNat).take (s.From.toNat - e.toNat)++((rows.drop s.From.toNat).take (s.To.toNat - s.From.toNat)++rows.drop s.To.toNat):=by
   rw [←A36 rows (show s.From.toNat≤s.To.toNat by omega)]
   exact A36 rows (by omega)
  rw [e1]
  exact (List.Sublist.append (List.Sublist.refl _) ih).trans (List.sublist_append_right _ _)
theorem F07:∀{l:List Str},v8 l=true→(∀s∈l,H8 s=true)∧Q9 l=true
 | [],_=>⟨fun s hs=>(by cases hs),rfl⟩
 | x::r,h=>by
  rw [B53,K59,K59] at h
  obtain ⟨⟨h1,h2⟩,h3⟩:=h
  obtain ⟨i1,i2⟩:=F07 h3
  refine ⟨fun s hs=>?_,?_⟩
  ·rcases List.mem_cons.1 hs with rfl | hs
   ·exact h1
   ·exact i1 s hs
  ·show ((r.isEmpty||ended x)&&Q9 r)=true
   rw [h2,i2];rfl
theorem J59 {a b:List Row} {n:Nat} (hs:a.Sublist b) (h:c9 b n=true):c9 a n=true:=by
 unfold c9 at h ⊢
 rw [K59] at h ⊢
 obtain ⟨h1,h2⟩:=h
 refine ⟨List.all_eq_true.2 fun r hr=>List.all_eq_true.1 h1 r (hs.subset hr),List.all_eq_true.2 fun k hk=>?_⟩
 have h3:=F07 (List.all_eq_true.1 h2 k hk)
 have h4:(K0 a ((k:Int) - 1)).Sublist (K0 b ((k:Int) - 1)):=by unfold K0;exact (hs.filter _).map _
 exact A17 _ (fun s hs=>h3.1 s (h4.subset hs)) (B08 h4 h3.2)
theorem F42 {t:Table} (h:M6 t=0):(1≤t.Parents∧t.Parents≤32)∧R4 t.Rows t.Parents.toNat=true∧c9 t.Rows t.Parents.toNat=true:=by
 unfold M6 at h
 split at h
 ·cases h
 ·rename_i h1
  split at h
  ·cases h
  ·rename_i h2
   split at h
   ·cases h
   ·rename_i h3
    exact ⟨by omega,by simpa using h2,by simpa using h3⟩
theorem I49 {path:Str} {t:Table} {sp:List Span} {d:Bool} (hn:X3 path=true) (hc:M6 t=0) (hl:t.Rows.length≤4096) (hsp:CutSp t.Rows.length 0 sp)
  (hW:4*path.length+48+926*t.Rows.length+(t.Rows.map (D49 t.Parents.toNat)).sum≤16777216) :
  A12 path t sp d=(⟨path,d,t.Parents,U6 t.Parents.toNat t.Rows sp⟩,0)∧G8 ⟨path,d,t.Parents,U6 t.Parents.toNat t.Rows sp⟩=0∧(T6 ⟨path,d,t.Parents,U6 t.Parents.toNat t.Rows sp⟩).length≤4*path.length+48+926*t.Rows.length+(t.Rows.map (D49 t.Parents.toNat)).sum:=by
 obtain ⟨h1,h2,h3⟩:=F42 hc
 have hgo:=F04 t.Parents.toNat t.Rows sp 0 [] hsp
 rw [K78] at hgo
 have hsub:=D89 t.Parents.toNat t.Rows sp 0 (Int.le_refl _) hsp
 rw [show (0:Int).toNat=0 from rfl,List.drop_zero] at hsub
 have hw:=H66 ⟨path,d,t.Parents,U6 t.Parents.toNat t.Rows sp⟩
 have hg:=G70 (D49 t.Parents.toNat) (28*(t.Parents.toNat+1)+2) t.Parents.toNat t.Rows sp 0 [] _ (Int.le_refl _) hgo (by simp) (by simp)
 have hlen:(U6 t.Parents.toNat t.Rows sp).length≤t.Rows.length:=by have:=hg.2;simpa using this
 have hmul:(28*(t.Parents.toNat+1)+2)*(U6 t.Parents.toNat t.Rows sp).length≤926*t.Rows.length:=Nat.mul_le_mul (by omega) hlen
 have hsz:(T6 ⟨path,d,t.Parents,U6 t.Parents.toNat t.Rows sp⟩).length≤4*path.length+48+926*t.Rows.length+(t.Rows.map (D49 t.Parents.toNat)).sum:=by
  have:=hg.1
  dsimp only at hw
  omega
 have hck:G8 ⟨path,d,t.Parents,U6 t.Parents.toNat t.Rows sp⟩=0:=by
  unfold G8
  dsimp only
  have m1:p9 t.Parents.toNat (U6 t.Parents.toNat t.Rows sp)=true:=by
   unfold p9
   refine List.all_eq_true.2 fun h hh=>List.all_eq_true.2 fun r hr=>List.all_eq_true.1 h2 r (hsub.subset ?_)
   exact List.mem_flatten.2 ⟨h.Rows,List.mem_map_of_mem hh,hr⟩
  have m2:T3 t.Parents.toNat (U6 t.Parents.toNat t.Rows sp)=true:=by
   unfold T3
   have e0:List.replicate (t.Parents.toNat+1) 0=F5 (t.Rows.take (0:Int).toNat) t.Parents.toNat:=by
    unfold F5
    refine List.ext_getElem (by simp) fun k h1 h2=>?_
    simp [M1,K0]
   rw [e0,F06 _ hl sp 0 (Int.le_refl _) hsp,J59 hsub h3];rfl
  rw [if_neg (by rw [hn];decide),if_neg (by omega),m1,if_neg (by decide),m2,if_neg (by decide),if_neg (by omega)]
 refine ⟨?_,hck,hsz⟩
 unfold A12
 rw [if_neg (by rw [hn];decide),hc,if_neg (by decide),hgo]
 dsimp only
 rw [hck,if_neg (by decide)]
end Go.AL
namespace Go.AL
open Go
def V7 (c:Comb):Table × Int :=
 if G8 c≠0 then (⟨0,[]⟩,G8 c) else match c.Hunks with
  | []=>(⟨c.Parents,[]⟩,0)
  | h::r=>if r≠[]∨∃v∈h.At,v≠0 then (⟨0,[]⟩,121) else (⟨c.Parents,h.Rows⟩,0)
def d9 (m:Nat):List Span:=if 0 < m then [⟨0,m⟩] else []
theorem H75 (m:Nat):CutSp m 0 (d9 m):=by
 unfold d9
 split
 ·exact ⟨Int.le_refl _,by dsimp only;omega,Int.le_refl _,trivial⟩
 ·trivial
theorem I50 (n:Nat):F5 [] n=List.replicate (n+1) 0:=by
 unfold F5
 refine List.ext_getElem (by simp) fun k h1 h2=>?_
 simp [M1,K0]
theorem F08 (n:Nat) (rows:List Row):U6 n rows (d9 rows.length)=if 0 < rows.length then [⟨List.replicate (n+1) 0,rows⟩] else []:=by
 unfold d9
 by_cases h:0 < rows.length
 ·rw [if_pos h,if_pos h]
  unfold U6 cutH
  simp [I50]
 ·rw [if_neg h,if_neg h];rfl
theorem I51 {path:Str} {d:Bool} {t:Table} (hc:G8 ⟨path,d,t.Parents,U6 t.Parents.toNat t.Rows (d9 t.Rows.length)⟩=0):V7 ⟨path,d,t.Parents,U6 t.Parents.toNat t.Rows (d9 t.Rows.length)⟩=(t,0):=by
 unfold V7
 rw [hc,if_neg (by decide)]
 dsimp only
 rw [F08]
 by_cases h:0 < t.Rows.length
 ·rw [if_pos h]
  dsimp only
  rw [if_neg]
  rintro (h1 | ⟨v,hv,h1⟩)
  ·exact h1 rfl
  ·exact h1 (List.eq_of_mem_replicate hv)
 ·rw [if_neg h]
  have:t.Rows=[]:=List.eq_nil_of_length_eq_zero (by omega)
  dsimp only
  rw [←this]
theorem F09 {b:Str} (h:b.length≤4096):A59 (C1 b)=(b,0):=by
 have h1:=C45 b
 have h2:(C1 b).flatten=b:=by unfold C1;exact B61 b []
 unfold A59
 rw [A17 _ (i8 b).1 (i8 b).2,if_neg (by decide),if_neg (by omega),h2]
theorem H76 {x:Str} {r:List Str} (hc:M6 (G5 x r).1=0) (hp:(G5 x r).1.Parents=r.length) (h:Made16 x r (G5 x r).1.Rows) (hx:x.length≤4096) (hr:∀b∈r,b.length≤4096) :
  T0 (G5 x r).1 (-1)=(x,0)∧∀q,q < r.length→T0 (G5 x r).1 q=(r.getD q [],0):=by
 refine ⟨?_,fun q hq=>?_⟩
 ·unfold T0
  rw [hc,if_neg (by decide),hp,if_neg (by omega),h.res,F09 hx]
 ·unfold T0
  rw [hc,if_neg (by decide),hp,if_neg (by omega),h.par q hq]
  refine F09 (hr _ ?_)
  rw [K60,K57 hq]
  exact K76 hq
end Go.AL
namespace Go.AL
open Go
def A77 (f:Nat→Nat):Nat→Nat
 | 0=>0
 | m+1=>A77 f m+f m
theorem F10 {f g:Nat→Nat}:∀{m:Nat},(∀k,f k≤g k)→A77 f m≤A77 g m
 | 0,_=>Nat.le_refl _
 | m+1,h=>by
  have h1:=F10 (f:=f) (g:=g) (m:=m) h
  have h2:=h m
  show A77 f m+f m≤A77 g m+g m
  omega
theorem G08 {f g:Nat→Nat} {k0:Nat} (h:∀k,f k≤g k) (h0:f k0+1≤g k0):∀{m:Nat},k0 < m→A77 f m+1≤A77 g m
 | 0,hm=>absurd hm (Nat.not_lt_zero _)
 | m+1,hm=>by
  show A77 f m+f m+1≤A77 g m+g m
  by_cases hk:k0=m
  ·subst hk
   have:=F10 (f:=f) (g:=g) (m:=k0) h
   omega
  ·have h1:=G08 h h0 (m:=m) (by omega)
   have h2:=h m
   omega
theorem J60 {n:Nat} (hn:n≤32) {r:Row} (h:R7 n r=true):∃k,k < n+1∧a8 r ((k:Int) - 1)=true:=by
 obtain ⟨h1,h2,h3⟩:=B12 h
 cases hl:r.Lost
 ·exact ⟨0,by omega,by rw [show ((0:Nat):Int) - 1 = -1 from rfl,a8,if_pos rfl,hl];rfl⟩
 ·have h4:=h3 hl
  obtain ⟨m,hm⟩:∃m:Nat,r.Marks=m:=⟨r.Marks.toNat,by omega⟩
  have h5:((2 ^ n:Nat):Int)=2 ^ n:=by simp
  have hm0:m≠0:=by omega
  obtain ⟨q,hq⟩:=Nat.exists_testBit_of_ne_zero hm0
  have hqn:q < n:=by
   refine Classical.byContradiction fun hc=>?_
   have:m < 2 ^ n:=by omega
   rw [Nat.testBit_lt_two_pow (Nat.lt_of_lt_of_le this (Nat.pow_le_pow_right (by decide) (by omega)))] at hq
   cases hq
  refine ⟨q+1,by omega,?_⟩
  rw [show ((q+1:Nat):Int) - 1=(q:Int) by omega,F03 _ (by omega),hm,j9,hq,hl];rfl
theorem G09 {f:Nat→Nat} {B:Nat}:∀{m:Nat},(∀k,k < m→f k≤B)→A77 f m≤m*B
 | 0,_=>by simp [A77]
 | m+1,h=>by
  have h1:=G09 (f:=f) (B:=B) (m:=m) fun k hk=>h k (by omega)
  have h2:=h m (by omega)
  show A77 f m+f m≤(m+1)*B
  rw [K80,Nat.one_mul];omega
theorem H77 {n:Nat} (hn:n≤32):∀{rows:List Row},(∀r∈rows,R7 n r=true)→rows.length≤A77 (fun k=>(K0 rows ((k:Int) - 1)).length) (n+1)
 | [],_=>Nat.zero_le _
 | r::rs,h=>by
  have ih:=H77 hn (rows:=rs) fun x hx=>h x (by simp [hx])
  obtain ⟨k,hk,hv⟩:=J60 hn (h r (by simp))
  have:=G08 (f:=fun k=>(K0 rs ((k:Int) - 1)).length) (g:=fun k=>(K0 (r::rs) ((k:Int) - 1)).length) (k0:=k) (fun q=>by
   unfold K0
   simp only [K84,L03]
   split
   ·rw [K58];omega
   ·exact Nat.le_refl _) (by
   unfold K0
   simp only [K84,L03]
   rw [hv,if_pos rfl,K58]
   exact Nat.le_refl _) hk
  rw [K58];omega
theorem Made16.few {x:Str} {r:List Str} {rows:List Row} (h:Made16 x r rows) (hn:r.length≤32) {L:Nat} (hx:(C1 x).length≤L) (hr:∀b∈r,(C1 b).length≤L):rows.length≤(r.length+1)*L:=by
 refine Nat.le_trans (H77 hn (List.all_eq_true.1 h.marks)) (G09 fun k hk=>?_)
 cases k with
 | zero=>rw [show ((0:Nat):Int) - 1 = -1 from rfl,h.res];exact hx
 | succ q =>
  rw [show ((q+1:Nat):Int) - 1=(q:Int) by omega,h.par q (by omega)]
  refine hr _ ?_
  rw [K60,K57 (by omega)]
  exact K76 _
end Go.AL
namespace Go.AL
open Go
end Go.AL
