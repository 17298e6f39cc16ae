/- Plain facts about data; no project text. -/
import Derived.Test.YtgkjogphmmoakaaGreatDoorD
import Derived.Lib.Strings
import Derived.Lib.Bytealg
import Derived.Lib.Join
import Derived.Lib.ItoaNum
import Derived.Test.YtgkjogphmmoakaaGreatDoorAn
import Derived.Lib.IndexMore
set_option linter.all false
namespace Go.AL
open Go
theorem u8_lf(c:UInt8):((c.toNat:Int)=10)↔c=10:=by
 constructor
 ·intro h;have:c.toNat=10:=by omega
  exact UInt8.toNat_inj.1 (by simpa using this)
 ·rintro rfl;rfl
def G3(a:Str):Str->List Str
 | []=>if a=[] then [] else [a]
 | c::r=>if c=10 then (a++[c])::G3 [] r else G3 (a++[c]) r
def B6(b:Str):List Str:=G3 [] b
theorem lC(a:Str)(s:Str):(G3 a s).length<=s.length+1:=by
 induction s generalizing a with
 | nil=>unfold G3;split<;>simp
 | cons c r b=>unfold G3;split<;>simp<;>(have:=b [];have:=b (a++[c]);omega)
theorem oQ(s:Str):(G3 [] s).length<=s.length:=by
 have b:∀(s a:Str),a≠[]->(G3 a s).length<=s.length+1:=fun s a _=>lC a s;induction s with
 | nil=>simp[G3]
 | cons c r d=>unfold G3;split<;>simp<;>(have:=lC ([]++[c]) r;simp at this;omega)
theorem aW(b:Str):(B6 b).length<=b.length:=oQ b
theorem u9(a r:Str)(c:UInt8):G3 a (c::r)=if c=10 then (a++[c])::G3 [] r else G3 (a++[c]) r:=rfl
theorem MC(a:Str)(h:a≠[]):G3 a []=[a]:=by simp[G3,h]
theorem or_pick{p q:Prop}[Decidable p][Decidable q]:(if decide p=true then true else decide q)=decide (p\/q):=by by_cases p<;>simp[*]
theorem and_pick{p q:Prop}[Decidable p][Decidable q]:(if decide p=true then decide q else false)=decide (p/\q):=by by_cases p<;>simp[*]
theorem fX{α:Type}(l:List (List α))(i:Nat)(h:i<l.length):(l.take (i+1)).flatten=(l.take i).flatten++l[i]:=by
 rw[List.take_add_one,C29 h,Option.toList_some,C69];simp
theorem lD{α:Type}(l:List (List α))(i:Nat):(l.take i).flatten.length<=l.flatten.length:=by
 conv=>rhs;rw[<-C70 i l,C69,C32]
 omega
theorem WI(i:Nat):((i:Int)+1).toNat=i+1:=by omega
theorem IC{α:Type}(b:List α)(f i:Nat)(d:f<=i)(c:i<b.length):(b.drop f).take (i-f)++[b[i]]=(b.drop f).take (i+1-f):=by
 rw[show i+1-f=(i-f)+1 by omega,List.take_add_one,C61,show f+(i-f)=i by omega,C29 c];rfl
def ended(s:Str):Bool:=s.getLast? == some 10
def J0:List Str->Str->Int->Int
 | [],_,_ => -1
 | x::r,s,i=>if x=s then i else J0 r s (i+1)
def K0(s:Str):Bool:=s.dropLast.all (·≠10)&&s != []
def mL:List Str->Bool
 | []=>true
 | s::r=>K0 s&&(r.isEmpty||ended s)&&mL r
def s9(b:Str):Int:=if b.length>1048576\/(B6 b).length>4096 then 1 else 0
def L7(a:List Str)(s:Str):List Str:=if s∈a then a else a++[s]
def J1(files:List (List Str)):List Str:=files.flatten.foldl L7 []
def R4(a:List Str)(b:List Str):List Int:=b.map (fun s=>J0 a s 0)
theorem vP(a:List Str)(s:Str):(L7 a s).length<=a.length+1:=by unfold L7;split<;>simp
theorem qU(l a:List Str):(l.foldl L7 a).length<=a.length+l.length:=by
 induction l generalizing a with
 | nil=>simp
 | cons s r b=>have c:=b (L7 a s);have d:=vP a s;simp only[C68,C34];omega
theorem CC(a:List (List Str)):(J1 a).length<=a.flatten.length:=by have:=qU a.flatten [];simpa[J1] using this
def R5(i j:Int):List Span->Int->Int->List Change
 | [],m,n=>if m>i\/n>j then [⟨i,m-i,j,n-j⟩] else []
 | x::r,m,n=>(if x.From>i\/x.To>j then [⟨i,x.From-i,j,x.To-j⟩] else [])++R5 (x.From+1) (x.To+1) r m n
def jR(p:List Span)(m n:Int):List Change:=R5 0 0 p m n
theorem pQ(p:List Span)(i j m n:Int):(R5 i j p m n).length<=p.length+1:=by
 induction p generalizing i j with
 | nil=>unfold R5;split<;>simp
 | cons x r a=>unfold R5;have:=a (x.From+1) (x.To+1);split<;>simp<;>omega
def T6(i j:Int)(n:Nat):List Span:=(List.range n).map fun (t:Nat)=>⟨i+(t:Int),j+(t:Int)⟩
theorem CD(i j:Int)(n:Nat):(T6 i j n).length=n:=by simp[T6]
theorem jS(i j:Int)(n:Nat):T6 i j (n+1)=⟨i,j⟩::T6 (i+1) (j+1) n:=by
 unfold T6;rw[List.range_succ_eq_map,C39,C71]
 congr 1
 ·simp
 ·refine List.map_congr_left fun t _=>?_;simp only[Function.comp,Span.mk.injEq];omega
def L8(i j:Int):List Change->Int->List Span
 | [],m=>T6 i j (m-i).toNat
 | c::r,m=>T6 i j (c.Old-i).toNat++L8 (max i c.Old+c.OldLen) (j+(c.Old-i).toNat+c.NewLen) r m
def z8(l:List Change)(m:Int):List Span:=L8 0 0 l m
def dist:List Int->List Int->Nat
 | [],b=>b.length
 | x::a,[]=>(x::a).length
 | x::a,y::b=>if x=y then dist a b else 1+min (dist a (y::b)) (dist (x::a) b)
theorem tH(a:List Int):dist a []=a.length:=by cases a<;>simp[dist]
theorem MD(a b:List Int):dist a b<=a.length+b.length:=by
 induction a generalizing b with
 | nil=>simp[dist]
 | cons x a c =>
  induction b with
  | nil=>simp[dist]
  | cons y b d =>
   unfold dist;split
   ·have:=c b;simp;omega
   ·have:=c (y::b);have:=d;simp only[C34]at *;omega
def H5(i j:Int):List Int->List Int->List Span
 | [],_=>[]
 | _::_,[]=>[]
 | x::a,y::b=>if x=y then ⟨i,j⟩::H5 (i+1) (j+1) a b else if dist a (y::b)+1=dist (x::a) (y::b) then H5 (i+1) j a (y::b) else H5 i (j+1) (x::a) b
def Q0(a b:List Int):List Change:=jR (H5 0 0 a b) a.length b.length
theorem A58(a b:List Int)(i j:Nat)(c:i<a.length)(d:j<b.length) :
  dist (a.drop i) (b.drop j)=if a[i]=b[j] then dist (a.drop (i+1)) (b.drop (j+1)) else 1+min (dist (a.drop (i+1)) (b.drop j)) (dist (a.drop i) (b.drop (j+1))):=by
 rw[C38 c,C38 d]
 conv=>lhs;rw[dist]
theorem xM(a b:List Int)(i j:Nat)(c:i<a.length)(d:j<b.length)(p q:Int) :
  H5 p q (a.drop i) (b.drop j)=if a[i]=b[j] then ⟨p,q⟩::H5 (p+1) (q+1) (a.drop (i+1)) (b.drop (j+1)) else
   if dist (a.drop (i+1)) (b.drop j)+1=dist (a.drop i) (b.drop j) then H5 (p+1) q (a.drop (i+1)) (b.drop j) else H5 p (q+1) (a.drop i) (b.drop (j+1)):=by
 rw[C38 c,C38 d]
 conv=>lhs;rw[H5]
theorem x2(p q:Int)(b:List Int):H5 p q [] b=[]:=by simp[H5]
theorem cA(p q:Int)(a:List Int):H5 p q a []=[]:=by cases a<;>simp[H5]
theorem gY(p q:Int)(a b:List Int):(H5 p q a b).length<=a.length:=by
 induction a generalizing p q b with
 | nil=>simp[H5]
 | cons x a c =>
  induction b generalizing p q with
  | nil=>simp[H5]
  | cons y b d =>
   unfold H5;split
   ·have:=c (p+1) (q+1) b;simp;omega
   ·split
    ·have:=c (p+1) q (y::b);simp;omega
    ·exact d p (q+1)
universe u
theorem oA{α:Type u}(n k:Nat)(f g:Nat->α)(v:α)(i:k<n->g k=v)(h:∀q,q<n->q≠k->g q=f q):((List.range n).map f).set k v=(List.range n).map g:=by
 refine List.ext_getElem (by simp) fun q j d=>?_;have c:q<n:=by simpa using d
 rw[List.getElem_set];by_cases b:k=q
 ·subst b;simp[i c]
 ·rw[A6 b];simp[h q c (Ne.symm b)]
theorem vQ{α:Type u}(n k:Nat)(f:Nat->α)(h:k<n):((List.range n).map f)[k]?=some (f k):=by simp[h]
def I2(l:List Merged):List Int:=l.map (·.Line)
theorem jT(i j:Int):T6 i j 0=[]:=rfl
theorem ME(i j:Int)(n:Nat):T6 i j (n+1)=T6 i j n++[⟨i+n,j+n⟩]:=by simp[T6,C75]
def Asc(m n:Int):Int->Int->List Span->Prop
 | i,j,[]=>i<=m/\j<=n
 | i,j,x::r=>i<=x.From/\j<=x.To/\Asc m n (x.From+1) (x.To+1) r
theorem Asc.le{m n:Int}:∀{p:List Span} {i j:Int},Asc m n i j p->i<=m/\j<=n
 | [],i,j,h=>h
 | x::r,i,j,h=>by have:=Asc.le h.2.2;have:=h.1;have:=h.2.1;omega
theorem Asc.weaken{m n:Int}{p:List Span}{i j i' j':Int}(h:Asc m n i j p)(a:i'<=i)(b:j'<=j):Asc m n i' j' p:=by
 cases p with
 | nil=>exact⟨by have:=h.1;omega,by have:=h.2;omega⟩
 | cons x r=>exact⟨by have:=h.1;omega,by have:=h.2.1;omega,h.2.2⟩
theorem Z2(a b:List Int):∀(p q:Int),Asc (p+a.length) (q+b.length) p q (H5 p q a b):=by
 induction a generalizing b with
 | nil=>intro p q;rw[x2];simp only[Asc,C43];omega
 | cons x a c =>
  induction b with
  | nil=>intro p q;rw[cA];simp only[Asc,C43];omega
  | cons y b d =>
   intro p q;rw[H5];split
   ·have:=c b (p+1) (q+1);refine⟨Int.le_refl _,Int.le_refl _,?_⟩;simp only[C34]
    rwa[show p+((a.length+1:Nat):Int)=p+1+a.length by omega,show q+((b.length+1:Nat):Int)=q+1+b.length by omega]
   ·split
    ·have:=(c (y::b) (p+1) q).weaken (i':=p) (j':=q) (by omega) (Int.le_refl _)
     rwa[show p+((x::a).length:Int)=p+1+a.length by simp;omega]
    ·have:=(d p (q+1)).weaken (i':=p) (j':=q) (Int.le_refl _) (by omega)
     rwa[show q+((y::b).length:Int)=q+1+b.length by simp;omega]
theorem Asc.made{m n:Int}:∀{p:List Span} {i j:Int},Asc m n i j p->∀c∈R5 i j p m n,i<=c.Old/\j<=c.New/\0<=c.OldLen/\0<=c.NewLen/\c.Old+c.OldLen<=m/\c.New+c.NewLen<=n
 | [],i,j,h,c,a=>by
  unfold R5 at a;split at a
  ·simp only[List.mem_singleton]at a;subst a;have:=h.1;have:=h.2;simp only;omega
  ·cases a
 | x::r,i,j,h,c,a=>by
  unfold R5 at a;obtain⟨d,e,b⟩:=h;have f:=b.le;rcases C37.1 a with a | a
  ·split at a
   ·simp only[List.mem_singleton]at a;subst a;simp only;omega
   ·cases a
  ·have:=Asc.made b c a;omega
theorem CE(i j m:Int)(l:List Change)(h:∀c∈l,i+1<=c.Old)(b:l=[]->i+1<=m):L8 i j l m=⟨i,j⟩::L8 (i+1) (j+1) l m:=by
 cases l with
 | nil =>
  have:=b rfl;rw[L8,L8,show (m-i).toNat=(m-(i+1)).toNat+1 by omega,jS]
 | cons c r =>
  have:=h c (List.mem_cons_self ..);rw[L8,L8,show (c.Old-i).toNat=(c.Old-(i+1)).toNat+1 by omega,jS];rw[show max (i+1) c.Old=max i c.Old by omega,show (j+1+((c.Old-(i+1)).toNat:Int))=j+(((c.Old-(i+1)).toNat+1:Nat):Int) by omega];rfl
theorem tI{m n:Int}:∀{p:List Span} {i j:Int},Asc m n i j p->L8 i j (R5 i j p m n) m=p
 | [],i,j,h=>by
  have g:=h.1;have k:=h.2;unfold R5;split
  ·rw[L8,L8,show (i-i).toNat=0 by omega,show (m-(max i i+(m-i))).toNat=0 by omega];rfl
  ·rw[L8,show (m-i).toNat=0 by omega];rfl
 | x::r,i,j,h=>by
  obtain⟨g,k,b⟩:=h;have s:=tI b;have q:=b.le;have d:=CE x.From x.To m (R5 (x.From+1) (x.To+1) r m n) (fun c l=>(b.made c l).1) (fun _=>q.1);rw[s]at d;unfold R5;split
  ·rw[List.singleton_append,L8,show (i-i).toNat=0 by omega,show max i i+(x.From-i)=x.From by omega,show j+((0:Nat):Int)+(x.To-j)=x.To by omega,d];rfl
  ·have e:i=x.From:=by omega
   have f:j=x.To:=by omega
   rw[C58,e,f,d]
theorem MF(a b:List Int):z8 (Q0 a b) a.length=H5 0 0 a b:=by
 have:=Z2 a b 0 0;rw[Int.zero_add,Int.zero_add]at this;exact tI this
theorem MH(a b:List Int):∀c∈Q0 a b,0<=c.Old/\0<=c.New/\0<=c.OldLen/\0<=c.NewLen/\c.Old+c.OldLen<=a.length/\c.New+c.NewLen<=b.length:=by
 have:=Z2 a b 0 0;rw[Int.zero_add,Int.zero_add]at this;exact this.made
def J6(p:Int):Int:=IntKind.u32.wrap (1*2 ^ (min (IntKind.u64.wrap p).toNat IntKind.u32.bits))
def L1(a b:Int):Int:=IntKind.u32.wrap ((BitVec.ofInt IntKind.u32.bits a ||| BitVec.ofInt IntKind.u32.bits b).toNat:Int)
def m9(l:List Merged)(b:List Int)(c:Int)(i j:Nat):List Span->List Merged
 | []=>(l.drop i).take (l.length-i)++((b.drop j).take (b.length-j)).map fun v=>⟨v,c⟩
 | x::r=>(l.drop i).take (x.From.toNat-i)++(((b.drop j).take (x.To.toNat-j)).map fun v=>⟨v,c⟩)++((l[x.From.toNat]?.map fun y=>(⟨y.Line,L1 y.Parents c⟩:Merged)).toList++m9 l b c (x.From.toNat+1) (x.To.toNat+1) r)
def n8(l:List Merged)(list:List Int)(p:Int):List Merged:=m9 l list (J6 p) 0 0 (H5 0 0 (I2 l) list)
theorem CF{α:Type}(l:List α)(i t:Nat)(h:i+t<l.length):(l.drop i).take (t+1)=(l.drop i).take t++[l[i+t]]:=by
 rw[List.take_add_one,C61,C29 h];rfl
def Y4(m:Int)(c:Nat):Bool:=m / 2 ^ c % 2 == 1
def y3(r:Row)(c:Int):Bool:=if c = -1 then !r.Lost else if c < -1\/32<=c then false else Y4 r.Marks c.toNat == r.Lost
def L9(rows:List Row)(c:Int):List Str:=(rows.filter (y3 · c)).map (·.Text)
def U6(n:Nat)(r:Row):Bool:=r.Marks / 2 ^ n == 0&&!(r.Lost&&r.Marks == 0)
def R0(a:List Row)(n:Nat):Bool:=a.all (U6 n)
def aX(b:List Row)(n:Nat):Bool:=b.all (fun r=>K0 r.Text)&&(List.range (n+1)).all fun k=>mL (L9 b ((k:Int)-1))
def J2(t:Table):Int:=if t.Parents<1\/32<t.Parents then 2 else if R0 t.Rows t.Parents.toNat=false then 180 else if aX t.Rows t.Parents.toNat=false then 4 else 0
theorem jU(r:Row)(a:List Row)(n:Nat):R0 (r::a) n=(U6 n r&&R0 a n):=rfl
def K1(rows:List Row):Prop:=∀r∈rows,0<=r.Marks/\r.Marks<4294967296
def U7(rows:List Row):Nat:=(rows.map (·.Text)).flatten.length
theorem vR(a:List Row)(c:Int):(L9 a c).length<=a.length:=by unfold L9;rw[C55];exact List.length_filter_le _ _
theorem QM(a:List Row):∀r∈a,r.Text.length<=U7 a:=by
 intro r b;unfold U7;exact (List.sublist_flatten_of_mem (List.mem_map_of_mem b)).length_le
theorem QN(x:Int)(h:0<=x/\x<4294967296):IntKind.u32.wrap ((BitVec.ofInt IntKind.u32.bits x &&& BitVec.ofInt IntKind.u32.bits 1).toNat:Int)=x % 2:=by
 have d:(BitVec.ofInt IntKind.u32.bits x &&& BitVec.ofInt IntKind.u32.bits 1).toNat=x.toNat % 2:=by
  rw[BitVec.toNat_and,BitVec.toNat_ofInt,BitVec.toNat_ofInt];have b:(x % ((2 ^ IntKind.u32.bits:Nat):Int)).toNat=x.toNat:=by
   rw[show ((2 ^ IntKind.u32.bits:Nat):Int)=4294967296 by rfl];omega
  have c:((1:Int) % ((2 ^ IntKind.u32.bits:Nat):Int)).toNat=1:=by rfl
  rw[b,c,Nat.and_one_is_mod]
 rw[d];have e:IntKind.u32.wrap ((x.toNat % 2:Nat):Int)=((x.toNat % 2:Nat):Int):=by
  simp[IntKind.wrap,IntKind.signed,IntKind.bits];omega
 rw[e];omega
theorem WJ{n:Int}(h:0<=n/\n<18446744073709551616):IntKind.u64.wrap n=n:=by simp[IntKind.wrap,IntKind.signed,IntKind.bits];omega
theorem ZE(m c:Int)(a:0<=c/\c<=32):m.fdiv (2 ^ (min c.toNat IntKind.u32.bits))=m / 2 ^ c.toNat:=by
 rw[show min c.toNat IntKind.u32.bits=c.toNat from Nat.min_eq_left (by show c.toNat<=32;omega),Int.fdiv_eq_ediv_of_nonneg _ (Int.pow_nonneg (by decide))]
theorem shr_eq(m c:Int)(b:Nat)(a:0<=c/\c<=b):m.fdiv (2 ^ (min c.toNat b))=m / 2 ^ c.toNat:=by
 rw[show min c.toNat b=c.toNat by omega,Int.fdiv_eq_ediv_of_nonneg _ (Int.pow_nonneg (by decide))]
theorem MI(n:Int):0<=IntKind.u32.wrap n/\IntKind.u32.wrap n<4294967296:=by simp[IntKind.wrap,IntKind.signed,IntKind.bits];omega
def aY(a b:Int):Int:=IntKind.u32.wrap ((BitVec.ofInt IntKind.u32.bits a &&& ~~~BitVec.ofInt IntKind.u32.bits b).toNat:Int)
def I8(a:List Merged)(p:Nat):List (List Int)->List Merged×Int
 | []=>(a,0)
 | x::r=>if 4096<a.length\/4096<x.length then ([],1) else I8 (n8 a x p) (p+1) r
def H7(a:List (List Int)):List Merged×Int:=if 32<a.length then ([],1) else I8 [] 0 a
theorem xN(l:List Merged)(b:List Int)(c:Int):∀(ps:List Span) (i j:Nat),i<=l.length->j<=b.length->Asc l.length b.length i j ps->(m9 l b c i j ps).length<=(l.length-i)+(b.length-j)
 | [],i,j,hi,hj,_=>by simp[m9]
 | x::r,i,j,hi,hj,ha=>by
  obtain⟨q,u,d⟩:=ha;have v:=d.le;have f:((x.From.toNat+1:Nat):Int)=x.From+1:=by omega
  have k:((x.To.toNat+1:Nat):Int)=x.To+1:=by omega
  have z:=xN l b c r (x.From.toNat+1) (x.To.toNat+1) (by omega) (by omega) (by rw[f,k];exact d);have w:((l[x.From.toNat]?.map fun y=>(⟨y.Line,L1 y.Parents c⟩:Merged)).toList).length<=1:=by cases l[x.From.toNat]?<;>simp
  simp only[m9,C32,C55,C41,C45];omega
theorem fY(l:List Merged)(a:List Int)(p:Int):(n8 l a p).length<=l.length+a.length:=by
 have b:=Z2 (I2 l) a 0 0;rw[Int.zero_add,Int.zero_add,show (I2 l).length=l.length by simp[I2]]at b;have:=xN l a (J6 p) (H5 0 0 (I2 l) a) 0 0 (Nat.zero_le _) (Nat.zero_le _) b;simpa[n8] using this
theorem c7{α:Type}{l:List α}{i n:Nat}{x:α}(h:x∈(l.drop i).take n):x∈l:=List.mem_of_mem_drop (List.mem_of_mem_take h)
theorem CG(l:List Merged)(a:List Int)(b:Int)(hb:0<=b/\b<4294967296)(e:∀m∈l,0<=m.Parents/\m.Parents<4294967296)(Q:Int->Prop)(c:∀m∈l,Q m.Line)(d:∀v∈a,Q v) :
  ∀(ps:List Span) (i j:Nat),∀m∈m9 l a b i j ps,(0<=m.Parents/\m.Parents<4294967296)/\Q m.Line
 | [],i,j,m,hm=>by
  rcases C37.1 hm with h | h
  ·have:=c7 h;exact⟨e _ this,c _ this⟩
  ·obtain⟨v,f,rfl⟩:=C54.1 h;exact⟨hb,d _ (c7 f)⟩
 | x :: r,i,j,m,hm=>by
  unfold m9 at hm;rcases C37.1 hm with h | h
  ·rcases C37.1 h with h | h
   ·have:=c7 h;exact⟨e _ this,c _ this⟩
   ·obtain⟨v,f,rfl⟩:=C54.1 h;exact⟨hb,d _ (c7 f)⟩
  ·rcases C37.1 h with h | h
   ·cases g:l[x.From.toNat]? with
    | none=>simp[g]at h
    | some y =>
     simp[g]at h;subst h;exact⟨MI _,c y (C53 g)⟩
   ·exact CG l a b hb e Q c d r _ _ m h
theorem fZ(Q:Int->Prop)(B:Nat):∀(c:List (List Int)) (a:List Merged) (p:Nat),(∀x∈c,x.length<=B/\∀v∈x,Q v)->(∀m∈a,(0<=m.Parents/\m.Parents<4294967296)/\Q m.Line) ->
  (I8 a p c).1.length<=a.length+c.length*B/\∀m∈(I8 a p c).1,(0<=m.Parents/\m.Parents<4294967296)/\Q m.Line
 | [],a,p,_,ha=>by simp only[I8];exact⟨by simp,ha⟩
 | x::r,a,p,hl,ha=>by
  unfold I8;split
  ·exact⟨by simp,by simp⟩
  ·have d:=hl x (List.mem_cons_self ..);have o:=fY a x p;have b:=CG a x (J6 p) (MI _) (fun m b=>(ha m b).1) Q (fun m b=>(ha m b).2) d.2 (H5 0 0 (I2 a) x) 0 0;have f:=fZ Q B r (n8 a x p) (p+1) (fun y i=>hl y (List.mem_cons_of_mem _ i)) b;refine⟨?_,f.2⟩;have j:=f.1;have k:=d.1;simp only[C34,C62,Nat.one_mul];omega
theorem gZ(Q:Int->Prop)(B:Nat)(a:List (List Int))(h:∀x∈a,x.length<=B/\∀v∈x,Q v):(H7 a).1.length<=a.length*B/\∀m∈(H7 a).1,(0<=m.Parents/\m.Parents<4294967296)/\Q m.Line:=by
 unfold H7;split
 ·exact⟨by simp,by simp⟩
 ·have:=fZ Q B a [] 0 h (by simp);simpa using this
def a8(p:Int)(a:List Int)(x:Span):List Int:=a.set x.To.toNat (aY (a.getD x.To.toNat 0) (J6 p))
def R6(p:Nat)(b:List Int)(g:Nat->List (List Int))(c:Change):Nat->List (List Int):=fun k =>
 if k=c.New.toNat then (g k).set p ((b.drop c.Old.toNat).take ((c.Old+c.OldLen).toNat-c.Old.toNat)) else g k
abbrev Loom:=List Int×(Nat->List (List Int))
def y4(b:List (List Int))(s:Loom)(p:Nat):Loom :=
 let a:=b.getD (p+1) [];let c:=Q0 a (b.getD 0 [])
 ((z8 c a.length).foldl (a8 p) (s.1.map (L1 · (J6 p))),c.foldl (R6 p a) s.2)
def CH(a n:Nat):Loom:=(List.replicate a 0,fun _=>List.replicate n [])
def g9(ids:List (List Int))(a n p:Nat):Loom:=(List.range p).foldl (y4 ids) (CH a n)
def V6(c:List Str)(b:List Str)(s:Loom)(k:Nat):List Row :=
 (H7 (s.2 k)).1.map (fun m=>(⟨true,m.Parents,c.getD m.Line.toNat []⟩:Row))++(if k<b.length then [⟨false,s.1.getD k 0,b.getD k []⟩] else [])
def i6(b:List Str)(c:List Str)(s:Loom)(k:Nat):List Row:=((List.range k).map (V6 b c s)).flatten
def E7(b:Str)(a:List Str):Table×Int :=
 if a.length<1\/32<a.length then (⟨0,[]⟩,2) else
 let d:=B6 b::a.map B6;let c:=J1 d;let s:=g9 (d.map (R4 c)) (B6 b).length a.length a.length
 if ∃k,k<(B6 b).length+1/\(H7 (s.2 k)).2≠0 then (⟨0,[]⟩,1) else (⟨a.length,i6 c (B6 b) s ((B6 b).length+1)⟩,0)
theorem xO(a b:List Str)(s:Loom)(k:Nat):i6 a b s (k+1)=i6 a b s k++V6 a b s k:=by
 unfold i6;rw[C75,C50,C69];simp
structure LoomOk (Q:Int->Prop) (B lines n:Nat) (s:Loom):Prop where
 len:s.1.length=lines
 marks:∀m∈s.1,0<=m/\m<4294967296
 gaps:∀k,(s.2 k).length=n/\∀x∈s.2 k,x.length<=B/\∀v∈x,Q v
theorem B45(Q:Int->Prop)(B a n:Nat):LoomOk Q B a n (CH a n) where
 len:=by simp[CH]
 marks:=fun m b=>by have:=List.eq_of_mem_replicate b;subst this;decide
 gaps:=fun k=>⟨by simp[CH],fun x c=>by have:=List.eq_of_mem_replicate c;subst this;simp⟩
theorem A59{Q:Int->Prop}{B n p:Nat}{a:List Int}(d:a.length<=B/\∀v∈a,Q v){g:Nat->List (List Int)}(b:∀k,(g k).length=n/\∀x∈g k,x.length<=B/\∀v∈x,Q v)(c:Change) :
  ∀k,(R6 p a g c k).length=n/\∀x∈R6 p a g c k,x.length<=B/\∀v∈x,Q v:=by
 intro k;unfold R6;split
 ·refine⟨by rw[C73];exact (b k).1,fun x i=>?_⟩;rcases List.mem_or_eq_of_mem_set i with h | rfl
  ·exact (b k).2 x h
  ·exact⟨by simp;omega,fun v f=>d.2 v (c7 f)⟩
 ·exact b k
theorem tJ{Q:Int->Prop}{B n p:Nat}{a:List Int}(b:a.length<=B/\∀v∈a,Q v):∀(d:List Change) {g:Nat->List (List Int)},(∀k,(g k).length=n/\∀x∈g k,x.length<=B/\∀v∈x,Q v) ->
  ∀k,(d.foldl (R6 p a) g k).length=n/\∀x∈d.foldl (R6 p a) g k,x.length<=B/\∀v∈x,Q v
 | [],_,hg=>hg
 | c::r,_,hg=>tJ b r (A59 b hg c)
theorem QO{p:Int}{a:List Int}{x:Span}(h:∀m∈a,0<=m/\m<4294967296):(a8 p a x).length=a.length/\∀m∈a8 p a x,0<=m/\m<4294967296:=by
 refine⟨by simp[a8],fun m c=>?_⟩;rcases List.mem_or_eq_of_mem_set c with b | rfl
 ·exact h m b
 ·exact MI _
theorem mM{p:Int}:∀(ps:List Span) {a:List Int},(∀m∈a,0<=m/\m<4294967296)->(ps.foldl (a8 p) a).length=a.length/\∀m∈ps.foldl (a8 p) a,0<=m/\m<4294967296
 | [],a,h=>⟨rfl,h⟩
 | x::r,a,h=>by
  have b:=QO (p:=p) (x:=x) h;have c:=mM (p:=p) r b.2;exact⟨c.1.trans b.1,c.2⟩
theorem FW{Q:Int->Prop}{B b n:Nat}{a:List (List Int)}(c:∀x∈a,x.length<=B/\∀v∈x,Q v){s:Loom}(h:LoomOk Q B b n s)(p:Nat):LoomOk Q B b n (y4 a s p):=by
 have f:(a.getD (p+1) []).length<=B/\∀v∈a.getD (p+1) [],Q v:=by
  rw[C33];cases k:a[p+1]? with
  | none=>simp
  | some x=>exact c x (C53 k)
 have j:∀m∈s.1.map (L1 · (J6 p)),0<=m/\m<4294967296:=fun m i=>by
  obtain⟨v,_,rfl⟩:=C54.1 i;exact MI _
 have d:=mM (p:=p) (z8 (Q0 (a.getD (p+1) []) (a.getD 0 [])) (a.getD (p+1) []).length) j;exact { len:=by rw[y4];simp only;rw[d.1,C55];exact h.len,marks:=d.2,gaps:=tJ f _ h.gaps }
theorem mN(ids:List (List Int))(a n p:Nat):g9 ids a n (p+1)=y4 ids (g9 ids a n p) p:=by
 unfold g9;rw[C75,C78];rfl
theorem iP{Q:Int->Prop}{B lines n:Nat}{ids:List (List Int)}(a:∀x∈ids,x.length<=B/\∀v∈x,Q v):∀p,LoomOk Q B lines n (g9 ids lines n p)
 | 0=>B45 Q B lines n
 | p+1=>by rw[mN];exact FW a (iP a p) p
theorem jV(l:List Str)(s:Str):∀k:Int,0<=k->s∈l->k<=J0 l s k/\J0 l s k<k+l.length:=by
 induction l with
 | nil=>intro k _ h;cases h
 | cons x r b =>
  intro k c h;unfold J0;by_cases a:x=s
  ·rw[A5 a];simp;omega
  ·rw[A6 a];have:=b (k+1) (by omega) (by rcases C36.1 h with rfl | h;exact absurd rfl a;exact h);simp only[C34];omega
theorem yY(l:List Str):∀(a:List Str) (s:Str),s∈a\/s∈l->s∈l.foldl L7 a:=by
 induction l with
 | nil=>intro a s h;rcases h with h | h;exact h;cases h
 | cons x r b =>
  intro a s h;apply b;rcases h with h | h
  ·left;unfold L7;split;exact h;exact List.mem_append_left _ h
  ·rcases C36.1 h with rfl | h
   ·left;unfold L7;split;assumption;simp
   ·exact .inr h
theorem mO(a:List (List Str))(s:Str)(f:List Str)(b:f∈a)(hs:s∈f):s∈J1 a:=yY _ _ _ (.inr (List.mem_flatten.2 ⟨f,b,hs⟩))
theorem ids_in(a:List (List Str)):∀x∈a.map (R4 (J1 a)),∀v∈x,0<=v/\v<(J1 a).length:=by
 intro x d v c;obtain⟨f,b,rfl⟩:=C54.1 d;obtain⟨s,hs,rfl⟩:=C54.1 c;have:=jV (J1 a) s 0 (Int.le_refl _) (mO a s f b hs);omega
theorem yZ(l:List Str):∀(a:List Str) (s:Str),s∈l.foldl L7 a->s∈a\/s∈l:=by
 induction l with
 | nil=>intro a s h;exact .inl h
 | cons x r b =>
  intro a s h;rcases b _ _ h with h | h
  ·unfold L7 at h;split at h
   ·exact .inl h
   ·rcases C37.1 h with h | h
    ·exact .inl h
    ·simp at h;subst h;exact .inr (by simp)
  ·exact .inr (List.mem_cons_of_mem _ h)
theorem xP(a:List (List Str))(s:Str)(h:s∈J1 a):s∈a.flatten:=by
 rcases yZ _ _ _ h with h | h
 ·cases h
 ·exact h
theorem tK(s:Str):Lib.hasSuffix s [10]=ended s:=by
 unfold Lib.hasSuffix ended;rw[Bool.eq_iff_iff,List.isSuffixOf_iff_suffix,beq_iff_eq];constructor
 ·rintro⟨t,rfl⟩;simp
 ·intro h;obtain⟨a,b⟩:=List.getLast?_eq_some_iff.1 h;exact⟨a,b.symm⟩
def jW(s:Str):Str:=if ended s then s.dropLast else s
theorem pR(s:Str):Lib.trimSuffix s [10]=jW s:=by
 unfold Lib.trimSuffix jW;rw[tK,List.dropLast_eq_take];rfl
theorem V7(c:UInt8):∀l:Str,(c∉l/\Lib.indexByte l c = -1)\/∃a b,l=a++c::b/\c∉a/\Lib.indexByte l c=a.length
 | []=>.inl ⟨by simp,rfl⟩
 | x::l=>by
  unfold Lib.indexByte;by_cases d:x=c
  ·exact .inr ⟨[],l,by rw[d];rfl,by simp,by simp[d]⟩
  ·rcases V7 c l with ⟨e,f⟩ | ⟨a,b,e,f,h3⟩
   ·exact .inl ⟨by simp[e,Ne.symm d],by simp[d,f]⟩
   ·refine .inr ⟨x::a,b,by rw[e];rfl,by simp[f,Ne.symm d],?_⟩;have g:¬((a.length:Int) = -1):=by omega
    simp[d,h3,g]
theorem pS(c:UInt8)(l:Str):0<=Lib.indexByte l c↔c∈l:=by
 rcases V7 c l with ⟨d,e⟩ | ⟨a,b,d,e,h3⟩
 ·rw[e];simp[d]
 ·rw[h3,d];simp
theorem jX(s:Str):K0 s=true↔s≠[]/\10∉s.dropLast:=by
 unfold K0;rw[C30,List.all_eq_true];constructor
 ·rintro⟨a,b⟩;exact⟨by simpa using b,fun h=>by have:=a 10 h;simp at this⟩
 ·rintro⟨a,b⟩;exact⟨fun x c=>by simpa using fun e:x=10=>b (e ▸ c),by simpa using a⟩
theorem B46(s:Str):10∈jW s↔10∈s.dropLast:=by
 unfold jW;split
 ·exact Iff.rfl
 ·rename_i h;by_cases hs:s=[]
  ·subst hs;simp
  ·constructor
   ·intro a;have e:=(List.dropLast_concat_getLast hs).symm;rw[e]at a;rcases C37.1 a with b | b
    ·exact b
    ·exfalso;refine h ?_;unfold ended;rw[List.getLast?_eq_some_getLast hs];simp at b;simp[<-b]
   ·exact fun a=>List.dropLast_subset s a
theorem A60(s:Str):(if decide (s≠[])=true then !decide (0<=Lib.indexByte (jW s) 10) else false)=K0 s:=by
 rw[Bool.eq_iff_iff,jX];have h:=B46 s;have a:=pS 10 (jW s);by_cases hs:s=[]
 ·simp[hs]
 ·simp[hs,a,h]
theorem xQ(s:Str)(r:List Str):mL (s::r)=(K0 s&&(r.isEmpty||ended s)&&mL r):=rfl
def QP(a b:Int):Int:=IntKind.u32.wrap ((BitVec.ofInt IntKind.u32.bits a &&& BitVec.ofInt IntKind.u32.bits b).toNat:Int)
def not32(a:Int):Int:=IntKind.u32.wrap ((BitVec.ofInt IntKind.u32.bits IntKind.u32.max ^^^ BitVec.ofInt IntKind.u32.bits a).toNat:Int)
theorem aA(n c:Nat):Y4 (n:Int) c=n.testBit c:=by
 unfold Y4;rw[Nat.testBit_eq_decide_div_mod_eq];have:((n:Int) / 2 ^ c % 2 == 1)=decide (n / 2 ^ c % 2=1):=by
  rw[Bool.eq_iff_iff,beq_iff_eq,decide_eq_true_iff];have e:(n:Int) / 2 ^ c % 2=((n / 2 ^ c % 2:Nat):Int):=by simp
  rw[e];omega
 exact this
theorem eG(n:Nat)(h:n<4294967296):IntKind.u32.wrap (n:Int)=n:=by simp[IntKind.wrap,IntKind.signed,IntKind.bits];omega
theorem vS(n:Nat):BitVec.ofInt IntKind.u32.bits (n:Int)=BitVec.ofNat 32 n:=BitVec.ofInt_natCast 32 n
theorem A61(n m:Nat)(d:n<4294967296)(c:m<4294967296):QP n m=((n &&& m:Nat):Int):=by
 unfold QP;rw[vS,vS];have e:(BitVec.ofNat 32 n &&& BitVec.ofNat 32 m).toNat=n &&& m:=by
  rw[BitVec.toNat_and,BitVec.toNat_ofNat,BitVec.toNat_ofNat,Nat.mod_eq_of_lt (by omega),Nat.mod_eq_of_lt (by omega)]
 have b:n &&& m<2 ^ 32:=Nat.and_lt_two_pow n (by omega);show IntKind.u32.wrap ((BitVec.ofNat 32 n &&& BitVec.ofNat 32 m).toNat:Int)=_;rw[e,eG _ (by omega)]
theorem dC(n m:Nat)(d:n<4294967296)(c:m<4294967296):L1 n m=((n ||| m:Nat):Int)/\n ||| m<4294967296:=by
 unfold L1;rw[vS,vS];have e:(BitVec.ofNat 32 n ||| BitVec.ofNat 32 m).toNat=n ||| m:=by
  rw[BitVec.toNat_or,BitVec.toNat_ofNat,BitVec.toNat_ofNat,Nat.mod_eq_of_lt (by omega),Nat.mod_eq_of_lt (by omega)]
 have b:n ||| m<2 ^ 32:=Nat.or_lt_two_pow (by omega) (by omega);refine⟨?_,by omega⟩;show IntKind.u32.wrap ((BitVec.ofNat 32 n ||| BitVec.ofNat 32 m).toNat:Int)=_;rw[e,eG _ (by omega)]
theorem A62(n:Nat)(c:n<4294967296):not32 n=((4294967295 ^^^ n:Nat):Int)/\4294967295 ^^^ n<4294967296:=by
 unfold not32;rw[vS,show IntKind.u32.max=((4294967295:Nat):Int) from rfl,vS];have e:(BitVec.ofNat 32 4294967295 ^^^ BitVec.ofNat 32 n).toNat=4294967295 ^^^ n:=by
  rw[BitVec.toNat_xor,BitVec.toNat_ofNat,BitVec.toNat_ofNat,Nat.mod_eq_of_lt (by omega),Nat.mod_eq_of_lt (by omega)]
 have b:4294967295 ^^^ n<2 ^ 32:=Nat.xor_lt_two_pow (by omega) (by omega);refine⟨?_,by omega⟩;show IntKind.u32.wrap ((BitVec.ofNat 32 4294967295 ^^^ BitVec.ofNat 32 n).toNat:Int)=_;rw[e,eG _ (by omega)]
theorem B47(c:Nat)(h:c<32):(4294967295:Nat).testBit c=true:=by
 have:(4294967295:Nat)=2 ^ 32-1:=rfl;rw[this,Nat.testBit_two_pow_sub_one];simpa using h
def FX(r:Row):Int:=if r.Lost then r.Marks else not32 r.Marks
def addOk(b:Bool)(a:Int)(r:Row):Bool:=decide (QP a (FX r)=0)&&(r.Lost||!b)
def mP(a:Bool)(r:Row):Bool:=if ended r.Text then a else a||!r.Lost
def mQ(a:Int)(r:Row):Int:=if ended r.Text then a else L1 a (FX r)
def T7:Bool->Int->List Row->Bool
 | _,_,[]=>true
 | res,par,r::rs=>K0 r.Text&&addOk res par r&&T7 (mP res r) (mQ par r) rs
theorem QQ(r:Row)(f:0<=r.Marks/\r.Marks<4294967296):∃m:Nat,m<4294967296/\FX r=m/\∀c,c<32->m.testBit c=y3 r c:=by
 obtain⟨k,b⟩:∃k:Nat,r.Marks=k:=⟨r.Marks.toNat,by omega⟩
 have e:∀c:Nat,c<32->y3 r c=(k.testBit c == r.Lost):=by
  intro c a;rw[y3,A6 (by omega),A6 (by omega),b,C31,aA]
 unfold FX;cases d:r.Lost
 ·have:=A62 k (by omega);refine⟨4294967295 ^^^ k,this.2,by rw[A6 (by simp),b];exact this.1,fun c a=>?_⟩;rw[e c a,d,Nat.testBit_xor,B47 c a];cases k.testBit c<;>rfl
 ·refine⟨k,by omega,by rw[A5 rfl];exact b,fun c a=>?_⟩;rw[e c a,d];cases k.testBit c<;>rfl
theorem jY(r:Row):y3 r (-1)=!r.Lost:=by rw[y3,A5 rfl]
def x3:Bool->List Str->Bool
 | _,[]=>true
 | b,s::r=>!b&&K0 s&&x3 (!ended s) r
theorem MJ(l:List Str):x3 true l=l.isEmpty:=by cases l<;>simp[x3]
theorem QR(l:List Str):mL l=x3 false l:=by
 induction l with
 | nil=>rfl
 | cons s r a =>
  rw[xQ,a,x3];cases b:ended s
  ·rw[show (!false)=true from rfl,MJ];cases r<;>simp[x3]
  ·simp
structure EndsAt (res:Bool) (par:Int) (bad:Int->Bool):Prop where
 res:res=bad (-1)
 par:∃p:Nat,p<4294967296/\par=p/\∀c:Nat,c<32->p.testBit c=bad c
theorem B48(n m:Nat)(d:m<4294967296):n &&& m=0↔∀c,c<32->m.testBit c=true->n.testBit c=false:=by
 constructor
 ·intro h c b a;have:(n &&& m).testBit c=false:=by rw[h];simp
  rw[Nat.testBit_and,a]at this;simpa using this
 ·intro h;refine Nat.eq_of_testBit_eq fun c=>?_;rw[Nat.testBit_and,Nat.zero_testBit];by_cases b:c<32
  ·cases a:m.testBit c
   ·simp
   ·rw[h c b a];rfl
  ·have:m.testBit c=false:=Nat.testBit_lt_two_pow (Nat.lt_of_lt_of_le (by omega:m<2 ^ 32) (Nat.pow_le_pow_right (by omega) (by omega)));rw[this];simp
theorem A63{e:Bool}{d:Int}{a:Int->Bool}(h:EndsAt e d a)(r:Row)(w:0<=r.Marks/\r.Marks<4294967296):addOk e d r=true↔∀c:Int,-1<=c->c<32->y3 r c=true->a c=false:=by
 obtain⟨m,n,t,hb⟩:=QQ r w;obtain⟨p,v,j,b⟩:=h.par;unfold addOk;rw[t,j,A61 p m v n,C30,decide_eq_true_iff,show (((p &&& m:Nat):Int)=0)↔p &&& m=0 by omega,B48 p m n];constructor
 ·rintro⟨f,o⟩ c q s l;by_cases g:c = -1
  ·subst g;rw[jY]at l;rw[<-h.res];simpa[show r.Lost=false by simpa using l] using o
  ·obtain⟨k,rfl⟩:∃k:Nat,c=k:=⟨c.toNat,by omega⟩
   rw[<-b k (by omega)];exact f k (by omega) (by rw[hb k (by omega)];exact l)
 ·intro f;refine⟨fun c g i=>?_,?_⟩
  ·rw[b c g];exact f c (by omega) (by omega) (by rw[<-hb c g];exact i)
  ·cases u:r.Lost
   ·have:=f (-1) (by omega) (by omega) (by rw[jY,u];rfl);rw[h.res,this];rfl
   ·rfl
theorem A64{f:Bool}{e:Int}{a:Int->Bool}(h:EndsAt f e a)(r:Row)(o:0<=r.Marks/\r.Marks<4294967296):EndsAt (mP f r) (mQ e r) (fun c=>a c||(y3 r c&&!ended r.Text)):=by
 obtain⟨m,n,k,hb⟩:=QQ r o;obtain⟨p,j,d,b⟩:=h.par;unfold mP mQ;cases l:ended r.Text
 ·have i:=dC p m j n;refine⟨?_,p ||| m,i.2,?_,fun c g=>?_⟩
  ·rw[A6 (by simp),h.res,jY];simp
  ·rw[A6 (by simp),k,d];exact i.1
  ·rw[Nat.testBit_or,b c g,hb c g];simp
 ·refine⟨?_,p,j,?_,fun c g=>?_⟩
  ·rw[A5 rfl,h.res];simp
  ·rw[A5 rfl];exact d
  ·rw[b c g];simp
theorem qV(r:Row)(a:List Row)(c:Int):L9 (r::a) c=if y3 r c then r.Text::L9 a c else L9 a c:=by
 unfold L9;cases b:y3 r c<;>simp[b]
theorem CI:∀(d:List Row) (j:Bool) (i:Int) (f:Int->Bool),EndsAt j i f->K1 d->(T7 j i d=true↔(∀r∈d,K0 r.Text=true)/\∀c:Int,-1<=c->c<32->x3 (f c) (L9 d c)=true)
 | [],j,i,f,_,_=>by simp[T7,L9,x3]
 | r :: rs,j,i,f,h,hr=>by
  have n:=hr r (by simp);have q:=CI rs _ _ _ (A64 h r n) (fun x k=>hr x (by simp[k]));rw[T7,C30,C30,A63 h r n,q];constructor
  ·rintro⟨⟨l,m⟩,e,p⟩;refine⟨fun x k=>?_,fun c a b=>?_⟩
   ·rcases C36.1 k with rfl | k
    ·exact l
    ·exact e x k
   ·have o:=p c a b;rw[qV];cases g:y3 r c
    ·rw[A6 (by simp)];simpa[g] using o
    ·rw[A5 rfl,x3,m c a b g,l];rw[m c a b g,g]at o;simpa using o
  ·rintro⟨l,m⟩;refine⟨⟨l r (by simp),fun c a b g=>?_⟩,fun x k=>l x (by simp[k]),fun c a b=>?_⟩
   ·have e:=m c a b;rw[qV,g,A5 rfl,x3]at e;simp only[C30,Bool.not_eq_true']at e;exact e.1.1
   ·have e:=m c a b;rw[qV]at e;cases g:y3 r c
    ·rw[g,A6 (by simp)]at e;simpa using e
    ·rw[g,A5 rfl,x3]at e;simp only[C30,Bool.not_eq_true']at e;rw[e.1.1];simpa using e.2
theorem ends0:EndsAt false 0 (fun _=>false):=⟨rfl,0,by omega,rfl,fun c _=>by simp⟩
theorem MK(m:Int)(n c:Nat)(f:0<=m)(h:m / 2 ^ n=0)(e:n<=c):Y4 m c=false:=by
 obtain⟨k,rfl⟩:∃k:Nat,m=k:=⟨m.toNat,by omega⟩
 rw[aA];have b:(k:Int) / 2 ^ n=((k / 2 ^ n:Nat):Int):=by simp
 rw[b]at h;have d:k / 2 ^ n=0:=by omega
 have a:k<2 ^ n:=by
  rcases Nat.div_eq_zero_iff.1 d with a | a
  ·have:=Nat.two_pow_pos n;omega
  ·exact a
 exact Nat.testBit_lt_two_pow (Nat.lt_of_lt_of_le a (Nat.pow_le_pow_right (by omega) e))
theorem ML(a:List Row)(n:Nat)(f:R0 a n=true)(g:K1 a)(c:Int)(h:(n:Int)<=c)(i:c<32):L9 a c=L9 a (-1):=by
 unfold L9;have:a.filter (y3 · c)=a.filter (y3 · (-1)):=by
  refine List.filter_congr fun r b=>?_;have d:U6 n r=true:=List.all_eq_true.1 f r b;unfold U6 at d;simp only[C30,beq_iff_eq]at d;have e:=MK r.Marks n c.toNat (g r b).1 d.1 (by omega);rw[jY,y3,A6 (by omega),A6 (by omega),e];cases r.Lost<;>rfl
 rw[this]
theorem CJ(b:List Row)(n:Nat)(q:n<=32)(l:R0 b n=true)(j:K1 b):T7 false 0 b=aX b n:=by
 rw[Bool.eq_iff_iff,CI b false 0 _ ends0 j,aX,C30,List.all_eq_true,List.all_eq_true];refine and_congr Iff.rfl ?_;constructor
 ·intro h k i;have i:=C40.1 i;rw[QR];exact h _ (by omega) (by omega)
 ·intro h c e f;have d:∀c:Int,-1<=c->c<n->x3 false (L9 b c)=true:=by
   intro c m p;have:=h (c+1).toNat (C40.2 (by omega))
   rw[show (((c+1).toNat:Nat):Int)-1=c by omega,QR]at this;exact this
  by_cases g:c<n
  ·exact d c e g
  ·rw[ML b n l j c (by omega) f];exact d (-1) (by omega) (by omega)
def K8(c:UInt8):Bool:=decide (33<=c.toNat/\c.toNat<=126/\c.toNat≠34/\c.toNat≠92)
def digs8:Str:=[48,49,50,51,52,53,54,55]
def digs10:Str:=[48,49,50,51,52,53,54,55,56,57]
def ID(c:UInt8):Str:=(digs8.drop (c.toNat / 64)).take 1++(digs8.drop (c.toNat / 8 % 8)).take 1++(digs8.drop (c.toNat % 8)).take 1
def X6(c:UInt8):Str:=if c.toNat=34\/c.toNat=92 then [92,c] else if c.toNat=10 then [92,110] else if c.toNat=9 then [92,116] else if c.toNat<32\/126<c.toNat then 92::ID c else [c]
def I5(s:Str):Str:=if s≠[]/\s.all K8=true then s else 34::((s.map X6).flatten++[34])
theorem A65(c:UInt8):(ID c).length<=3:=by unfold ID;simp only[C32,C41];omega
theorem IE(c:UInt8):(X6 c).length<=4:=by
 have:=A65 c;unfold X6;split
 ·simp
 ·split
  ·simp
  ·split
   ·simp
   ·split
    ·simp only[C34];omega
    ·simp
theorem tL(s:Str):((s.map X6).flatten).length<=4*s.length:=by
 induction s with
 | nil=>simp
 | cons c r b=>have:=IE c;simp only[C39,C56,C32,C34];omega
theorem xR(s:Str):(I5 s).length<=4*s.length+2:=by
 unfold I5;have:=tL s;split
 ·omega
 ·simp only[C34,C32,C43];omega
def J4(n:Int):Str:=if n<0\/2147483647<n then [] else Lib.itoa n
def J3(a n:Int):Str:=if a<0\/n<0\/2147483647<a\/2147483647-a<n then [] else if n=0 then J4 a++[44,48] else if n=1 then J4 (a+1) else J4 (a+1)++[44]++J4 n
theorem pT:∀(k u:Nat),u<10 ^ (k+1)->(Lib.decDigits u).length<=k+1
 | 0,u,h=>by rw[Lib.decDigits,dif_pos (by omega)];simp
 | k+1,u,h=>by
  rw[Lib.decDigits];split
  ·simp
  ·have:=pT k (u / 10) (by rw[Nat.div_lt_iff_lt_mul (by omega)];rw[Nat.pow_succ]at h;omega);simp only[C32,C34,C43];omega
theorem X7(n:Int):(J4 n).length<=10:=by
 unfold J4;split
 ·simp
 ·unfold Lib.itoa;rw[A6 (by omega)];exact pT 9 n.toNat (by omega)
theorem mR(a n:Int):(J3 a n).length<=21:=by
 have:=X7 a;have:=X7 (a+1);have:=X7 n;unfold J3;split
 ·simp
 ·split
  ·simp only[C32,C34,C43];omega
  ·split
   ·omega
   ·simp only[C32,C34,C43];omega
theorem dig10(k:Nat)(h:k<10):(digs10.drop k).take 1=[UInt8.ofNat (48+k)]:=by
 have:∀k:Fin 10,(digs10.drop k.1).take 1=[UInt8.ofNat (48+k.1)]:=by decide
 exact this ⟨k,h⟩
theorem A66(n:Int)(b:0<=n)(h:n<10):J4 n=(digs10.drop n.toNat).take 1:=by
 unfold J4 Lib.itoa;rw[A6 (by omega),A6 (by omega),dig10 _ (by omega),Lib.decDigits,dif_pos (by omega)]
theorem dig8(k:Nat)(h:k<8):(digs8.drop k).take 1=[UInt8.ofNat (48+k)]:=by
 have:∀k:Fin 8,(digs8.drop k.1).take 1=[UInt8.ofNat (48+k.1)]:=by decide
 exact this ⟨k,h⟩
theorem gA(c:UInt8):ID c=[UInt8.ofNat (48+c.toNat / 64),UInt8.ofNat (48+c.toNat / 8 % 8),UInt8.ofNat (48+c.toNat % 8)]:=by
 have:=c.toNat_lt;unfold ID;rw[dig8 _ (by omega),dig8 _ (by omega),dig8 _ (by omega)];rfl
def escs(s:Str)(i:Nat):Str:=((s.take i).map X6).flatten
theorem A67(s:Str)(i:Nat)(h:i<s.length):escs s (i+1)=escs s i++X6 s[i]:=by
 unfold escs;rw[C48 h,C50,C69];simp only[C39,C77,C56,C89,C60]
theorem B49(s:Str)(i:Nat)(h:i<=s.length):(escs s i).length<=4*i:=by
 have:=tL (s.take i);unfold escs;rw[C41]at this;omega
def plains(s:Str)(i:Nat):Bool:=decide (s≠[])&&(s.take i).all K8
theorem QS(s:Str):plains s 0=decide (s≠[]):=by simp[plains]
theorem QT(s:Str)(i:Nat)(h:i<s.length):plains s (i+1)=(plains s i&&K8 s[i]):=by
 unfold plains;rw[C48 h,C85];simp only[List.all_cons,List.all_nil,Bool.and_true,Bool.and_assoc]
theorem CL(s:Str):I5 s=if plains s s.length=true then s else (34::escs s s.length)++[34]:=by
 unfold I5 plains escs;rw[C44];simp only[C30,decide_eq_true_eq,C57]
structure File where
 Path:Str
 Blob:Str
 deriving DecidableEq
structure Delta where
 Path:Str
 Kind:Int
 deriving DecidableEq
structure Commit where
 Parents:List Int
 Date:Int
 Files:List File
 deriving DecidableEq
def v6:File->Nat->Cell:=fun f j=>match j with
 | 0=>.v (.string ⟨f.Path.toArray⟩)
 | _=>.v (.string ⟨f.Blob.toArray⟩)
def H8:Commit->Nat->Cell:=fun c j=>match j with
 | 0=>.list Int 1 E3 c.Parents
 | 1=>.v (.int .i64 c.Date)
 | _=>.list File 2 v6 c.Files
abbrev ZF(f:File):PV:=.agg [.v (.string ⟨f.Path.toArray⟩),.v (.string ⟨f.Blob.toArray⟩)]
abbrev tM(c:Commit):PV:=.agg [.list Int 1 E3 c.Parents,.v (.int .i64 c.Date),.list File 2 v6 c.Files]
abbrev fF(l:List File):PV:=.one (.list File 2 v6 l)
abbrev G9(l:List Commit):PV:=.one (.list Commit 3 H8 l)
theorem xS(a b:Bool):(if a=true then b else false)=(a&&b):=by cases a<;>rfl
theorem ifOr(a b:Bool):(if a=true then true else b)=(a||b):=by cases a<;>rfl
abbrev zA(a b:Str):Bool:=Op.bytesLess a b
theorem ZG(a:Str):zA a []=false:=by cases a<;>rfl
theorem tN(a b:UInt8)(x y:Str):zA (a::x) (b::y)=(decide (a<b)||(a == b&&zA x y)):=rfl
theorem qW:∀a:Str,zA a a=false
 | []=>rfl
 | c::r=>by
  rw[tN,qW r];have:¬c<c:=by rw[UInt8.lt_iff_toNat_lt];omega
  simp[this]
theorem vT:∀{a b c:Str},zA a b=true->zA b c=true->zA a c=true
 | _,[],_,h,_=>by rw[ZG]at h;cases h
 | _,_::_,[],_,h=>by rw[ZG]at h;cases h
 | [],_::_,_::_,_,_=>rfl
 | a::x,b::y,c::z,e,d=>by
  rw[tN,C64,C30,decide_eq_true_eq,UInt8.lt_iff_toNat_lt,beq_iff_eq]at e d;rw[tN,C64,C30,decide_eq_true_eq,UInt8.lt_iff_toNat_lt,beq_iff_eq];rcases e with e | ⟨rfl,e⟩
  ·rcases d with d | ⟨rfl,d⟩
   ·left;omega
   ·left;omega
  ·rcases d with d | ⟨rfl,d⟩
   ·left;omega
   ·right;exact⟨rfl,vT e d⟩
theorem A68{a b:Str}(h:zA a b=true):zA b a=false:=by
 cases c:zA b a
 ·rfl
 ·have:=vT h c;rw[qW]at this;cases this
theorem ZH:∀(a:Str) (c:UInt8) (t:Str),zA a (a++c::t)=true
 | [],_,_=>rfl
 | x::r,c,t=>by rw[C57,tN,ZH r c t];simp
def V3(s:Str):Bool:=decide (s≠[]/\s≠[46]/\s≠[46,46])
def K2(a:Str):Str->List Str
 | []=>[a]
 | c::r=>if c=47 then a::K2 [] r else K2 (a++[c]) r
def cpGo(a:Str):Str->Bool
 | []=>V3 a
 | c::r=>if c=0 then false else if c=47 then V3 a&&cpGo [] r else cpGo (a++[c]) r
def aB(p:Str):Int:=if p.length<1\/p.length>200\/cpGo [] p=false then 210 else 0
theorem qX:∀(s b:Str),cpGo b s=(!s.contains 0&&(K2 b s).all V3)
 | [],b=>by simp[cpGo,K2]
 | c::r,b=>by
  rw[cpGo,K2];by_cases d:c=0
  ·subst d;simp
  ·rw[A6 d];have f:(c::r).contains 0=r.contains 0:=by
    rw[List.contains_cons];have:((0:UInt8) == c)=false:=by simpa using fun e=>d e.symm
    rw[this,Bool.false_or]
   rw[f];split
   ·rw[qX r [],List.all_cons];cases V3 b<;>cases r.contains 0<;>rfl
   ·rw[qX r]
theorem MM(p:Str):aB p=if p.length>200\/p.contains 0=true then 210 else if (K2 [] p).all V3=true then 0 else 210:=by
 unfold aB;rw[qX];by_cases b:p.length>200
 ·rw[A5 (.inr (.inl b)),A5 (.inl b)]
 ·cases d:p.contains 0
  ·rw[A6 (show ¬(p.length>200\/false=true) by simp[b])];cases c:(K2 [] p).all V3
   ·simp
   ·have:¬p.length<1:=by
     intro h;have:p=[]:=List.length_eq_zero_iff.1 (by omega);subst this;simp[K2,V3]at c
    rw[A6 (fun h=>by
     rcases h with h | h | h
     ·exact this h
     ·exact b h
     ·cases h)];rfl
  ·rw[A5 (show p.length>200\/true=true from .inr rfl),A5 (.inr (.inr (by simp)))]
def above(a b:Str):Bool:=decide (b.length>a.length/\b.take a.length=a/\b[a.length]?=some 47)
theorem B50{a b:Str}(h:above a b=true):zA a b=true:=by
 obtain⟨c,f,d⟩:=A0 h;have e:b=a++47::b.drop (a.length+1):=by
  conv=>lhs;rw[<-C70 a.length b,f]
  rw[C38 c];rw[C29 c]at d;rw[Option.some.inj d]
 rw[e];exact ZH _ _ _
def t6:List File->Bool
 | []=>true
 | f::r=>r.all (fun x=>zA f.Path x.Path&&!above f.Path x.Path)&&t6 r
def K6(l:List File):Int:=if l.length>200 then 1 else if l.any (fun f=>decide (aB f.Path≠0))=true then 210 else if t6 l=false then 211 else if l.any (fun f=>decide (s9 f.Blob≠0))=true then 1 else 0
def T3(p:Str)(ps:List Str):Bool:=(List.range p.length).any fun i=>decide (p.take i∈ps)&&decide (p[i]?=some 47)
def ascend:List File->Bool
 | []=>true
 | [_]=>true
 | f::g::r=>zA f.Path g.Path&&ascend (g::r)
def dD(l:List File):Bool:=ascend l&&l.all fun f=>!T3 f.Path (l.map (·.Path))
theorem CM(p:Str)(ps:List Str):T3 p ps=true↔∃a∈ps,above a p=true:=by
 unfold T3;rw[List.any_eq_true];constructor
 ·rintro⟨i,k,h⟩;rw[C30,decide_eq_true_eq,decide_eq_true_eq]at h;have c:i<p.length:=C40.1 k;have b:(p.take i).length=i:=by rw[C41];omega
  exact⟨_,h.1,A3 ⟨by rw[b];exact c,by rw[b],by rw[b];exact h.2⟩⟩
 ·rintro⟨a,ha,h⟩;obtain⟨d,f,j⟩:=A0 h;exact⟨a.length,C40.2 d,by rw[C30,decide_eq_true_eq,decide_eq_true_eq,f];exact⟨ha,j⟩⟩
theorem gB:∀{f:File} {r:List File},ascend (f::r)=true->∀x∈r,zA f.Path x.Path=true
 | _,[],_,_,hx=>by cases hx
 | f,g::r,h,x,hx=>by
  unfold ascend at h;rw[C30]at h;rcases C36.1 hx with rfl | hx
  ·exact h.1
  ·exact vT h.1 (gB h.2 x hx)
theorem xT{f:File}{r:List File}(h:ascend (f::r)=true):ascend r=true:=by
 cases r with
 | nil=>rfl
 | cons g r=>unfold ascend at h;rw[C30]at h;exact h.2
theorem aZ:∀{l:List File},t6 l=true->ascend l=true
 | [],_=>rfl
 | [_],_=>rfl
 | f::g::r,h=>by
  unfold t6 at h;rw[C30,List.all_eq_true]at h;have a:=h.1 g (by simp);rw[C30]at a;unfold ascend;rw[a.1,aZ h.2];rfl
theorem pU:∀{l:List File},t6 l=true->∀x∈l,∀y∈l,above x.Path y.Path=false
 | [],_,x,hx,_,_=>by cases hx
 | f::r,h,x,hx,y,hy=>by
  have ha:=aZ h;unfold t6 at h;rw[C30,List.all_eq_true]at h;cases a:above x.Path y.Path
  ·rfl
  have b:=B50 a;rcases C36.1 hx with rfl | hx0
  ·rcases C36.1 hy with rfl | hy
   ·rw[qW]at b;cases b
   ·have:=h.1 y hy;rw[a,Bool.not_true,Bool.and_false]at this;cases this
  ·have c:=hx0;rcases C36.1 hy with d | hy2
   ·have:=gB ha x c;rw[<-d,A68 b]at this;cases this
   ·rw[pU h.2 x c y hy2]at a;cases a
theorem qY:∀{l:List File},ascend l=true->(∀x∈l,∀y∈l,above x.Path y.Path=false)->t6 l=true
 | [],_,_=>rfl
 | f::r,h,ha=>by
  unfold t6;rw[C30,List.all_eq_true];refine⟨fun x a=>?_,qY (xT h) fun x a y b=>ha x (by simp[a]) y (by simp[b])⟩;rw[gB h x a,ha f (by simp) x (by simp[a])];rfl
theorem WK(l:List File):dD l=t6 l:=by
 cases h:t6 l
 ·cases c:dD l
  ·rfl
  unfold dD at c;rw[C30,List.all_eq_true]at c;have:t6 l=true:=qY c.1 fun x d y e=>by
   cases b:above x.Path y.Path
   ·rfl
   have f:=c.2 y e;rw[(CM _ _).2 ⟨x.Path,List.mem_map_of_mem d,b⟩]at f;cases f
  rw[this]at h;cases h
 ·unfold dD;rw[C30,List.all_eq_true];refine⟨aZ h,fun y e=>?_⟩;cases g:T3 y.Path (l.map (·.Path))
  ·rfl
  obtain⟨a,ha,b⟩:=(CM _ _).1 g;obtain⟨x,d,rfl⟩:=C54.1 ha;rw[pU h x d y e]at b;cases b
def U8:List File->Str->Option Str
 | [],_=>none
 | f::r,p=>if f.Path=p then some f.Blob else U8 r p
abbrev AscS(l:List Str):Prop:=l.Pairwise fun x y=>zA x y=true
theorem CN:∀{l:List File} {p x:Str},U8 l p=some x->∃f∈l,f.Path=p/\f.Blob=x
 | [],_,_,h=>by cases h
 | f::r,p,x,h=>by
  unfold U8 at h;split at h
  ·rename_i e;exact⟨f,by simp,e,Option.some.inj h⟩
  ·obtain⟨g,b,a⟩:=CN h;exact⟨g,by simp[b],a⟩
theorem WL{p:Str}:∀{l:List File},U8 l p=none↔p∉l.map (·.Path)
 | []=>by simp[U8]
 | f::r=>by
  unfold U8;split
  ·rename_i e;simp[e]
  ·rename_i e;rw[WL (l:=r),C39,C36,not_or];exact⟨fun h=>⟨fun b=>e b.symm,h⟩,fun h=>h.2⟩
theorem FY{l:List File}(h:K6 l=0):ascend l=true/\l.length<=200/\(∀f∈l,s9 f.Blob=0)/\∀f∈l,aB f.Path=0:=by
 unfold K6 at h;split at h
 ·cases h
 ·rename_i g;split at h
  ·cases h
  ·rename_i b;split at h
   ·cases h
   ·rename_i c;split at h
    ·cases h
    ·rename_i d;refine⟨aZ (by simpa using c),by omega,fun f a=>?_,fun f a=>?_⟩
     ·have:=fun e=>d (List.any_eq_true.2 ⟨f,a,e⟩);simpa using this
     ·have:=fun e=>b (List.any_eq_true.2 ⟨f,a,e⟩);simpa using this
def O5(a:Str):Str->List Str
 | []=>[a]
 | c::r=>if c=10 then (a++[c])::O5 [] r else O5 (a++[c]) r
def T8(b:Str):List Str:=O5 [] b
theorem FZ(a b:Str)(h:(10:UInt8)∉a):O5 b a=[b++a]:=by
 induction a generalizing b with
 | nil=>simp[O5]
 | cons c r d =>
  simp only[C36,not_or]at h;rw[O5,A6 (fun e=>h.1 e.symm),d _ h.2];simp
theorem MN(a b d:Str)(h:(10:UInt8)∉a):O5 d (a++10::b)=(d++a++[10])::O5 [] b:=by
 induction a generalizing d with
 | nil=>simp[O5]
 | cons c r f =>
  simp only[C36,not_or]at h;rw[C57,O5,A6 (fun e=>h.1 e.symm),f _ h.2];simp
theorem n9(s a:Str):(O5 a s).length=s.count 10+1:=by
 induction s generalizing a with
 | nil=>rfl
 | cons c r d =>
  by_cases b:c=10
  ·subst b;rw[O5,A5 rfl,C34,d,List.count_cons_self]
  ·rw[O5,A6 b,d,List.count_cons_of_ne b]
theorem QU(s b:Str):G3 b s=if (O5 b s).getLastD []=[] then (O5 b s).dropLast else O5 b s:=by
 induction s generalizing b with
 | nil=>by_cases h:b=[]<;>simp[G3,O5,h]
 | cons c r j =>
  rw[G3,O5];by_cases f:c=10
  ·rw[A5 f,A5 f,j];have l:O5 [] r≠[]:=fun e=>by have:=n9 r [];rw[e]at this;simp at this
   obtain⟨x,y,i⟩:=List.exists_cons_of_ne_nil l;rw[i];have k:((b++[c])::x::y).getLastD []=(x::y).getLastD []:=by cases y<;>simp[List.getLastD]
   rw[k];split
   ·rfl
   ·rfl
  ·rw[A6 f,A6 f,j]
theorem CO(s a:Str):(G3 a s).length=s.count 10+if s=[] then (if a=[] then 0 else 1) else if ended s=true then 0 else 1:=by
 induction s generalizing a with
 | nil=>by_cases h:a=[]<;>simp[G3,h]
 | cons c r i =>
  have j:ended (c::r)=if r=[] then c == 10 else ended r:=by
   cases r with
   | nil=>simp[ended]
   | cons d t=>simp[ended,List.getLast?_cons_cons]
  rw[G3,A6 (List.cons_ne_nil _ _),j];by_cases b:c=10
  ·subst b;rw[A5 rfl,C34,i,List.count_cons_self];by_cases f:r=[]<;>simp[f];omega
  ·rw[A6 b,i,List.count_cons_of_ne b];by_cases f:r=[]<;>simp[f,b]
theorem X0(s:Str):(B6 s).length=s.count 10+if s≠[]/\ended s=false then 1 else 0:=by
 unfold B6;rw[CO];by_cases hs:s=[]<;>simp[hs];cases ended s<;>simp
theorem WM{P:List Str}{i:Nat}{r a b:Str}(h:P.drop i=T8 r)(c:r=a++10::b)(ha:(10:UInt8)∉a):P[i]?=some (a++[10])/\P.drop (i+1)=T8 b:=by
 have e:T8 r=(a++[10])::T8 b:=by rw[c];unfold T8;rw[MN _ _ _ ha];rfl
 rw[e]at h;refine⟨by rw[<-List.head?_drop,h];rfl,?_⟩;rw[<-List.tail_drop,h];rfl
theorem eN{α:Type}(P:List α)(z x:α)(i:Nat)(h:P[i]?=some x):(P.take i++List.replicate (P.length-i) z).set i x=P.take (i+1)++List.replicate (P.length-(i+1)) z:=by
 obtain⟨a,c⟩:=List.getElem?_eq_some_iff.1 h;have b:(P.take i).length=i:=by rw[C41];omega
 rw[List.set_append_right _ _ (by omega),b,C86,show P.length-i=(P.length-(i+1))+1 by omega,List.replicate_succ,List.set_cons_zero,C48 a,c,C42];rfl
def X4(b:Str):List Str×Int:=if b.length>1048576\/(B6 b).length>4096 then ([],1) else (B6 b,0)
def N1(n:Int):Prop:=0<=n/\n<=4096
instance (n:Int):Decidable (N1 n):=by unfold N1;exact inferInstance
def MO(k:Nat)(i j:Int)(c:Change):Prop:=((((((¬N1 c.Old\/¬N1 c.OldLen)\/¬N1 c.New)\/¬N1 c.NewLen)\/c.OldLen+c.NewLen=0)\/c.Old-i≠c.New-j)\/c.Old<i)\/(0<(k:Int)/\c.Old=i)
instance (k:Nat) (i j:Int) (c:Change):Decidable (MO k i j c):=by unfold MO;exact inferInstance
def L5(k:Nat)(i j:Int):List Change->Int->Int->Bool
 | [],m,n=>decide (¬(m-i≠n-j\/m<i))
 | c::r,m,n=>decide (¬MO k i j c)&&L5 (k+1) (c.Old+c.OldLen) (c.New+c.NewLen) r m n
def check8(l:List Change)(m n:Int):Int:=if ¬N1 m\/¬N1 n then 80 else if L5 0 0 0 l m n=true then 0 else 80
def ScOk(i j:Int):List Change->Int->Int->Prop
 | [],m,n=>i<=m/\j<=n
 | c::r,m,n=>N1 c.Old/\N1 c.OldLen/\N1 c.New/\N1 c.NewLen/\i<=c.Old/\j<=c.New/\ScOk (c.Old+c.OldLen) (c.New+c.NewLen) r m n
theorem gC:∀(l:List Change) (k:Nat) (i j m n:Int),L5 k i j l m n=true->ScOk i j l m n
 | [],k,i,j,m,n,h=>by simp only[L5,decide_eq_true_eq]at h;simp only[ScOk];omega
 | c::r,k,i,j,m,n,h=>by
  simp only[L5,C30,decide_eq_true_eq]at h;obtain⟨a,d⟩:=h;unfold MO at a;refine⟨?_,?_,?_,?_,?_,?_,gC r _ _ _ m n d⟩
  all_goals (by_cases b:N1 c.Old<;>by_cases a2:N1 c.OldLen<;>by_cases a3:N1 c.New<;>by_cases a4:N1 c.NewLen<;>simp[b,a2,a3,a4]at a ⊢<;>omega)
def K3(l:List Change)(k:Nat):Change:=l.getD k ⟨0,0,0,0⟩
theorem ScOk.end_le:∀{l:List Change} {i j m n:Int},ScOk i j l m n->i<=m/\j<=n
 | [],_,_,_,_,h=>h
 | c::r,i,j,m,n,⟨h1,h2,h3,h4,h5,h6,h7⟩=>by have:=h7.end_le;unfold N1 at *;omega
theorem ScOk.get:∀{l:List Change} {i j m n:Int} (k:Nat),ScOk i j l m n->k<l.length->N1 (K3 l k).Old/\N1 (K3 l k).OldLen/\N1 (K3 l k).New/\N1 (K3 l k).NewLen/\(K3 l k).Old+(K3 l k).OldLen<=m/\(K3 l k).New+(K3 l k).NewLen<=n
 | c::r,i,j,m,n,0,⟨h1,h2,h3,h4,h5,h6,h7⟩,_=>by have:=h7.end_le;exact⟨h1,h2,h3,h4,this.1,this.2⟩
 | c::r,i,j,m,n,k+1,⟨h1,h2,h3,h4,h5,h6,h7⟩,hk=>by
  have:=h7.get k (by simpa using hk);simpa[K3] using this
theorem ScOk.next:∀{l:List Change} {i j m n:Int} (k:Nat),ScOk i j l m n->k+1<l.length->(K3 l k).Old+(K3 l k).OldLen<=(K3 l (k+1)).Old
 | [c],_,_,_,_,_,_,hk=>by simp at hk
 | c::c2::r,i,j,m,n,0,⟨_,_,_,_,_,_,h7⟩,_=>by simpa[K3] using h7.2.2.2.2.1
 | c::c2::r,i,j,m,n,k+1,⟨_,_,_,_,_,_,h7⟩,hk=>by
  have:=h7.next k (by simpa using hk);simpa[K3] using this
theorem ScOk.mono{l:List Change}{m n:Int}(h:ScOk 0 0 l m n):∀(a b:Nat),a<=b->b<l.length->(K3 l a).Old<=(K3 l b).Old/\(K3 l a).Old+(K3 l a).OldLen<=(K3 l b).Old+(K3 l b).OldLen
 | a,0,h1,h2=>by rw[show a=0 by omega];omega
 | a,b+1,h1,h2=>by
  by_cases c:a=b+1
  ·subst c;omega
  ·have f:=h.mono a b (by omega) (by omega);have g:=h.next b h2;have i:=h.get b (by omega);have j:=h.get (b+1) h2;unfold N1 at *;omega
def MP(a b:Int):Int:=if b<a then b else a
def opens(l:List Change)(a:Int)(k:Nat):Prop:=k=0\/2*a<(K3 l k).Old-(K3 l (k-1)).Old-(K3 l (k-1)).OldLen
instance (l:List Change) (ctx:Int) (k:Nat):Decidable (opens l ctx k):=by unfold opens;exact inferInstance
def ZI:Hunk:=⟨0,0,⟨0,0⟩,⟨0,0⟩⟩
def iQ(l:List Change)(a:Int)(k:Nat):Hunk:=⟨k,0,⟨(K3 l k).Old-MP a (K3 l k).Old,0⟩,⟨(K3 l k).New-MP a (K3 l k).Old,0⟩⟩
def tO(l:List Change)(m b:Int)(k:Nat)(h:Hunk):Hunk :=
 let c:=K3 l k;let a:=MP b (m-(c.Old+c.OldLen))
 ⟨h.First,k+1,⟨h.Old.From,c.Old+c.OldLen+a⟩,⟨h.New.From,c.New+c.NewLen+a⟩⟩
def vU(l:List Change)(a:Int)(k:Nat)(b:List Hunk):List Hunk:=if opens l a k then b++[iQ l a k] else b
def j6(l:List Change)(m b:Int):Nat->List Hunk
 | 0=>[]
 | k+1=>let a:=vU l b k (j6 l m b k);a.set (a.length-1) (tO l m b k (a.getD (a.length-1) ZI))
theorem xU(l:List Change)(m a:Int):∀k,(j6 l m a k).length<=k/\(0<k->0<(j6 l m a k).length)
 | 0=>by simp[j6]
 | k+1=>by
  have h:=xU l m a k;simp only[j6,C73,vU];split
  ·simp only[C32,C34,C43];omega
  ·rename_i b;have:k≠0:=fun e=>b (.inl e);omega
def i7(s:Str):Bool:=decide (1<=s.length/\s.length<=200)
def G4(b:List PatchLine)(k:UInt8):List Str:=(b.filter (fun x=>decide (x.Kind≠k))).map (·.Text)
def badLn(x:PatchLine):Prop:=((x.Kind≠32/\x.Kind≠45)/\x.Kind≠43)\/K0 x.Text=false
instance (x:PatchLine):Decidable (badLn x):=by unfold badLn;exact inferInstance
def qZ(x:PatchLine):Bool:=decide (¬badLn x)
def hJ(a:List PatchLine):Bool:=a.any (fun x=>decide (x.Kind≠32))
def tP(some:Bool)(i j:Int)(h:PatchHunk):Prop:=((((some=false\/h.Old<i)\/h.New<j)\/4096<h.Old)\/4096<h.New)\/h.Old-i≠h.New-j
instance (s:Bool) (i j:Int) (h:PatchHunk):Decidable (tP s i j h):=by unfold tP;exact inferInstance
def iR(h:PatchHunk):Int:=(G4 h.Lines 43).length
def iT(h:PatchHunk):Int:=(G4 h.Lines 45).length
def vV(i j:Int):List PatchHunk->Bool
 | []=>true
 | h::r=>h.Lines.all qZ&&(decide (¬tP (hJ h.Lines) i j h)&&(decide (¬(4096<h.Old+iR h\/4096<h.New+iT h))&&vV (h.Old+iR h) (h.New+iT h) r))
def N7(hs:List PatchHunk)(k:UInt8):List Str:=(hs.map (fun h=>G4 h.Lines k)).flatten
def R7:List Str->Bool
 | []=>true
 | x::r=>(r.isEmpty||ended x)&&R7 r
def WN(hs:List PatchHunk)(k:UInt8):Bool:=R7 (N7 hs k)
def vW(hs:List PatchHunk):Bool:=vV 0 0 hs&&(WN hs 43&&WN hs 45)
def markS:Str:=[10,92,32,78,111,32,110,101,119,108,105,110,101,32,97,116,32,101,110,100,32,111,102,32,102,105,108,101,10]
def linePs(x:PatchLine):List Str:=if ended x.Text then [[x.Kind]++x.Text] else [[x.Kind]++x.Text,markS]
def headW(h:PatchHunk):Str:=[64,64,32,45]++J3 h.Old (iR h)++[32,43]++J3 h.New (iT h)++[32,64,64,10]
def hunkPs(h:PatchHunk):List Str:=headW h::(h.Lines.map linePs).flatten
def namePs(p:Patch):List Str:=[[45,45,45,32]++I5 p.OldName++[10],[43,43,43,32]++I5 p.NewName++[10]]
def writePs(p:Patch):List Str:=namePs p++(p.Hunks.map hunkPs).flatten
def ZJ(p:Patch):Str:=(writePs p).flatten
def tQ(p:Patch):Int:=if i7 p.OldName=false\/i7 p.NewName=false then 120 else if vW p.Hunks=false then 121 else if 16777216<(ZJ p).length then 1 else 0
def szL(x:PatchLine):Nat:=x.Text.length+64
def szH(h:PatchHunk):Nat:=64+(h.Lines.map szL).sum
def szP(hs:List PatchHunk):Nat:=(hs.map szH).sum
structure PFit (p:Patch):Prop where
 old:p.OldName.length<=4194304
 new:p.NewName.length<=4194304
 hunks:szP p.Hunks<=268435456
theorem szL_len(a:List PatchLine):64*a.length<=(a.map szL).sum:=by
 induction a with
 | nil=>simp
 | cons x r b=>simp only[C39,C67,C34,szL];omega
def gE(k:UInt8)(a:List Str):List PatchLine:=a.map fun t=>⟨k,t⟩
def sub(x:List Str)(a b:Int):List Str:=(x.drop a.toNat).take (b.toNat-a.toNat)
def lF(c:Change):Int:=c.Old+c.OldLen
def gF(l:List Change)(i0:Int)(a t:Nat):Int:=if t=0 then i0 else lF (K3 l (a+t-1))
theorem WO(l:List Change)(i0:Int)(a t:Nat):gF l i0 a (t+1)=lF (K3 l (a+t)):=by
 unfold gF;rw[A6 (by omega)];congr 2
def dO(l:List Change)(x y:List Str)(i0:Int)(a:Nat):Nat->List PatchLine
 | 0=>[]
 | t+1=>dO l x y i0 a t++gE 32 (sub x (gF l i0 a t) (K3 l (a+t)).Old)++gE 45 (sub x (K3 l (a+t)).Old (lF (K3 l (a+t))))++gE 43 (sub y (K3 l (a+t)).New ((K3 l (a+t)).New+(K3 l (a+t)).NewLen))
def j7(l:List Change)(x y:List Str)(h:Hunk):PatchHunk :=
 ⟨h.Old.From,h.New.From,dO l x y h.Old.From h.First.toNat (h.Last.toNat-h.First.toNat)++gE 32 (sub x (gF l h.Old.From h.First.toNat (h.Last.toNat-h.First.toNat)) h.Old.To)⟩
def QV(i j:Int)(h:PatchHunk):Prop:=((((h.Old<0\/h.New<0)\/4096<h.Old)\/4096<h.New)\/h.Old<i)\/h.Old-i≠h.New-j
instance (i j:Int) (h:PatchHunk):Decidable (QV i j h):=by unfold QV;exact inferInstance
theorem textsLen_le(a:List Row)(B:Nat)(h:∀r∈a,r.Text.length<=B):U7 a<=a.length*B:=by
 unfold U7;induction a with
 | nil=>simp
 | cons r f c =>
  have d:=c fun x b=>h x (by simp[b]);have e:=h r (by simp);simp only[C39,C56,C32,C34,C62,Nat.one_mul];omega
theorem QW(b s:Str)(h:s∈B6 b):s.length<=b.length:=by
 have j:(B6 b).flatten=b:=by
  have i:∀(s d:Str),(G3 d s).flatten=d++s:=by
   intro s;induction s with
   | nil=>intro d;unfold G3;split<;>simp[*]
   | cons c r g=>intro d;unfold G3;split<;>simp[g]
  exact i b []
 have k:∀(l:List Str),s∈l->s.length<=l.flatten.length:=by
  intro l;induction l with
  | nil=>intro h;cases h
  | cons x r g =>
   intro h;rcases C36.1 h with rfl | h
   ·simp
   ·have:=g h;simp only[C56,C32];omega
 have:=k _ h;rw[j]at this;exact this
theorem zN{x:List Str}{a b:Int}{s:Str}(h:s∈sub x a b):s∈x:=by
 unfold sub at h;exact List.mem_of_mem_drop (List.mem_of_mem_take h)
def MQ(c:Change):Int:=c.New+c.NewLen
def eH(i:Int)(l:List Change)(k:Nat):Int:=if k=0 then i else lF (K3 l (k-1))
def lG(j:Int)(l:List Change)(k:Nat):Int:=if k=0 then j else MQ (K3 l (k-1))
theorem dE(i:Int)(c:Change)(r:List Change)(k:Nat):eH i (c::r) (k+1)=eH (lF c) r k:=by
 cases k<;>rfl
theorem dF(j:Int)(c:Change)(r:List Change)(k:Nat):lG j (c::r) (k+1)=lG (MQ c) r k:=by
 cases k<;>rfl
theorem mS(i:Int)(l:List Change)(k:Nat):eH i l (k+1)=lF (K3 l k):=rfl
theorem mT(j:Int)(l:List Change)(k:Nat):lG j l (k+1)=MQ (K3 l k):=rfl
theorem tR(c:Change)(r:List Change)(k:Nat):K3 (c::r) (k+1)=K3 r k:=rfl
def vX(x y:List Str)(i j:Int):List Change->Prop
 | []=>sub x i x.length=sub y j y.length
 | c::r=>sub x i c.Old=sub y j c.New/\vX x y (lF c) (MQ c) r
theorem dP(m n:Int):∀(l:List Change) (b:Nat) (i j:Int),L5 b i j l m n=true->∀k,k<l.length ->
  N1 (K3 l k).Old/\N1 (K3 l k).OldLen/\N1 (K3 l k).New/\N1 (K3 l k).NewLen/\(K3 l k).OldLen+(K3 l k).NewLen≠0/\(K3 l k).Old-eH i l k=(K3 l k).New-lG j l k/\eH i l k<=(K3 l k).Old/\(0<b+k->eH i l k<(K3 l k).Old)
 | [],_,_,_,_,k,hk=>by simp at hk
 | c :: r,b,i,j,h,k,hk=>by
  simp only[L5,C30,decide_eq_true_eq]at h;obtain⟨a,C⟩:=h;cases k with
  | zero =>
   unfold MO at a;show N1 c.Old/\N1 c.OldLen/\N1 c.New/\N1 c.NewLen/\c.OldLen+c.NewLen≠0/\c.Old-i=c.New-j/\i<=c.Old/\(0<b+0->i<c.Old)
   have f:N1 c.Old:=by by_cases q:N1 c.Old;exact q;exact absurd (.inl (.inl (.inl (.inl (.inl (.inl (.inl q))))))) a
   have g:N1 c.OldLen:=by by_cases q:N1 c.OldLen;exact q;exact absurd (.inl (.inl (.inl (.inl (.inl (.inl (.inr q))))))) a
   have o:N1 c.New:=by by_cases q:N1 c.New;exact q;exact absurd (.inl (.inl (.inl (.inl (.inl (.inr q)))))) a
   have p:N1 c.NewLen:=by by_cases q:N1 c.NewLen;exact q;exact absurd (.inl (.inl (.inl (.inl (.inr q))))) a
   refine⟨f,g,o,p,fun q=>a (.inl (.inl (.inl (.inr q)))),?_,?_,fun B=>?_⟩
   ·by_cases q:c.Old-i=c.New-j
    ·exact q
    ·exact absurd (.inl (.inl (.inr q))) a
   ·by_cases q:c.Old<i
    ·exact absurd (.inl (.inr q)) a
    ·omega
   ·by_cases q:c.Old<i
    ·exact absurd (.inl (.inr q)) a
    ·by_cases D:c.Old=i
     ·exact absurd (.inr ⟨by omega,D⟩) a
     ·omega
  | succ k =>
   have:=dP m n r (b+1) _ _ C k (by simpa using hk);rw[tR,dE,dF];obtain⟨s,t,u,v,x,y,z,A⟩:=this;exact⟨s,t,u,v,x,y,z,fun B=>A (by omega)⟩
theorem MR(m n:Int):∀(l:List Change) (a:Nat) (i j:Int),L5 a i j l m n=true->m-eH i l l.length=n-lG j l l.length/\eH i l l.length<=m
 | [],_,i,j,h=>by
  simp only[L5,decide_eq_true_eq]at h;show m-i=n-j/\i<=m;omega
 | c::r,a,i,j,h=>by
  simp only[L5,C30,decide_eq_true_eq]at h;rw[C34,dE,dF];exact MR m n r _ _ _ h.2
theorem CP(x y:List Str):∀(l:List Change) (i j:Int),vX x y i j l->∀k,k<l.length->sub x (eH i l k) (K3 l k).Old=sub y (lG j l k) (K3 l k).New
 | [],_,_,_,k,hk=>by simp at hk
 | c::r,i,j,h,k,hk=>by
  cases k with
  | zero=>exact h.1
  | succ k=>rw[dE,dF,tR];exact CP x y r _ _ h.2 k (by simpa using hk)
theorem MS(x y:List Str):∀(l:List Change) (i j:Int),vX x y i j l->sub x (eH i l l.length) x.length=sub y (lG j l l.length) y.length
 | [],_,_,h=>h
 | c::r,i,j,h=>by rw[C34,dE,dF];exact MS x y r _ _ h.2
def IF(l:List Change)(m c:Int)(a b:Nat):Hunk:=tO l m c (b-1) (iQ l c a)
def GrOk(l:List Change)(m c:Int):Nat->List Hunk->Nat->Prop
 | a,[],k=>a=k
 | a,h::r,k=>∃b,a<b/\opens l c a/\h=IF l m c a b/\GrOk l m c b r k
theorem GrOk.le{l:List Change}{m c:Int}:∀{hs:List Hunk} {a k:Nat},GrOk l m c a hs k->a<=k
 | [],a,k,h=>Nat.le_of_eq h
 | _::_,a,k,⟨b,h1,_,_,h2⟩=>by have:=GrOk.le h2;omega
theorem GrOk.snoc{l:List Change}{m c:Int}{k:Nat}(d:opens l c k):∀{hs:List Hunk} {a:Nat},GrOk l m c a hs k->GrOk l m c a (hs++[IF l m c k (k+1)]) (k+1)
 | [],a,h=>by
  obtain rfl:a=k:=h;exact⟨a+1,by omega,d,rfl,rfl⟩
 | _::_,a,⟨b,h1,h2,h3,h4⟩=>⟨b,h1,h2,h3,GrOk.snoc d h4⟩
theorem GrOk.last{l:List Change}{m c:Int}{k:Nat}:∀{hs:List Hunk} {a:Nat},GrOk l m c a hs k->hs≠[]->GrOk l m c a (hs.set (hs.length-1) (tO l m c k (hs.getD (hs.length-1) ZI))) (k+1)
 | [],_,_,h0=>absurd rfl h0
 | [h],a,⟨b,h1,h2,h3,h4⟩,_=>by
  obtain rfl:b=k:=h4;subst h3;exact⟨b+1,by omega,h2,rfl,rfl⟩
 | h::h'::r,a,⟨b,h1,h2,h3,h4⟩,_=>by
  have d:=GrOk.last h4 (by simp);refine⟨b,h1,h2,h3,?_⟩;simpa using d
theorem jZ(l:List Change)(m a:Int):∀k,GrOk l m a 0 (j6 l m a k) k
 | 0=>rfl
 | k+1=>by
  have d:=jZ l m a k;have c:=(xU l m a k).2;simp only[j6,vU];by_cases b:opens l a k
  ·rw[A5 b];have e:(j6 l m a k++[iQ l a k]).set ((j6 l m a k++[iQ l a k]).length-1) (tO l m a k ((j6 l m a k++[iQ l a k]).getD ((j6 l m a k++[iQ l a k]).length-1) ZI))=j6 l m a k++[IF l m a k (k+1)]:=by
    simp[IF]
   rw[e];exact d.snoc b
  ·rw[A6 b];refine d.last ?_;have:k≠0:=fun e=>b (.inl e);have:=c (by omega);intro e;rw[e]at this;simp at this
theorem kA(x:List Str){a b c:Int}(f:0<=a)(g:a<=b)(h:b<=c):sub x a b++sub x b c=sub x a c:=by
 unfold sub;obtain⟨u,rfl⟩:∃u:Nat,(u:Int)=a:=⟨a.toNat,by omega⟩
 obtain⟨v,rfl⟩:∃v:Nat,(v:Int)=b:=⟨b.toNat,by omega⟩
 obtain⟨w,rfl⟩:∃w:Nat,(w:Int)=c:=⟨c.toNat,by omega⟩
 simp only[C31];have e:x.drop v=(x.drop u).drop (v-u):=by rw[List.drop_drop];congr 1;omega
 rw[e,show w-u=(v-u)+(w-v) by omega,List.take_add]
theorem ZK(x:List Str)(a:Int):sub x a a=[]:=by simp[sub]
theorem kB(x:List Str){a b:Int}(c:0<=a)(d:a<=b)(f:b<=x.length):((sub x a b).length:Int)=b-a:=by
 unfold sub;rw[C41,C45];omega
theorem mU{x y:List Str}{p q g f e:Int}(h:sub x p q=sub y g f)(j:0<=p)(i:0<=g)(m:0<=e)(k:e<=q-p)(l:q-p=f-g):sub x (q-e) q=sub y (f-e) f:=by
 have c:∀(z:List Str) (a b:Int),0<=a->e<=b-a->sub z (b-e) b=(sub z a b).drop (b-a-e).toNat:=by
  intro z a b ha hb;unfold sub;rw[List.drop_take,List.drop_drop]
  congr 1
  ·omega
  ·congr 1;omega
 rw[c x p q j k,c y g f i (by omega),h,l]
theorem CQ{x y:List Str}{p q c g e:Int}(h:sub x p q=sub y c g)(i:0<=p)(f:0<=c)(m:0<=e)(j:e<=q-p)(l:q-p=g-c):sub x p (p+e)=sub y c (c+e):=by
 have d:∀(z:List Str) (a b:Int),0<=a->e<=b-a->sub z a (a+e)=(sub z a b).take e.toNat:=by
  intro z a b ha hb;unfold sub;rw[List.take_take]
  congr 1
  omega
 rw[d x p q i j,d y c g f (by omega),h]
theorem kC(p q:List PatchLine)(k:UInt8):G4 (p++q) k=G4 p k++G4 q k:=by simp[G4]
theorem kD(k a:UInt8)(b:List Str):G4 (gE k b) a=if k=a then [] else b:=by
 unfold G4 gE;by_cases h:k=a
 ·rw[A5 h];subst h;simp[List.filter_eq_nil_iff]
 ·rw[A6 h];rw[List.filter_eq_self.2 (by simp[h])];simp[Function.comp_def]
structure ScFit (x y:List Str) (l:List Change):Prop where
 lx:(x.length:Int)<=4096
 ly:(y.length:Int)<=4096
 sc:L5 0 0 0 l x.length y.length=true
 eq:vX x y 0 0 l
variable {x y:List Str}{l:List Change}
theorem ScFit.ok(h:ScFit x y l):ScOk 0 0 l x.length y.length:=gC _ _ _ _ _ _ h.sc
theorem ScFit.check(h:ScFit x y l):check8 l x.length y.length=0:=by
 have a:=h.lx;have b:=h.ly;unfold check8;rw[A6 (by unfold N1;omega),A5 h.sc]
theorem ScFit.nn(h:ScFit x y l)(k:Nat)(m:k<=l.length):0<=eH 0 l k/\0<=lG 0 l k/\eH 0 l k<=x.length/\lG 0 l k<=y.length:=by
 cases k with
 | zero=>exact⟨Int.le_refl _,Int.le_refl _,Int.natCast_nonneg _,Int.natCast_nonneg _⟩
 | succ k =>
  obtain⟨⟨a,a2⟩,⟨b,c⟩,⟨d,e⟩,⟨f,g⟩,i,j⟩:=h.ok.get k (by omega);rw[mS,mT];unfold lF MQ;omega
def eA(l:List Change)(b:Int)(a:Nat):Int:=MP b (K3 l a).Old
def eB(l:List Change)(m a:Int)(b:Nat):Int:=MP a (m-eH 0 l b)
theorem ZL{a b:Int}(h:0<=a)(c:0<=b):0<=MP a b/\MP a b<=a/\MP a b<=b:=by unfold MP;split<;>omega
theorem oB{b:Int}{a:Nat}(c:opens l b a)(ha:a≠0):2*b<(K3 l a).Old-eH 0 l a:=by
 rcases c with h | h
 ·exact absurd h ha
 ·unfold eH;rw[A6 ha];unfold lF;omega
theorem ScFit.before(h:ScFit x y l){b:Int}(f:0<=b){a:Nat}(ha:a<l.length)(g:opens l b a) :
  0<=eA l b a/\eA l b a<=b/\eA l b a<=(K3 l a).Old-eH 0 l a:=by
 obtain⟨⟨e,a2⟩,_⟩:=h.ok.get a ha;have i:=ZL f e;unfold eA;by_cases c:a=0
 ·subst c;show _/\_/\_<=(K3 l 0).Old-0;omega
 ·have:=oB g c;omega
theorem ScFit.after(h:ScFit x y l){a:Int}(k:0<=a){b:Nat}(hb:b<=l.length)(m:b<l.length->opens l a b)(f:b≠0) :
  0<=eB l x.length a b/\eB l x.length a b<=a/\eH 0 l b+eB l x.length a b<=x.length/\lG 0 l b+eB l x.length a b<=y.length /\
   sub x (eH 0 l b) (eH 0 l b+eB l x.length a b)=sub y (lG 0 l b) (lG 0 l b+eB l x.length a b):=by
 obtain⟨g,i,C,D⟩:=h.nn b hb;have d:=ZL k (show 0<=(x.length:Int)-eH 0 l b by omega);unfold eB;rcases Nat.lt_or_ge b l.length with c | hge
 ·obtain⟨g1,j,u,v,w,z,A,B⟩:=dP _ _ _ _ _ _ h.sc b c;obtain⟨⟨n,a2⟩,⟨o,p⟩,⟨q,r⟩,⟨s,t⟩,k5,k6⟩:=h.ok.get b c;have E:=oB (m c) f;refine⟨d.1,d.2.1,by omega,by omega,CQ (CP x y l 0 0 h.eq b c) g i d.1 (by omega) (by omega)⟩
 ·have e:b=l.length:=by omega
  subst e;obtain⟨g1,j⟩:=MR _ _ _ _ _ _ h.sc;refine⟨d.1,d.2.1,by omega,by omega,CQ (MS x y l 0 0 h.eq) g i d.1 (by omega) (by omega)⟩
def MT(l:List Change)(b:Int)(a t:Nat):Int:=if t=0 then b else MQ (K3 l (a+t-1))
theorem CR(i0:Int)(a t:Nat)(b:t≠0):gF l i0 a t=eH 0 l (a+t):=by
 unfold gF eH;rw[A6 b,A6 (by omega)]
theorem ZM(c:Int)(a t:Nat)(b:t≠0):MT l c a t=lG 0 l (a+t):=by
 unfold MT lG;rw[A6 b,A6 (by omega)]
theorem ScFit.made(h:ScFit x y l){b:Int}(H:0<=b){a:Nat}(I:opens l b a):∀t,a+t<=l.length->(t=0->a<l.length) ->
  G4 (dO l x y ((K3 l a).Old-eA l b a) a t) 43=sub x ((K3 l a).Old-eA l b a) (gF l ((K3 l a).Old-eA l b a) a t) /\
  G4 (dO l x y ((K3 l a).Old-eA l b a) a t) 45=sub y ((K3 l a).New-eA l b a) (MT l ((K3 l a).New-eA l b a) a t)
 | 0,_,_=>by
  unfold gF MT;rw[A5 rfl,A5 rfl,ZK,ZK];exact⟨rfl,rfl⟩
 | t + 1,hl,_=>by
  have j:a+t<l.length:=by omega
  have f:a<l.length:=by omega
  obtain⟨B,C⟩:=ScFit.made h H I t (by omega) (fun _=>f);obtain⟨U,q2,q3⟩:=h.before H f I;obtain⟨p1,p2,p3,p4⟩:=h.nn (a+t) (by omega);obtain⟨V,W,r3,r4⟩:=h.nn a (by omega);obtain⟨g1,g2,g3,g4,g5,g6,g7,g8⟩:=dP _ _ _ _ _ _ h.sc (a+t) j;obtain⟨k1,⟨k2,R⟩,k3,⟨k4,S⟩,k5,k6,k7,k8⟩:=dP _ _ _ _ _ _ h.sc a f;obtain⟨⟨X,a2⟩,⟨Y,Z⟩,⟨c1,c2⟩,⟨d1,d2⟩,w5,w6⟩:=h.ok.get (a+t) j
  have c:sub x (gF l ((K3 l a).Old-eA l b a) a t) (K3 l (a+t)).Old=sub y (MT l ((K3 l a).New-eA l b a) a t) (K3 l (a+t)).New /\
    (K3 l a).Old-eA l b a<=gF l ((K3 l a).Old-eA l b a) a t/\gF l ((K3 l a).Old-eA l b a) a t<=(K3 l (a+t)).Old /\
    (K3 l a).New-eA l b a<=MT l ((K3 l a).New-eA l b a) a t/\MT l ((K3 l a).New-eA l b a) a t<=(K3 l (a+t)).New:=by
   have c:=CP x y l 0 0 h.eq (a+t) j;by_cases k:t=0
   ·subst k;unfold gF MT;rw[A5 rfl,A5 rfl];rw[show a+0=a from rfl]at *;exact⟨mU c V W U (by omega) (by omega),by omega,by omega,by omega,by omega⟩
   ·rw[CR _ _ _ k,ZM _ _ _ k];have m1:=h.ok.mono a (a+t-1) (by omega) (by omega);have m2:eH 0 l (a+t)=(K3 l (a+t-1)).Old+(K3 l (a+t-1)).OldLen:=by unfold eH;rw[A6 (by omega)];rfl
    have T:∀u,u<=t->(K3 l a).New<=lG 0 l (a+u)\/u=0:=by
     intro u;induction u with
     | zero=>exact fun _=>.inr rfl
     | succ u D =>
      intro hu;obtain⟨E,F,⟨e3,K⟩,⟨M,P⟩,e5,e6,e7,e8⟩:=dP _ _ _ _ _ _ h.sc (a+u) (by omega);have Q:lG 0 l (a+(u+1))=(K3 l (a+u)).New+(K3 l (a+u)).NewLen:=rfl;rcases D (by omega) with G | G
      ·left;omega
      ·left;subst G;rw[Q];show (K3 l a).New<=(K3 l a).New+(K3 l a).NewLen;exact Int.le_add_of_nonneg_right M
    have m5:=(T t (Nat.le_refl _)).resolve_right k;refine⟨c,by omega,by omega,by omega,by omega⟩
  obtain⟨m,p,q,z,A⟩:=c;simp (decide:=true) only [dO,kC,kD,B,C,if_true,if_false,C60];have E:gF l ((K3 l a).Old-eA l b a) a (t+1)=lF (K3 l (a+t)):=WO _ _ _ _;have F:MT l ((K3 l a).New-eA l b a) a (t+1)=MQ (K3 l (a+t)):=rfl;rw[E,F];have J:0<=(K3 l a).Old-eA l b a:=by omega
  have s1:0<=(K3 l a).New-eA l b a:=by omega
  refine⟨?_,?_⟩
  ·rw[kA x J p q,kA x J (by omega) (by unfold lF;omega)]
  ·rw[m,kA y s1 z A];exact kA y s1 (by omega) (by omega)
structure HunkIs (x y:List Str) (l:List Change) (ctx:Int) (a b:Nat) (h:PatchHunk):Prop where
 old:h.Old=(K3 l a).Old-eA l ctx a
 new:h.New=(K3 l a).New-eA l ctx a
 o0:0<=h.Old
 n0:0<=h.New
 oe:h.Old+iR h=eH 0 l b+eB l x.length ctx b
 ne:h.New+iT h=lG 0 l b+eB l x.length ctx b
 ox:h.Old+iR h<=x.length
 ny:h.New+iT h<=y.length
 ol:G4 h.Lines 43=sub x h.Old (h.Old+iR h)
 nl:G4 h.Lines 45=sub y h.New (h.New+iT h)
 ch:hJ h.Lines=true
 gl:(∀s∈x,K0 s=true)->(∀s∈y,K0 s=true)->h.Lines.all qZ=true
theorem CS(p q:List PatchLine):hJ (p++q)=(hJ p||hJ q):=by simp[hJ]
theorem CT{k:UInt8}{a:List Str}(b:k≠32)(h:a≠[]):hJ (gE k a)=true:=by
 cases a with
 | nil=>exact absurd rfl h
 | cons t a=>simp[hJ,gE,b]
theorem kE{k:UInt8}{d:List Str}(i:k=32\/k=45\/k=43)(h:∀t∈d,K0 t=true):(gE k d).all qZ=true:=by
 rw[List.all_eq_true];intro q c;unfold gE at c;obtain⟨t,j,rfl⟩:=C54.1 c;unfold qZ;refine A3 ?_;rintro (⟨⟨b,f⟩,g⟩ | b)
 ·rcases i with e | e | e
  ·exact b e
  ·exact f e
  ·exact g e
 ·rw[show (PatchLine.mk k t).Text=t from rfl,h t j]at b;cases b
theorem xV(b:∀s∈x,K0 s=true)(c:∀s∈y,K0 s=true)(i0:Int)(a:Nat):∀t,(dO l x y i0 a t).all qZ=true
 | 0=>rfl
 | t+1=>by
  simp only[dO,C85,xV b c i0 a t,Bool.true_and,C30];exact⟨⟨kE (.inl rfl) (fun s hs=>b s (zN hs)),kE (.inr (.inl rfl)) (fun s hs=>b s (zN hs))⟩,kE (.inr (.inr rfl)) (fun s hs=>c s (zN hs))⟩
theorem ScFit.hunk(h:ScFit x y l){c:Int}(I:0<=c){a b:Nat}(ag:a<b)(hb:b<=l.length)(V:opens l c a)(K:b<l.length->opens l c b) :
  HunkIs x y l c a b (j7 l x y (IF l x.length c a b)):=by
 have z:a<l.length:=by omega
 obtain⟨q1,q2,q3⟩:=h.before I z V;obtain⟨w1,w2,w3,w4,w5⟩:=h.after I hb K (by omega);obtain⟨R,S⟩:=h.made I V (b-a) (by omega) (fun e=>by omega);rw[CR _ _ _ (by omega)]at R;rw[ZM _ _ _ (by omega)]at S;rw[show a+(b-a)=b by omega]at R S;obtain⟨r1,r2,r3,r4⟩:=h.nn a (by omega);obtain⟨s1,s2,s3,s4⟩:=h.nn b hb;obtain⟨k1,⟨k2,aj⟩,k3,⟨k4,ak⟩,k5,k6,k7,k8⟩:=dP _ _ _ _ _ _ h.sc a z;have J:b-1<l.length:=by omega
 obtain⟨g1,⟨g2,ac⟩,g3,⟨g4,ae⟩,g5,g6,g7,g8⟩:=dP _ _ _ _ _ _ h.sc (b-1) J;have eo:eH 0 l b=(K3 l (b-1)).Old+(K3 l (b-1)).OldLen:=by unfold eH;rw[A6 (by omega)];rfl
 have en:lG 0 l b=(K3 l (b-1)).New+(K3 l (b-1)).NewLen:=by unfold lG;rw[A6 (by omega)];rfl
 have mo:=h.ok.mono a (b-1) (by omega) (by omega);have mn:(K3 l a).New<=lG 0 l b:=by
  have m4:∀u,a+u<=l.length->(K3 l a).New<=lG 0 l (a+u)\/u=0:=by
   intro u;induction u with
   | zero=>exact fun _=>.inr rfl
   | succ u M =>
    intro hu;obtain⟨C,e2,⟨e3,X⟩,⟨Y,Z⟩,e5,e6,e7,e8⟩:=dP _ _ _ _ _ _ h.sc (a+u) (by omega);have e9:lG 0 l (a+(u+1))=(K3 l (a+u)).New+(K3 l (a+u)).NewLen:=rfl;rcases M (by omega) with U | U
    ·left;omega
    ·left;subst U;rw[e9];show (K3 l a).New<=(K3 l a).New+(K3 l a).NewLen;exact Int.le_add_of_nonneg_right Y
  have:=(m4 (b-a) (by omega)).resolve_right (by omega)
  rwa[show a+(b-a)=b by omega]at this
 have hF:(IF l x.length c a b).First.toNat=a:=by show ((a:Int)).toNat=a;omega
 have hL:(IF l x.length c a b).Last.toNat-(IF l x.length c a b).First.toNat=b-a:=by
  show (((b-1:Nat):Int)+1).toNat-((a:Int)).toNat=b-a;omega
 have G:(IF l x.length c a b).Old.From=(K3 l a).Old-eA l c a:=rfl;have af:(IF l x.length c a b).New.From=(K3 l a).New-eA l c a:=rfl;have H:(IF l x.length c a b).Old.To=eH 0 l b+eB l x.length c b:=by
  unfold eB;rw[eo];rfl
 obtain⟨P,A⟩:∃P,P=j7 l x y (IF l x.length c a b):=⟨_,rfl⟩
 have f:P.Lines=dO l x y ((K3 l a).Old-eA l c a) a (b-a)++gE 32 (sub x (eH 0 l b) (eH 0 l b+eB l x.length c b)):=by
  rw[A];unfold j7;show dO l x y _ (IF l x.length c a b).First.toNat ((IF l x.length c a b).Last.toNat-(IF l x.length c a b).First.toNat)++gE 32 (sub x (gF l _ (IF l x.length c a b).First.toNat ((IF l x.length c a b).Last.toNat-(IF l x.length c a b).First.toNat)) _)=_;rw[hL,hF,G,H,CR _ _ _ (by omega),show a+(b-a)=b by omega]
 have q:P.Old=(K3 l a).Old-eA l c a:=by rw[A];rfl
 have p:P.New=(K3 l a).New-eA l c a:=by rw[A];rfl
 have j:G4 P.Lines 43=sub x ((K3 l a).Old-eA l c a) (eH 0 l b+eB l x.length c b):=by
  rw[f,kC,kD,A6 (by decide),R];exact kA x (by omega) (by omega) (by omega)
 have k:G4 P.Lines 45=sub y ((K3 l a).New-eA l c a) (lG 0 l b+eB l x.length c b):=by
  rw[f,kC,kD,A6 (by decide),S,w5];exact kA y (by omega) (by omega) (by omega)
 have ai:iR P=eH 0 l b+eB l x.length c b-((K3 l a).Old-eA l c a):=by
  unfold iR;rw[j];exact kB x (by omega) (by omega) (by omega)
 have ah:iT P=lG 0 l b+eB l x.length c b-((K3 l a).New-eA l c a):=by
  unfold iT;rw[k];exact kB y (by omega) (by omega) (by omega)
 rw[<-A];refine⟨q,p,by omega,by omega,by omega,by omega,by omega,by omega,?_,?_,?_,?_⟩
 ·rw[j];congr 1
  ·exact q.symm
  ·omega
 ·rw[k];congr 1
  ·exact p.symm
  ·omega
 ·rw[f,CS];have e:dO l x y ((K3 l a).Old-eA l c a) a (b-a)=dO l x y ((K3 l a).Old-eA l c a) a (b-1-a+1):=by congr 1;omega
  rw[e];simp only[dO,CS];rw[show a+(b-1-a)=b-1 by omega];have Q:hJ (gE 45 (sub x (K3 l (b-1)).Old (lF (K3 l (b-1)))))=true\/hJ (gE 43 (sub y (K3 l (b-1)).New ((K3 l (b-1)).New+(K3 l (b-1)).NewLen)))=true:=by
   obtain⟨E,ad⟩:=g3;obtain⟨D,ab⟩:=g1;by_cases h0:(K3 l (b-1)).OldLen=0
   ·right;refine CT (by decide) fun B=>?_;have:=kB y (a:=(K3 l (b-1)).New) (b:=(K3 l (b-1)).New+(K3 l (b-1)).NewLen) E (by omega) (by omega);rw[B]at this;simp at this;omega
   ·left;refine CT (by decide) fun B=>?_;have:=kB x (a:=(K3 l (b-1)).Old) (b:=lF (K3 l (b-1))) D (by unfold lF;omega) (by unfold lF;omega);rw[B]at this;unfold lF at this;simp at this;omega
  rcases Q with C | C<;>rw[C]<;>simp
 ·intro W hy;rw[f,C85,xV W hy,Bool.true_and];exact kE (.inl rfl) (fun s hs=>W s (zN hs))
theorem ScFit.hunks(h:ScFit x y l){c:Int}(C:0<=c)(K:∀s∈x,K0 s=true)(L:∀s∈y,K0 s=true):∀(hs:List Hunk) (a:Nat),GrOk l x.length c a hs l.length ->
  ∀(i j e:Int),i=eH 0 l a+e->j=lG 0 l a+e->0<=e->e<=c->(a=0->e=0) ->
  vV i j (hs.map (j7 l x y))=true/\(N7 (hs.map (j7 l x y)) 43).Sublist (x.drop i.toNat)/\(N7 (hs.map (j7 l x y)) 45).Sublist (y.drop j.toNat) /\
   ∀p∈hs.map (j7 l x y),(p.Old+iR p<=x.length/\p.New+iT p<=y.length/\0<=p.Old/\0<=p.New)/\G4 p.Lines 43=sub x p.Old (p.Old+iR p)/\G4 p.Lines 45=sub y p.New (p.New+iT p)
 | [],a,_,i,j,e,_,_,_,_,_=>⟨rfl,by simp[N7],by simp[N7],by simp⟩
 | J::hs,a,⟨b,hab,ho,hE,v⟩,i,j,e,hi,hj,he,hec,he0=>by
  have hb:=v.le;have w:b<l.length->opens l c b:=by
   intro W;cases hs with
   | nil=>exact absurd v (by show ¬b=l.length;omega)
   | cons G X=>obtain⟨_,_,E,_⟩:=v;exact E
  obtain⟨w1,w2,w3,w4,w5⟩:=h.after C hb w (by omega);obtain⟨q1,q2,q3⟩:=h.before C (show a<l.length by omega) ho;have H:=h.hunk C hab hb ho w;rw[<-hE]at H;obtain⟨P,B⟩:∃P,P=j7 l x y J:=⟨_,rfl⟩
  rw[<-B]at H;obtain⟨Y,i2,i3,i4⟩:=ScFit.hunks h C K L hs b v (P.Old+iR P) (P.New+iT P) (eB l x.length c b) H.oe H.ne w1 w2 (by omega);obtain⟨k1,⟨k2,Z⟩,k3,⟨k4,ab⟩,k5,k6,k7,k8⟩:=dP _ _ _ _ _ _ h.sc a (show a<l.length by omega);have Q:=H.old;have G:=H.new;have R:=H.o0;have T:=H.n0;have U:=H.ox;have V:=H.ny;have h7:=h.lx;have h8:=h.ly;have n1:0<=iR P:=by unfold iR;omega
  have n2:0<=iT P:=by unfold iT;omega
  have I:e+eA l c a<=(K3 l a).Old-eH 0 l a:=by
   by_cases D:a=0
   ·have:=he0 D;omega
   ·have:=oB ho D;omega
  obtain⟨r1,r2,r3,r4⟩:=h.nn a (by omega);have g:i<=P.Old/\j<=P.New/\P.Old-i=P.New-j/\0<=i/\0<=j:=by omega
  have n:∀(z:List Str) (i f t:Int),0<=i->i<=f->f<=t->∀r:List Str,r.Sublist (z.drop t.toNat)->(sub z f t++r).Sublist (z.drop i.toNat):=by
   intro z i f t D Q G r v;have M:z.drop f.toNat=sub z f t++z.drop t.toNat:=by
    unfold sub;rw[show t.toNat=f.toNat+(t.toNat-f.toNat) by omega,<-List.drop_drop,show f.toNat+(t.toNat-f.toNat)-f.toNat=t.toNat-f.toNat by omega,C70]
   have N:z.drop f.toNat=(z.drop i.toNat).drop (f.toNat-i.toNat):=by rw[List.drop_drop];congr 1;omega
   refine List.Sublist.trans ?_ (List.drop_sublist (f.toNat-i.toNat) (z.drop i.toNat));rw[<-N,M];exact List.Sublist.append_left v _
  have A:∀(k:UInt8),N7 ((J::hs).map (j7 l x y)) k=G4 P.Lines k++N7 (hs.map (j7 l x y)) k:=by
   intro k;rw[B];simp[N7]
  refine⟨?_,?_,?_,?_⟩
  ·rw[C39,<-B];simp only[vV,H.gl K L,Y,Bool.and_true,Bool.true_and,C30,decide_eq_true_eq];refine⟨?_,by omega⟩;unfold tP;rw[H.ch];rintro (((((q | q) | q) | q) | q) | q)
   ·cases q
   all_goals omega
  ·rw[A,H.ol];exact n x i P.Old (P.Old+iR P) g.2.2.2.1 g.1 (by omega) _ i2
  ·rw[A,H.nl];exact n y j P.New (P.New+iT P) g.2.2.2.2 g.2.1 (by omega) _ i3
  ·rw[C39,<-B];intro p F;rcases C36.1 F with rfl | F
   ·exact⟨⟨U,V,R,T⟩,H.ol,H.nl⟩
   ·exact i4 p F
theorem kF:∀{s z:List Str},s.Sublist z->R7 z=true->R7 s=true:=by
 intro s z hs;induction hs with
 | slnil=>exact fun h=>h
 | cons a _ d =>
  intro h;simp only[R7,C30]at h;exact d h.2
 | cons_cons a b d =>
  intro h;simp only[R7,C30,C64]at h ⊢;refine⟨?_,d h.2⟩;rcases h.1 with c | c
  ·left;rw[List.isEmpty_iff]at c ⊢;rw[c]at b;exact List.sublist_nil.1 b
  ·exact .inr c
def x4(l:List Change)(x y:List Str)(b:Int):List PatchHunk:=(j6 l x.length b l.length).map (j7 l x y)
theorem ScFit.good(h:ScFit x y l){ctx:Int}(a:0<=ctx)(g:∀s∈x,K0 s=true)(i:∀s∈y,K0 s=true)(b:R7 x=true)(c:R7 y=true):vW (x4 l x y ctx)=true:=by
 obtain⟨d,e,f,_⟩:=h.hunks a g i _ 0 (jZ l x.length ctx l.length) 0 0 0 rfl rfl (Int.le_refl _) a (fun _=>rfl);unfold vW WN x4;rw[d,kF e (by simpa using b),kF f (by simpa using c)];rfl
theorem ScFit.texts(h:ScFit x y l){a:Int}(b:0<=a)(c:∀s∈x,K0 s=true)(d:∀s∈y,K0 s=true):∀p∈x4 l x y a,(p.Old+iR p<=x.length/\p.New+iT p<=y.length/\0<=p.Old/\0<=p.New)/\G4 p.Lines 43=sub x p.Old (p.Old+iR p)/\G4 p.Lines 45=sub y p.New (p.New+iT p) :=
 (h.hunks b c d _ 0 (jZ l x.length a l.length) 0 0 0 rfl rfl (Int.le_refl _) b (fun _=>rfl)).2.2.2
theorem xW(a:Str)(c:UInt8)(h:∀z∈a,z≠10):K0 (a++[c])=true:=by
 unfold K0;simp only[List.dropLast_concat,C30];refine⟨List.all_eq_true.2 fun z b=>by simpa using h z b,by simp⟩
theorem mV:∀(s a:Str),(∀z∈a,z≠10)->(∀t∈G3 a s,K0 t=true)/\R7 (G3 a s)=true
 | [],a,hc=>by
  unfold G3;split
  ·exact⟨by simp,rfl⟩
  ·rename_i h;refine⟨fun t f=>?_,rfl⟩;obtain rfl:t=a:=by simpa using f
   obtain⟨d,r,e⟩:∃d r,t=r++[d]:=⟨t.getLast h,t.dropLast,(List.dropLast_concat_getLast h).symm⟩
   rw[e];exact xW r d fun z b=>hc z (by rw[e];simp[b])
 | c::r,a,hc=>by
  rw[u9];by_cases h:c=10
  ·rw[A5 h];obtain⟨g,i⟩:=mV r [] (by simp);refine⟨fun t f=>?_,?_⟩
   ·rcases C36.1 f with rfl | f
    ·exact xW a c hc
    ·exact g t f
   ·simp only[R7,i,Bool.and_true,C64];right;unfold ended;subst h;simp
  ·rw[A6 h];refine mV r (a++[c]) fun z b=>?_;rcases C37.1 b with b | b
   ·exact hc z b
   ·simp at b;subst b;exact h
theorem cC(b:Str):(∀t∈B6 b,K0 t=true)/\R7 (B6 b)=true:=mV b [] (by simp)
theorem oC{m n:Int}(c:N1 m)(d:N1 n):∀(p:List Span) (i j i0 a:Int) (b:Nat),Asc m n i j p->0<=i0->0<=a->i0<=i->i-i0=j-a->(0<b->i0<i)->L5 b i0 a (R5 i j p m n) m n=true
 | [],i,j,i0,a,b,ha,h1,h2,h3,h4,h5=>by
  obtain⟨e,a2⟩:i<=m/\j<=n:=ha;obtain⟨k,l⟩:=c;obtain⟨o,q⟩:=d;unfold R5;split
  ·rename_i f;simp only[L5,C30,decide_eq_true_eq];refine⟨?_,by omega⟩;unfold MO N1;show ¬(((((((¬(0<=i/\i<=4096)\/¬(0<=m-i/\m-i<=4096))\/¬(0<=j/\j<=4096))\/¬(0<=n-j/\n-j<=4096))\/m-i+(n-j)=0)\/i-i0≠j-a)\/i<i0)\/(0<(b:Int)/\i=i0));omega
  ·simp only[L5,decide_eq_true_eq];omega
 | x::r,i,j,i0,a,b,ha,h1,h2,h3,h4,h5=>by
  obtain⟨e,a2,a3⟩:=ha;have g:=a3.le;unfold R5;split
  ·rename_i f;simp only[C57,C58,L5,C30,decide_eq_true_eq];refine⟨?_,?_⟩
   ·obtain⟨k,l⟩:=c;obtain⟨o,q⟩:=d;unfold MO N1;show ¬(((((((¬(0<=i/\i<=4096)\/¬(0<=x.From-i/\x.From-i<=4096))\/¬(0<=j/\j<=4096))\/¬(0<=x.To-j/\x.To-j<=4096))\/x.From-i+(x.To-j)=0)\/i-i0≠j-a)\/i<i0)\/(0<(b:Int)/\i=i0));omega
   ·exact oC c d r _ _ _ _ _ a3 (by omega) (by omega) (by omega) (by omega) (fun _=>by omega)
  ·rw[C58];exact oC c d r _ _ _ _ _ a3 h1 h2 (by omega) (by omega) (fun h=>by omega)
def EqAt(X Y:List Str)(s:Span):Prop:=0<=s.From/\0<=s.To/\∃v,X[s.From.toNat]?=some v/\Y[s.To.toNat]?=some v
theorem QX{X:List Str}{a b:Int}{v:Str}(c:0<=a)(d:a<=b)(g:X[b.toNat]?=some v):sub X a (b+1)=sub X a b++[v]:=by
 rw[<-kA X c d (by omega:b<=b+1)]
 congr 1
 unfold sub;obtain⟨f,e⟩:=List.getElem?_eq_some_iff.1 g;rw[C38 f,e,show (b+1).toNat-b.toNat=1 by omega];rfl
theorem IG:∀(a b:List Int) (p q:Int),∀s∈H5 p q a b,p<=s.From/\q<=s.To/\∃v,a[(s.From-p).toNat]?=some v/\b[(s.To-q).toNat]?=some v:=by
 intro a;induction a with
 | nil=>intro b p q s hs;simp[H5]at hs
 | cons x a f =>
  intro b;induction b with
  | nil=>intro p q s hs;simp[H5]at hs
  | cons y b g =>
   intro p q s hs;unfold H5 at hs;split at hs
   ·rename_i e;rcases C36.1 hs with rfl | hs
    ·exact⟨Int.le_refl _,Int.le_refl _,x,by simp,by simp[e]⟩
    ·obtain⟨h,i,v,c,d⟩:=f b (p+1) (q+1) s hs;refine⟨by omega,by omega,v,?_,?_⟩
     ·rw[show (s.From-p).toNat=(s.From-(p+1)).toNat+1 by omega];simpa using c
     ·rw[show (s.To-q).toNat=(s.To-(q+1)).toNat+1 by omega];simpa using d
   ·split at hs
    ·obtain⟨h,i,v,c,d⟩:=f (y::b) (p+1) q s hs;refine⟨by omega,by omega,v,?_,d⟩;rw[show (s.From-p).toNat=(s.From-(p+1)).toNat+1 by omega];simpa using c
    ·obtain⟨h,i,v,c,d⟩:=g p (q+1) s hs;refine⟨by omega,by omega,v,c,?_⟩;rw[show (s.To-q).toNat=(s.To-(q+1)).toNat+1 by omega];simpa using d
theorem IH:∀(b:List PatchLine),b.all qZ=true->(b.map szL).sum<=64*((G4 b 43).length+(G4 b 45).length)+((G4 b 43).flatten.length+(G4 b 45).flatten.length)
 | [],_=>by simp
 | q::b,h=>by
  rw[List.all_cons,C30]at h;have x:=IH b h.2;have v:q.Kind=32\/q.Kind=45\/q.Kind=43:=by
   have c:=h.1;unfold qZ at c;have c:=A0 c;by_cases d:q.Kind=32
   ·exact .inl d
   by_cases j:q.Kind=45
   ·exact .inr (.inl j)
   by_cases o:q.Kind=43
   ·exact .inr (.inr o)
   exact absurd (.inl ⟨⟨d,j⟩,o⟩) c
  have p:∀k:UInt8,G4 (q::b) k=if q.Kind≠k then q.Text::G4 b k else G4 b k:=by
   intro k;unfold G4;by_cases e:q.Kind=k
   ·rw[A6 (by simpa using e),List.filter_cons_of_neg (by simpa using e)]
   ·rw[A5 e,List.filter_cons_of_pos (by simpa using e)];rfl
  rw[p 43,p 45,C39,C67];have w:szL q=q.Text.length+64:=rfl;rcases v with e | e | e<;>rw[e]<;>simp (decide:=true) only [if_true,if_false,ne_eq,not_true_eq_false,not_false_eq_true,C34,C56,C32]<;>omega
theorem tS:∀(hs:List PatchHunk) (i j:Int),vV i j hs=true->szP hs<=128*((N7 hs 43).length+(N7 hs 45).length)+((N7 hs 43).flatten.length+(N7 hs 45).flatten.length)
 | [],_,_,_=>by simp[szP]
 | h :: hs,i,j,hg=>by
  simp only[vV,C30,decide_eq_true_eq]at hg;obtain⟨y,z,E,A⟩:=hg;have D:=tS hs _ _ A;have F:=IH h.Lines y;have B:1<=h.Lines.length:=by
   cases C:h.Lines with
   | nil=>exact absurd (.inl (.inl (.inl (.inl (.inl (by rw[C];rfl)))))) z
   | cons a b=>simp
  have v:h.Lines.length<=(G4 h.Lines 43).length+(G4 h.Lines 45).length:=by
   have:64*h.Lines.length<=(h.Lines.map szL).sum:=szL_len h.Lines;have r:∀c:List PatchLine,c.length<=(G4 c 43).length+(G4 c 45).length:=by
    intro c;induction c with
    | nil=>simp
    | cons q c D =>
     have w:∀k:UInt8,(G4 (q::c) k).length=if q.Kind≠k then (G4 c k).length+1 else (G4 c k).length:=by
      intro k;unfold G4;by_cases e:q.Kind=k
      ·rw[A6 (by simpa using e),List.filter_cons_of_neg (by simpa using e)]
      ·rw[A5 e,List.filter_cons_of_pos (by simpa using e)];simp
     rw[w 43,w 45,C34];by_cases e:q.Kind=43
     ·have x:q.Kind≠45:=by rw[e];decide
      rw[A5 x];split<;>omega
     ·rw[A5 e];split<;>omega
   exact r h.Lines
  have p:szP (h::hs)=szH h+szP hs:=by simp[szP]
  have o:szH h=64+(h.Lines.map szL).sum:=rfl;have d:∀k,N7 (h::hs) k=G4 h.Lines k++N7 hs k:=by intro k;simp[N7]
  rw[p,o,d 43,d 45];simp only[C32,C69];omega
theorem xX:∀{s z:List Str},s.Sublist z->s.flatten.length<=z.flatten.length:=by
 intro s z hs;induction hs with
 | slnil=>exact Nat.le_refl _
 | cons a _ b=>simp only[C56,C32];omega
 | cons_cons a _ b=>simp only[C56,C32];omega
theorem ScFit.size{x y:List Str}{l:List Change}(h:ScFit x y l){c:Int}(k:0<=c)(q:∀s∈x,K0 s=true)(r:∀s∈y,K0 s=true):szP (x4 l x y c)<=128*(x.length+y.length)+(x.flatten.length+y.flatten.length):=by
 obtain⟨n,g,j,_⟩:=h.hunks k q r _ 0 (jZ l x.length c l.length) 0 0 0 rfl rfl (Int.le_refl _) k (fun _=>rfl);have o:=tS _ _ _ n;have e:x4 l x y c=(j6 l x.length c l.length).map (j7 l x y):=rfl;rw[<-e]at g j o;have d:(N7 (x4 l x y c) 43).Sublist x:=by simpa using g
 have f:(N7 (x4 l x y c) 45).Sublist y:=by simpa using j
 have:=d.length_le;have:=f.length_le;have:=xX d;have:=xX f;omega
theorem CU(s:Str):∀b:Str,(G3 b s).flatten=b++s:=by
 induction s with
 | nil=>intro b;unfold G3;split<;>simp[*]
 | cons c r d=>intro b;rw[u9];split<;>simp[d]
theorem rA(a:Str):(B6 a).flatten.length=a.length/\(B6 a).length<=a.length:=⟨by unfold B6;rw[CU];rfl,aW a⟩
theorem GA{a:Str}(h:a.length<=4096):X4 a=(B6 a,0):=by
 have:=aW a;unfold X4;rw[A6 (by omega)]
abbrev rB:Int->Nat->Cell:=fun x _=>.v (.int .u16 x)
abbrev pU16s(l:List Int):PV:=.one (.list Int 1 rB l)
theorem WP(n:Int)(h:0<=n/\n<65536):IntKind.u16.wrap n=n:=by
 simp[IntKind.wrap,IntKind.signed,IntKind.bits];omega
def flat(a b:List Int)(done:Nat->Nat->Bool):List Int :=
 (List.range ((a.length+1)*(b.length+1))).map fun p=>if done (p / (b.length+1)) (p % (b.length+1))=true then (dist (a.drop (p / (b.length+1))) (b.drop (p % (b.length+1))):Int) else 0
theorem xY(a b:List Int)(done:Nat->Nat->Bool):(flat a b done).length=(a.length+1)*(b.length+1):=by simp[flat]
theorem zO{a b:List Int}{i j:Nat}(c:i<=a.length)(d:j<=b.length):i*(b.length+1)+j<(a.length+1)*(b.length+1)/\(i*(b.length+1)+j) / (b.length+1)=i/\(i*(b.length+1)+j) % (b.length+1)=j:=by
 refine⟨?_,?_,?_⟩
 ·have:(i+1)*(b.length+1)<=(a.length+1)*(b.length+1):=C47 _ (by omega);rw[C62,Nat.one_mul]at this;omega
 ·rw[Nat.mul_comm,Nat.mul_add_div (by omega),Nat.div_eq_of_lt (by omega),Nat.add_zero]
 ·rw[Nat.mul_comm,Nat.mul_add_mod,Nat.mod_eq_of_lt (by omega)]
theorem CV{a b:List Int}{done:Nat->Nat->Bool}{i j:Nat}(f:i<=a.length)(g:j<=b.length):(flat a b done)[i*(b.length+1)+j]?=some (if done i j=true then (dist (a.drop i) (b.drop j):Int) else 0):=by
 obtain⟨c,d,e⟩:=zO f g;unfold flat
 rw[vQ _ _ _ c,d,e]
theorem QY{a b:List Int}{done c:Nat->Nat->Bool}{i j:Nat}{v:Int}(n:i<=a.length)(o:j<=b.length)(x:v=(dist (a.drop i) (b.drop j):Int))(m:c i j=true)
  (p:∀r q,r<=a.length->q<=b.length->¬(r=i/\q=j)->c r q=done r q):(flat a b done).set (i*(b.length+1)+j) v=flat a b c:=by
 obtain⟨y,k,l⟩:=zO n o;unfold flat
 refine oA _ _ _ _ _ (fun _=>?_) (fun q u d=>?_)
 ·rw[k,l,A5 m,x]
 ·have f:0<b.length+1:=by omega
  have e:=Nat.div_add_mod q (b.length+1);have w:q / (b.length+1)<=a.length:=by
   have:=(Nat.div_lt_iff_lt_mul f).2 u;omega
  have z:=Nat.mod_lt q f;rw[p _ _ w (by omega) (fun ⟨g,h⟩=>d (by rw[g,h,Nat.mul_comm]at e;exact e.symm))]
theorem A69(a b:List Int):List.replicate ((a.length+1)*(b.length+1)) 0=flat a b (fun _ _=>false):=by
 unfold flat
 simp only[Bool.false_eq_true,if_false];rw[List.map_const',C72]
theorem kG{a b:List Int}{done c:Nat->Nat->Bool}(h:∀r q,r<=a.length->q<=b.length->(done r q=c r q\/dist (a.drop r) (b.drop q)=0)):flat a b done=flat a b c:=by
 unfold flat
 apply List.map_congr_left;intro p d;have d:=C40.1 d;have f:0<b.length+1:=by omega
 have g:p / (b.length+1)<=a.length:=by have:=(Nat.div_lt_iff_lt_mul f).2 d;omega
 have i:=Nat.mod_lt p f;rcases h (p / (b.length+1)) (p % (b.length+1)) g (by omega) with e | e
 ·rw[e]
 ·rw[e];simp
def Y5:List Int->List Int->Nat
 | x::a,y::b=>if x=y then Y5 a b+1 else 0
 | _,_=>0
theorem QZ:∀(a b:List Int),Y5 a b<=a.length/\Y5 a b<=b.length
 | [],_=>by simp[Y5]
 | _::_,[]=>by simp[Y5]
 | x::a,y::b=>by
  have:=QZ a b;unfold Y5;simp only[C34];split<;>omega
theorem CW(a b:List Int)(k:Nat)(d:k<a.length)(c:k<b.length):Y5 (a.drop k) (b.drop k)=if a[k]=b[k] then Y5 (a.drop (k+1)) (b.drop (k+1))+1 else 0:=by
 rw[C38 d,C38 c];rfl
theorem A70(a b:List Int)(k:Nat)(h:¬(k<a.length/\k<b.length)):Y5 (a.drop k) (b.drop k)=0:=by
 by_cases c:k<a.length
 ·rw[C51 (as:=b) (by omega)];cases a.drop k<;>rfl
 ·rw[C51 (as:=a) (by omega)];rfl
theorem CX:∀(a b:List Int) (p q:Int),H5 p q a b=T6 p q (Y5 a b)++H5 (p+Y5 a b) (q+Y5 a b) (a.drop (Y5 a b)) (b.drop (Y5 a b))
 | [],b,p,q=>by simp[Y5,jT]
 | x::a,[],p,q=>by simp[Y5,jT]
 | x::a,y::b,p,q=>by
  unfold Y5;by_cases h:x=y
  ·rw[A5 h]
   conv=>lhs;unfold H5
   rw[A5 h,CX a b (p+1) (q+1),jS];simp only[List.drop_succ_cons,C57];rw[show p+1+(Y5 a b:Int)=p+((Y5 a b+1:Nat):Int) by omega,show q+1+(Y5 a b:Int)=q+((Y5 a b+1:Nat):Int) by omega]
  ·rw[A6 h];simp[jT]
def GrX(l:List Change)(m d:Int):Nat->List Hunk->Nat->Prop
 | a,[],k=>a=k
 | a,h::r,k=>∃b,a<b/\opens l d a/\(∀c,a<c->c<b->¬opens l d c)/\h=IF l m d a b/\GrX l m d b r k
theorem GrX.le{l:List Change}{m c:Int}:∀{hs:List Hunk} {a k:Nat},GrX l m c a hs k->a<=k
 | [],a,k,h=>Nat.le_of_eq h
 | _::_,a,k,⟨b,h1,_,_,_,h2⟩=>by have:=GrX.le h2;omega
theorem GrX.snoc{l:List Change}{m d:Int}{k n:Nat}(g:opens l d k)(f:k<n)(e:∀c,k<c->c<n->¬opens l d c):∀{hs:List Hunk} {a:Nat},GrX l m d a hs k->GrX l m d a (hs++[IF l m d k n]) n
 | [],a,h=>by
  obtain rfl:a=k:=h;exact⟨n,f,g,e,rfl,rfl⟩
 | _::_,a,⟨b,h1,h2,h3,h4,h5⟩=>⟨b,h1,h2,h3,h4,GrX.snoc g f e h5⟩
theorem GrX.last{l:List Change}{m d:Int}{k:Nat}(e:¬opens l d k):∀{hs:List Hunk} {a:Nat},GrX l m d a hs k->hs≠[]->GrX l m d a (hs.set (hs.length-1) (tO l m d k (hs.getD (hs.length-1) ZI))) (k+1)
 | [],_,_,h0=>absurd rfl h0
 | [h],a,⟨b,h1,h2,h3,h4,h5⟩,_=>by
  obtain rfl:b=k:=h5;subst h4;refine⟨b+1,by omega,h2,fun c f i=>?_,rfl,rfl⟩;by_cases g:c=b
  ·rw[g];exact e
  ·exact h3 c f (by omega)
 | h::h'::r,a,⟨b,h1,h2,h3,h4,h5⟩,_=>by
  have j:=GrX.last e h5 (by simp);refine⟨b,h1,h2,h3,h4,?_⟩;simpa using j
theorem GrX.len{l:List Change}{m ctx:Int}:∀{hs:List Hunk} {a k:Nat},GrX l m ctx a hs k->hs.length<=k-a
 | [],_,_,_=>Nat.zero_le _
 | _::_,a,k,⟨b,h1,_,_,_,h2⟩=>by have:=GrX.len h2;have:=h2.le;simp only[C34];omega
def eI:List Str->Int->List (Str×Cell)
 | [],_=>[]
 | s::r,i=>(s,.v (.int .i64 i))::eI r (i+1)
theorem II(s:Str):∀(l:List Str) (i:Int),eI (l++[s]) i=eI l i++[(s,.v (.int .i64 (i+l.length)))]
 | [],i=>by simp[eI]
 | x::r,i=>by
  simp only[C57,eI,II s r,C34];rw[show i+1+(r.length:Int)=i+((r.length+1:Nat):Int) by omega]
theorem IJ(s:Str):∀(l:List Str) (i:Int),s∈l->N6 (eI l i) s=some (.v (.int .i64 (J0 l s i)))
 | [],_,h=>by simp at h
 | x::r,i,h=>by
  simp only[eI,N6,J0];by_cases a:x=s
  ·rw[A5 a,A5 a]
  ·rw[A6 a,A6 a];exact IJ s r (i+1) ((C36.1 h).resolve_left (fun q=>a q.symm))
theorem CY(s:Str):∀(l:List Str) (i:Int),s∉l->N6 (eI l i) s=none
 | [],_,_=>rfl
 | x::r,i,h=>by
  simp only[eI,N6];rw[A6 (fun q=>h (by simp[q]))];exact CY s r (i+1) (fun q=>h (by simp[q]))
theorem mW(s:Str)(r:List Str):∀(l:List Str) (i:Int),s∈l->J0 (l++r) s i=J0 l s i
 | [],_,h=>by simp at h
 | x::l,i,h=>by
  simp only[C57,J0];by_cases a:x=s
  ·rw[A5 a,A5 a]
  ·rw[A6 a,A6 a];exact mW s r l (i+1) ((C36.1 h).resolve_left (fun q=>a q.symm))
theorem xZ(s:Str):∀(l:List Str) (i:Int),s∉l->J0 (l++[s]) s i=i+l.length
 | [],i,_=>by simp[J0]
 | x::l,i,h=>by
  simp only[C57,J0,C34];rw[A6 (fun q=>h (by simp[q])),xZ s l (i+1) (fun q=>h (by simp[q]))];omega
theorem tT:∀(l a:List Str),∃r,l.foldl L7 a=a++r
 | [],a=>⟨[],by simp⟩
 | s::l,a=>by
  obtain⟨r,b⟩:=tT l (L7 a s);rw[C68,b];unfold L7;split
  ·exact⟨r,rfl⟩
  ·exact⟨s::r,by simp⟩
def N9(files:List (List Str))(k j:Nat):List Str:=((files.take k).flatten++(files.getD k []).take j).foldl L7 []
theorem RA(files:List (List Str))(k:Nat):N9 files (k+1) 0=N9 files k (files.getD k []).length:=by
 unfold N9;rw[List.take_zero,C60,C44];by_cases h:k<files.length
 ·rw[fX files k h]
  congr 2
  simp[h]
 ·rw[C65 (by omega),C65 (by omega)];have:files.getD k []=[]:=by simp[show files.length<=k by omega]
  rw[this,C60]
theorem MU(files:List (List Str))(k j:Nat)(s:Str)(h:(files.getD k [])[j]?=some s):N9 files k (j+1)=L7 (N9 files k j) s:=by
 unfold N9;have b:j<(files.getD k []).length:=(List.getElem?_eq_some_iff.1 h).1;have a:=(List.getElem?_eq_some_iff.1 h).2;rw[C48 b,a,<-C42,C78];rfl
theorem RB(files:List (List Str)):N9 files files.length 0=J1 files:=by
 unfold N9 J1;rw[C44];simp
theorem yA(files:List (List Str))(k j:Nat):∃r,J1 files=N9 files k j++r:=by
 have h:∃m,files.flatten=((files.take k).flatten++(files.getD k []).take j)++m:=by
  refine⟨(files.getD k []).drop j++(files.drop (k+1)).flatten,?_⟩;by_cases b:k<files.length
  ·have e:files=files.take k++files.getD k []::files.drop (k+1):=by
    have:files.getD k []=files[k]:=by simp[b]
    rw[this,List.getElem_cons_drop,C70]
   conv=>lhs;rw[e]
   rw[C69,C56,C42]
   congr 1
   rw[<-C42,C70]
  ·have:files.getD k []=[]:=by simp[show files.length<=k by omega]
   rw[this,C65 (by omega:files.length<=k),C51 (by omega:files.length<=k+1)];simp
 obtain⟨m,c⟩:=h;unfold J1 N9;rw[c,C78];obtain⟨r,g⟩:=tT m (((files.take k).flatten++(files.getD k []).take j).foldl L7 []);exact⟨r,g⟩
theorem CZ(files:List (List Str))(k j:Nat):(N9 files k j).length<=files.flatten.length:=by
 obtain⟨r,a⟩:=yA files k j;have:=CC files;rw[a,C32]at this;omega
def P5(files:List (List Str))(k:Nat):List TC:=(List.range files.length).map fun r=>if r<k then .p (.list Int 1 E3 (R4 (J1 files) (files.getD r []))) else .p (.v (.slice none 0 0))
theorem A71{files:List (List Str)}{k:Nat}(h:k<files.length):(P5 files k)[k]?=some (.p (.v (.slice none 0 0))):=by
 simp[P5,h]
theorem MV(files:List (List Str))(k m:Nat)(_h:k<files.length):((P5 files k).set k (.buf m Int 1 E3 (R4 (J1 files) (files.getD k [])))).map (TC.forget m)=P5 files (k+1):=by
 have c:(P5 files k).map (TC.forget m)=P5 files k:=by
  unfold P5;rw[C71];apply List.map_congr_left;intro r _;simp only[Function.comp];split<;>rfl
 rw[List.map_set,c];have d:(TC.buf m Int 1 E3 (R4 (J1 files) (files.getD k []))).forget m=.p (.list Int 1 E3 (R4 (J1 files) (files.getD k []))):=by simp[TC.forget]
 rw[d];unfold P5;refine oA _ _ _ _ _ (fun _=>by simp) (fun q n j=>?_);simp only[show (q<k+1)=(q<k) from propext ⟨fun h=>by omega,fun h=>by omega⟩]
theorem WQ(files:List (List Str)):List.replicate files.length (TC.p (.v (.slice none 0 0)))=P5 files 0:=by
 unfold P5;simp only[Nat.not_lt_zero,if_false,List.map_const',C72]
theorem WR(files:List (List Str)):P5 files files.length=(files.map (R4 (J1 files))).map fun x=>TC.p (intsC x 0):=by
 unfold P5;apply List.ext_getElem
 ·simp
 ·intro i b d;have c:i<files.length:=by simpa using b
  simp[c,intsC]
theorem ZN(m n:Int):∀(l:List Change) (a:Nat) (i j:Int),(∀k,k<l.length->N1 (K3 l k).Old/\N1 (K3 l k).OldLen/\N1 (K3 l k).New/\N1 (K3 l k).NewLen/\(K3 l k).OldLen+(K3 l k).NewLen≠0/\(K3 l k).Old-eH i l k=(K3 l k).New-lG j l k/\eH i l k<=(K3 l k).Old/\(0<a+k->eH i l k<(K3 l k).Old)) ->
  (m-eH i l l.length=n-lG j l l.length/\eH i l l.length<=m)->L5 a i j l m n=true
 | [],a,i,j,_,h=>by
  have b:m-i=n-j/\i<=m:=h;simp only[L5,decide_eq_true_eq];omega
 | c::r,a,i,j,h,he=>by
  simp only[L5,C30,decide_eq_true_eq];refine⟨?_,ZN m n r (a+1) _ _ (fun k E=>?_) ?_⟩
  ·obtain⟨b,f,g,o,p,s,u,t⟩:=h 0 (by simp);have b:N1 c.Old:=b;have f:N1 c.OldLen:=f;have g:N1 c.New:=g;have o:N1 c.NewLen:=o;have p:c.OldLen+c.NewLen≠0:=p;have s:c.Old-i=c.New-j:=s;have u:i<=c.Old:=u;have t:0<a+0->i<c.Old:=t;unfold MO;rintro (((((((q | q) | q) | q) | q) | q) | q) | ⟨q,G⟩)
   ·exact q b
   ·exact q f
   ·exact q g
   ·exact q o
   ·exact p q
   ·exact q s
   ·omega
   ·have:=t (by omega);omega
  ·have:=h (k+1) (by simpa using E);rw[tR,dE,dF]at this;obtain⟨v,x,y,z,A,B,C,D⟩:=this;exact⟨v,x,y,z,A,B,C,fun F=>D (by omega)⟩
  ·rw[C34,dE,dF]at he;exact he
theorem ZO(x y:List Str):∀(l:List Change) (i j:Int),(∀k,k<l.length->sub x (eH i l k) (K3 l k).Old=sub y (lG j l k) (K3 l k).New)->sub x (eH i l l.length) x.length=sub y (lG j l l.length) y.length->vX x y i j l
 | [],_,_,_,h=>h
 | c::r,i,j,h,he=>by
  refine⟨h 0 (by simp),ZO x y r _ _ (fun k a=>?_) ?_⟩
  ·have:=h (k+1) (by simpa using a);rw[tR,dE,dF]at this;exact this
  ·rw[C34,dE,dF]at he;exact he
theorem ZP{x:List Str}{p q:Int}{t:Nat}(b:0<=p)(h:p+t<q):(sub x p q)[t]?=x[(p+t).toNat]?:=by
 unfold sub;rw[List.getElem?_take,A5 (by omega),C61]
 congr 1;omega
theorem MW{x y:List Str}{p q b d:Int}(h:sub x p q=sub y b d)(f:0<=p)(c:0<=b)(j:q<=x.length)(i:q-p=d-b){t:Nat}(g:p+t<q):∃v,x[(p+t).toNat]?=some v/\y[(b+t).toNat]?=some v:=by
 have e:x[(p+t).toNat]?=some x[(p+t).toNat]:=C29 (by omega);refine⟨_,e,?_⟩;rw[<-ZP (q:=d) c (by omega),<-h,ZP f g];exact e
theorem yB{i j:Int}{n:Nat}{p:Span}(h:p∈T6 i j n):∃t:Nat,t<n/\p=⟨i+t,j+t⟩:=by
 unfold T6 at h;obtain⟨t,a,b⟩:=C54.1 h;exact⟨t,C40.1 a,b.symm⟩
theorem DA{x y:List Str}:∀(l:List Change) (e:Nat) (i j:Int),L5 e i j l x.length y.length=true->vX x y i j l->0<=i->0<=j->∀p∈L8 i j l x.length,EqAt x y p
 | [],e,i,j,hs,d,hi,hj,p,b=>by
  simp only[L5,decide_eq_true_eq]at hs;unfold L8 at b;obtain⟨t,s,rfl⟩:=yB b;have d:sub x i x.length=sub y j y.length:=d;exact⟨by dsimp only;omega,by dsimp only;omega,MW d hi hj (by omega) (by omega) (by omega)⟩
 | c::r,e,i,j,hs,d,hi,hj,p,b=>by
  have m:=gC _ _ _ _ _ _ hs;have g:=dP x.length y.length (c::r) e i j hs 0 (by simp);obtain⟨g1,f,h,k,u,n,q,_⟩:=g;have g1:N1 c.Old:=g1;have f:N1 c.OldLen:=f;have h:N1 c.New:=h;have k:N1 c.NewLen:=k;have n:c.Old-i=c.New-j:=n;have q:i<=c.Old:=q;simp only[L5,C30,decide_eq_true_eq]at hs;unfold L8 at b;unfold N1 at g1 f h k;have v:=m.2.2.2.2.2.2.end_le;rcases C37.1 b with b | b
  ·obtain⟨t,s,rfl⟩:=yB b;exact⟨by dsimp only;omega,by dsimp only;omega,MW d.1 hi hj (by omega) (by omega) (by omega)⟩
  ·rw[show max i c.Old+c.OldLen=c.Old+c.OldLen by omega,show j+((c.Old-i).toNat:Int)+c.NewLen=c.New+c.NewLen by omega]at b;exact DA r (e+1) _ _ hs.2 d.2 (by omega) (by omega) p b
theorem ScFit.pairs{x y:List Str}{l:List Change}(h:ScFit x y l):∀p∈z8 l x.length,EqAt x y p:=DA l 0 0 0 h.sc h.eq (Int.le_refl _) (Int.le_refl _)
def vY(c:Change):Change:=⟨c.Old+1,c.OldLen,c.New+1,c.NewLen⟩
def kH(l:List Change)(k:Nat):List Change:=l.set k (vY (K3 l k))
def atI(t:List Int)(i:Int):Int:=t.getD i.toNat 0
def ZQ(l:List Change)(k:Nat)(t:List Int)(f n:Int):Prop:=(f+n<t.length/\atI t f=atI t (f+n))/\(k+1=l.length\/(K3 l k).Old+(K3 l k).OldLen+1<(K3 l (k+1)).Old)
instance (l:List Change) (k:Nat) (t:List Int) (f n:Int):Decidable (ZQ l k t f n):=by unfold ZQ;exact inferInstance
def zP(l:List Change)(a b:List Int)(k:Nat):Bool :=
 if (K3 l k).NewLen=0 then decide (ZQ l k a (K3 l k).Old (K3 l k).OldLen) else if (K3 l k).OldLen=0 then decide (ZQ l k b (K3 l k).New (K3 l k).NewLen) else false
theorem bA(l:List Change)(k:Nat):(kH l k).length=l.length:=by simp[kH]
theorem oD(l:List Change){k:Nat}(a:k<l.length)(q:Nat):K3 (kH l k) q=if q=k then vY (K3 l k) else K3 l q:=by
 unfold kH;by_cases h:q=k
 ·subst h;have:∀z,K3 (l.set q z) q=z:=fun z=>by unfold K3;simp[a]
  rw[A5 rfl,this]
 ·rw[A6 h];unfold K3;simp only[C33];rw[List.getElem?_set_ne (Ne.symm h)]
theorem tU(l:List Change){k:Nat}(a:k<l.length)(q:Nat):eH 0 (kH l k) q=eH 0 l q+(if q=k+1 then 1 else 0):=by
 cases q with
 | zero=>simp[eH]
 | succ q =>
  rw[mS,mS,oD l a];by_cases h:q=k
  ·subst h;rw[A5 rfl,A5 rfl];simp only[lF,vY];omega
  ·rw[A6 h,A6 (by omega)];omega
theorem tV(l:List Change){k:Nat}(a:k<l.length)(q:Nat):lG 0 (kH l k) q=lG 0 l q+(if q=k+1 then 1 else 0):=by
 cases q with
 | zero=>simp[lG]
 | succ q =>
  rw[mT,mT,oD l a];by_cases h:q=k
  ·subst h;rw[A5 rfl,A5 rfl];simp only[MQ,vY];omega
  ·rw[A6 h,A6 (by omega)];omega
structure IdsOf (x:List Str) (a:List Int):Prop where
 len:a.length=x.length
 inj:∀(i j:Nat) (u v:Str) (z:Int),x[i]?=some u->x[j]?=some v->a[i]?=some z->a[j]?=some z->u=v
theorem ScFit.down{x y:List Str}{l:List Change}{a b:List Int}(h:ScFit x y l)(ha:IdsOf x a)(hb:IdsOf y b){k:Nat}(m:k<l.length)(g:zP l a b k=true):ScFit x y (kH l k):=by
 have X:=h.lx;have Y:=h.ly;have Q:=dP _ _ _ 0 0 0 h.sc;have u:=MR _ _ _ 0 0 0 h.sc;have hq:=CP _ _ _ _ _ h.eq;have r:=MS _ _ _ _ _ h.eq;have K:=h.ok;obtain⟨c,p⟩:∃c,c=K3 l k:=⟨_,rfl⟩
 obtain⟨g1,T,g3,U,g5,g6,g7,g8⟩:=Q k m;have W:=K.get k m;rw[<-p]at g1 T g3 U g5 g6 g7 g8 W;unfold N1 at g1 T g3 U;have i:eH 0 l (k+1)=c.Old+c.OldLen:=by rw[mS,<-p];rfl
 have j:lG 0 l (k+1)=c.New+c.NewLen:=by rw[mT,<-p];rfl
 obtain⟨E,E',H,I,V,ac,ad,J⟩:∃E E':Int,sub x (c.Old+c.OldLen) E=sub y (c.New+c.NewLen) E'/\E-(c.Old+c.OldLen)=E'-(c.New+c.NewLen)/\E<=x.length/\E'<=y.length/\(c.Old+c.OldLen<E)/\(k+1<l.length->E=(K3 l (k+1)).Old/\E'=(K3 l (k+1)).New/\c.Old+c.OldLen+1<E):=by
  by_cases B:k+1=l.length
  ·rw[<-B,i,j]at u r;refine⟨x.length,y.length,r,by omega,by omega,by omega,?_,fun q=>absurd B (by omega)⟩;unfold zP at g;rw[<-p]at g;split at g
   ·have:=(A0 g).1.1;rw[ha.len]at this;omega
   ·split at g
    ·have:=(A0 g).1.1;rw[hb.len]at this;omega
    ·cases g
  ·have B:k+1<l.length:=by omega
   obtain⟨M,F,P,G,f5,f6,f7,S⟩:=Q (k+1) B;have f9:=hq (k+1) B;have ab:=K.get (k+1) B;rw[i,j]at f6 f9;rw[i]at f7;unfold N1 at F G;have z:c.Old+c.OldLen+1<(K3 l (k+1)).Old:=by
    unfold zP at g;rw[<-p]at g;split at g
    ·have:=(A0 g).2;rw[<-p]at this;omega
    ·split at g
     ·have:=(A0 g).2;rw[<-p]at this;omega
     ·cases g
   exact⟨_,_,f9,by omega,by omega,by omega,by omega,fun _=>⟨rfl,rfl,z⟩⟩
 have hv:∃v,x[c.Old.toNat]?=some v/\y[c.New.toNat]?=some v:=by
  obtain⟨v,C,v2⟩:=MW (t:=0) H (by omega) (by omega) (by omega) I (by omega);simp only[Int.natCast_zero,Int.add_zero]at C v2;unfold zP at g;rw[<-p]at g;split at g
  ·rename_i Z;have:=(A0 g).1.2;rw[Z,Int.add_zero]at v2;refine⟨v,?_,v2⟩;have l1:c.Old.toNat<a.length:=by rw[ha.len];omega
   have l2:(c.Old+c.OldLen).toNat<a.length:=by rw[ha.len];omega
   have L:x[c.Old.toNat]?=some x[c.Old.toNat]:=C29 (by omega);have R:a[c.Old.toNat]?=some (atI a c.Old):=by unfold atI;rw[C33,C29 l1];rfl
   have D:a[(c.Old+c.OldLen).toNat]?=some (atI a (c.Old+c.OldLen)):=by unfold atI;rw[C33,C29 l2];rfl
   rw[<-this]at D;have:=ha.inj _ _ _ _ _ L C R D;rw[L,this]
  ·split at g
   ·rename_i _ Z;have:=(A0 g).1.2;rw[Z,Int.add_zero]at C;refine⟨v,C,?_⟩;have l1:c.New.toNat<b.length:=by rw[hb.len];omega
    have l2:(c.New+c.NewLen).toNat<b.length:=by rw[hb.len];omega
    have L:y[c.New.toNat]?=some y[c.New.toNat]:=C29 (by omega);have R:b[c.New.toNat]?=some (atI b c.New):=by unfold atI;rw[C33,C29 l1];rfl
    have D:b[(c.New+c.NewLen).toNat]?=some (atI b (c.New+c.NewLen)):=by unfold atI;rw[C33,C29 l2];rfl
    rw[<-this]at D;have:=hb.inj _ _ _ _ _ L v2 R D;rw[L,this]
   ·cases g
 obtain⟨v,C,v2⟩:=hv;have s:0<=eH 0 l k/\0<=lG 0 l k:=by
  cases k with
  | zero=>simp[eH,lG]
  | succ k =>
   obtain⟨M,F,P,G,_⟩:=Q k (by omega);unfold N1 at M F P G;rw[mS,mT];unfold lF MQ;omega
 have A:sub x (c.Old+c.OldLen+1) E=sub y (c.New+c.NewLen+1) E':=by
  have:=mU (e:=E-(c.Old+c.OldLen)-1) H (by omega) (by omega) (by omega) (by omega) I;rw[show E-(E-(c.Old+c.OldLen)-1)=c.Old+c.OldLen+1 by omega,show E'-(E-(c.Old+c.OldLen)-1)=c.New+c.NewLen+1 by omega]at this;exact this
 refine⟨X,Y,ZN _ _ _ 0 0 0 (fun q n=>?_) ?_,ZO _ _ _ 0 0 (fun q n=>?_) ?_⟩
 ·rw[bA]at n;rw[oD l m,tU l m,tV l m];by_cases e:q=k
  ·rw[A5 e,A6 (show ¬q=k+1 by omega),e,<-p];unfold N1;simp only[vY];refine⟨by omega,T,by omega,U,g5,by omega,by omega,fun _=>by omega⟩
  ·rw[A6 e];obtain⟨M,F,P,G,f5,f6,f7,S⟩:=Q q n;refine⟨M,F,P,G,f5,?_,?_,?_⟩
   ·by_cases f:q=k+1
    ·rw[A5 f];omega
    ·rw[A6 f];omega
   ·by_cases f:q=k+1
    ·rw[A5 f];have:=S (by omega);omega
    ·rw[A6 f];omega
   ·intro h0;by_cases f:q=k+1
    ·rw[A5 f,f,i];have:=(J (by omega))
     omega
    ·rw[A6 f];have:=S h0;omega
 ·rw[bA,tU l m,tV l m];by_cases f:l.length=k+1
  ·rw[A5 f,f,i,j];rw[f,i,j]at u;have h1:E<=x.length:=V;omega
  ·rw[A6 f];omega
 ·rw[bA]at n;rw[oD l m,tU l m,tV l m];by_cases e:q=k
  ·rw[A5 e,A6 (show ¬q=k+1 by omega),e,<-p];simp only[vY,Int.add_zero];have:=hq k m;rw[<-p]at this;rw[QX s.1 g7 C,QX s.2 (by omega) v2,this]
  ·rw[A6 e];by_cases f:q=k+1
   ·rw[A5 f];subst f;obtain⟨q1,q2,_⟩:=J n;rw[i,j,<-q1,<-q2];exact A
   ·rw[A6 f,Int.add_zero,Int.add_zero];exact hq q n
 ·rw[bA,tU l m,tV l m];by_cases f:l.length=k+1
  ·rw[A5 f];rw[f,i,j]at r u ⊢;have:=mU (e:=x.length-(c.Old+c.OldLen)-1) r (by omega) (by omega) (by omega) (by omega) (by omega);rw[show (x.length:Int)-(x.length-(c.Old+c.OldLen)-1)=c.Old+c.OldLen+1 by omega,show (y.length:Int)-(x.length-(c.Old+c.OldLen)-1)=c.New+c.NewLen+1 by omega]at this;exact this
  ·rw[A6 f,Int.add_zero,Int.add_zero];exact r
section
variable {x y:List Str}{a b:List Int} (ha:IdsOf x a) (hb:IdsOf y b)
include ha hb
end
structure Made12 (on nn a b:Str) (l:List Change) (ctx:Int):Prop where
 chk:tQ ⟨on,nn,x4 l (B6 a) (B6 b) ctx⟩=0
 wr:(ZJ ⟨on,nn,x4 l (B6 a) (B6 b) ctx⟩).length<=16777216
 fit:PFit ⟨on,nn,x4 l (B6 a) (B6 b) ctx⟩
 rg:∀h∈x4 l (B6 a) (B6 b) ctx,(-4611686018427387904<=h.Old/\h.Old<=4611686018427387904)/\(-4611686018427387904<=h.New/\h.New<=4611686018427387904)
 sz:szP (x4 l (B6 a) (B6 b) ctx)<=268435456
def ChainH(x y:List Str)(i j:Int):List PatchHunk->Prop
 | []=>sub x i x.length=sub y j y.length/\0<=i/\0<=j/\i<=x.length/\j<=y.length
 | h::r=>(sub x i h.Old=sub y j h.New/\G4 h.Lines 43=sub x h.Old (h.Old+iR h)/\G4 h.Lines 45=sub y h.New (h.New+iT h))/\(0<=i/\0<=j/\i<=h.Old/\j<=h.New/\h.Old+iR h<=x.length/\h.New+iT h<=y.length)/\ChainH x y (h.Old+iR h) (h.New+iT h) r
theorem ScFit.chain{x y:List Str}{l:List Change}(h:ScFit x y l){c:Int}(n:0<=c):∀(hs:List Hunk) (a:Nat),GrOk l x.length c a hs l.length ->
  ∀(i j e:Int),i=eH 0 l a+e->j=lG 0 l a+e->0<=e->e<=c->(a=0->e=0)->i<=x.length->j<=y.length->ChainH x y i j (hs.map (j7 l x y))
 | [],a,f,i,j,e,hi,hj,he,_,_,hix,hjy=>by
  have f:a=l.length:=f;have v:=MS _ _ _ _ _ h.eq;have o:=MR _ _ _ 0 0 0 h.sc;obtain⟨q,r,G,I⟩:=h.nn a (by omega);rw[<-f]at v o;refine⟨?_,by omega,by omega,hix,hjy⟩;have:=mU (e:=x.length-i) v q r (by omega) (by omega) (by omega);rw[show (x.length:Int)-(x.length-i)=i by omega,show (y.length:Int)-(x.length-i)=j by omega]at this;exact this
 | hk::hs,a,⟨b,hab,ho,hE,f⟩,i,j,e,hi,hj,he,hec,he0,hix,hjy=>by
  have hb:=f.le;have k:b<l.length->opens l c b:=by
   intro B;cases hs with
   | nil=>exact absurd f (by show ¬b=l.length;omega)
   | cons A C=>obtain⟨_,_,p,_⟩:=f;exact p
  obtain⟨w1,J,T,U,V⟩:=h.after n hb k (by omega);obtain⟨Q,R,S⟩:=h.before n (show a<l.length by omega) ho;have H:=h.hunk n hab hb ho k;rw[<-hE]at H;obtain⟨P,t⟩:∃P,P=j7 l x y hk:=⟨_,rfl⟩
  rw[<-t]at H;have D:=ScFit.chain h n hs b f (P.Old+iR P) (P.New+iT P) (eB l x.length c b) H.oe H.ne w1 J (by omega) H.ox H.ny;obtain⟨k1,⟨k2,E⟩,k3,⟨k4,F⟩,k5,k6,k7,k8⟩:=dP _ _ _ _ _ _ h.sc a (show a<l.length by omega);have K:=H.old;have A:=H.new;have L:=H.o0;have M:=H.n0;have u:e+eA l c a<=(K3 l a).Old-eH 0 l a:=by
   by_cases s:a=0
   ·have:=he0 s;omega
   ·have:=oB ho s;omega
  obtain⟨q,r,G,I⟩:=h.nn a (by omega);have g:i<=P.Old/\j<=P.New/\P.Old-i=P.New-j/\0<=i/\0<=j:=by omega
  have m:=CP _ _ _ _ _ h.eq a (show a<l.length by omega);have z:=mU (e:=(K3 l a).Old-i) m q r (by omega) (by omega) (by omega);rw[show (K3 l a).Old-((K3 l a).Old-i)=i by omega,show (K3 l a).New-((K3 l a).Old-i)=j by omega]at z;have t2:=CQ (e:=P.Old-i) z (by omega) (by omega) (by omega) (by omega) (by omega);rw[show i+(P.Old-i)=P.Old by omega,show j+(P.Old-i)=P.New by omega]at t2;rw[C39,<-t];exact⟨⟨t2,H.ol,H.nl⟩,⟨by omega,by omega,g.1,g.2.1,H.ox,H.ny⟩,D⟩
theorem kI:∀(y:List Str),(∀s∈y,K0 s=true)->R7 y=true->mL y=true
 | [],_,_=>rfl
 | s::r,h,he=>by
  simp only[R7,C30]at he;simp only[mL,C30];exact⟨⟨h s (List.mem_cons_self ..),he.1⟩,kI r (fun t a=>h t (List.mem_cons_of_mem _ a)) he.2⟩
def u5(c:UInt8):Bool:=decide (48<=c.toNat/\c.toNat<=57)
def M2(s:Str):Str:=s.takeWhile u5
def fO(a:Str):Nat:=a.foldl (fun n c=>10*n+(c.toNat-48)) 0
def j8(s:Str):Option (Nat×Nat) :=
 if M2 s=[]\/(s.head?=some 48/\1<(M2 s).length)\/2147483647<fO (M2 s) then none else some (fO (M2 s),(M2 s).length)
theorem IK(a:Str)(c:UInt8):fO (a++[c])=10*fO a+(c.toNat-48):=by
 unfold fO;rw[C78];rfl
theorem cD(k:Nat)(h:k<10):(UInt8.ofNat (48+k)).toNat=48+k:=by
 rw[UInt8.toNat_ofNat'];omega
theorem rC(u:Nat):(∀c∈Lib.decDigits u,u5 c=true)/\fO (Lib.decDigits u)=u/\Lib.decDigits u≠[]/\((Lib.decDigits u).head?=some 48->u=0)/\(1<(Lib.decDigits u).length->10<=u):=by
 induction u using Nat.strongRecOn with
 | _ u r =>
  rw[Lib.decDigits];split
  ·rename_i h;refine⟨?_,?_,by simp,?_,by simp⟩
   ·intro c b;simp only[C36,C66,or_false]at b;subst b;unfold u5;rw[cD u h];simp;omega
   ·unfold fO;simp only[C68,List.foldl_nil];rw[cD u h];omega
   ·intro i;simp only[List.head?_cons,Option.some.injEq]at i;have:=congrArg UInt8.toNat i;rw[cD u h]at this;have e:(48:UInt8).toNat=48:=rfl;omega
  ·rename_i h;obtain⟨i,m,p,q,s⟩:=r (u / 10) (by omega);have k:u % 10<10:=Nat.mod_lt _ (by omega);refine⟨?_,?_,by simp,?_,fun _=>by omega⟩
   ·intro c b;rcases C37.1 b with b | b
    ·exact i c b
    ·simp only[C36,C66,or_false]at b;subst b;unfold u5;rw[cD _ k];simp;omega
   ·rw[IK,m,cD _ k];omega
   ·intro f;rw[List.head?_append]at f;cases j:(Lib.decDigits (u / 10)).head? with
    | none=>exact absurd (List.head?_eq_none_iff.1 j) p
    | some x =>
     rw[j]at f;have f:x=48:=by simpa using f
     have:=q (by rw[j,f]);omega
theorem B51{a t:Str}(h:∀c∈a,u5 c=true)(b:∀c,t.head?=some c->u5 c=false):M2 (a++t)=a:=by
 unfold M2;rw[List.takeWhile_append_of_pos h];cases t with
 | nil=>simp
 | cons c r=>rw[List.takeWhile_cons,b c rfl];simp
theorem zQ{n:Int}(a:0<=n)(b:n<=2147483647):J4 n=Lib.decDigits n.toNat:=by
 unfold J4 Lib.itoa;rw[A6 (by omega),A6 (by omega)]
theorem oE{n:Int}{t:Str}(j:0<=n)(k:n<=2147483647)(s:∀c,t.head?=some c->u5 c=false):j8 (J4 n++t)=some (n.toNat,(J4 n).length):=by
 rw[zQ j k];obtain⟨m,o,b,p,q⟩:=rC n.toNat
 have e:=B51 m s;unfold j8;rw[e,o];rw[A6];rintro (h | ⟨h,i⟩ | h)
 ·exact b h
 ·have r:(Lib.decDigits n.toNat).head?=some 48:=by
   rw[List.head?_append]at h;cases f:(Lib.decDigits n.toNat).head? with
   | none=>exact absurd (List.head?_eq_none_iff.1 f) b
   | some x=>rw[f]at h;simpa using h
  have:=p r;have:=q i;omega
 ·omega
def vZ(s:Str)(a c:Nat)(e:Nat):Option (Int×Int×Nat) :=
 if J3 (if 0<c then (a:Int)-1 else a) c=s.take e then some ((if 0<c then (a:Int)-1 else a),(c:Int),e) else none
def bO(s:Str):Option (Int×Int×Nat) :=
 match j8 s with
 | none=>none
 | some (a,k)=>if s[k]?=some 44 then (match j8 (s.drop (k+1)) with | none=>none | some (c,k2)=>vZ s a c (k+1+k2)) else vZ s a 1 k
theorem wA{s:Str}{a c e:Nat}{st:Int}(b:st=if 0<c then (a:Int)-1 else a)(h:J3 st c=s.take e):vZ s a c e=some (st,(c:Int),e):=by
 unfold vZ;rw[<-b,A5 h]
theorem A72{a n:Int}{t:Str}(A:0<=a)(C:0<=n)(B:a<=2147483647)(D:n<=2147483647-a)(v:∀c,t.head?=some c->u5 c=false/\c≠44):bO (J3 a n++t)=some (a,n,(J3 a n).length):=by
 have f:J3 a n=if n=0 then J4 a++[44,48] else if n=1 then J4 (a+1) else J4 (a+1)++[44]++J4 n:=by
  unfold J3;rw[A6 (by omega)]
 have m:J4 0=[48]:=by rw[zQ (by omega) (by omega)];rw[Lib.decDigits];rfl
 have i:u5 44=false:=by decide
 have j:(J3 a n++t).take (J3 a n).length=J3 a n:=List.take_left;by_cases q:n=0
 ·subst q;rw[A5 rfl]at f;have w:J3 a 0++t=J4 a++(44::(J4 0++t)):=by rw[f,m];simp
  have x:(J4 a++(44::(J4 0++t))).drop ((J4 a).length+1)=J4 0++t:=by rw[List.drop_append];simp
  have y:(J4 a).length+1+(J4 0).length=(J3 a 0).length:=by rw[f,m];simp
  rw[w]at j ⊢;unfold bO;rw[oE A B (by intro c b;cases b;exact i)];dsimp only;rw[A5 (by simp),x,oE (n:=0) (by omega) (by omega) (fun c b=>(v c b).1)];dsimp only;rw[y];exact wA (st:=a) (c:=0) (by simp;omega) j.symm
 ·by_cases u:n=1
  ·subst u;rw[A6 (by omega),A5 rfl]at f;rw[f]at j ⊢;unfold bO;rw[oE (by omega) (by omega) (fun c b=>(v c b).1)];dsimp only;rw[A6]
   ·exact wA (st:=a) (c:=1) (by simp;omega) (by rw[j];exact f)
   ·rw[C52 (Nat.le_refl _),C86];cases t with
    | nil=>simp
    | cons c r=>simp;exact fun e=>(v c rfl).2 e
  ·rw[A6 q,A6 u]at f;have w:J3 a n++t=J4 (a+1)++(44::(J4 n++t)):=by rw[f];simp
   have x:(J4 (a+1)++(44::(J4 n++t))).drop ((J4 (a+1)).length+1)=J4 n++t:=by rw[List.drop_append];simp
   have y:(J4 (a+1)).length+1+(J4 n).length=(J3 a n).length:=by rw[f];simp;omega
   have z:((n.toNat:Nat):Int)=n:=by omega
   rw[w]at j ⊢;unfold bO;rw[oE (by omega) (by omega) (by intro c b;cases b;exact i)];dsimp only;rw[A5 (by simp),x,oE (n:=n) (by omega) (by omega) (fun c b=>(v c b).1)];dsimp only;rw[y];have:=wA (s:=J4 (a+1)++(44::(J4 n++t))) (a:=(a+1).toNat) (c:=n.toNat) (e:=(J3 a n).length) (st:=a) (by rw[A5 (by omega)];omega) (by rw[j,z]);rw[this,z]
def octV(a b c:UInt8):Option UInt8 :=
 if ((((((a.toNat<48\/55<a.toNat)\/b.toNat<48)\/55<b.toNat)\/c.toNat<48)\/55<c.toNat)\/256<=64*(a.toNat-48)+8*(b.toNat-48)+(c.toNat-48)) then none
 else some (UInt8.ofNat (64*(a.toNat-48)+8*(b.toNat-48)+(c.toNat-48)))
def lE:Str->Option (UInt8×Nat)
 | []=>none
 | d::r=>if d.toNat=34\/d.toNat=92 then some (d,1) else if d.toNat=110 then some (10,1) else if d.toNat=116 then some (9,1) else match r with
  | e::f::_=>(octV d e f).map fun x=>(x,3)
  | _=>none
theorem IL{s:Str}{x:UInt8}{k:Nat}(h:lE s=some (x,k)):1<=k/\k<=s.length:=by
 cases s with
 | nil=>cases h
 | cons d r =>
  simp only[lE]at h;split at h
  ·cases h;simp
  ·split at h
   ·cases h;simp
   ·split at h
    ·cases h;simp
    ·split at h
     ·simp only[Option.map_eq_some_iff]at h;obtain⟨_,_,h⟩:=h;cases h;simp
     ·cases h
def M8(s:Str)(i:Nat)(b:Str):Option (Str×Nat) :=
 if h:i<s.length then
  if s[i].toNat=34 then some (b,i+1)
  else if s[i].toNat=92 then (match c:lE (s.drop (i+1)) with | none=>none | some (x,k)=>M8 s (i+1+k) (b++[x]))
  else M8 s (i+1) (b++[s[i]])
 else none
termination_by s.length-i
decreasing_by all_goals omega
def p5(s:Str):Option (Str×Nat) :=
 if s.head?=some 34 then (match M8 s 1 [] with | none=>none | some (w,k)=>if I5 w=s.take k then some (w,k) else none)
 else if s.takeWhile K8=[] then none else some (s.takeWhile K8,(s.takeWhile K8).length)
theorem WS{s:Str}(n:Nat):∀{i:Nat} {a w:Str} {k:Nat},s.length-i<=n->M8 s i a=some (w,k)->i<k/\k<=s.length/\w.length+i<=a.length+k:=by
 induction n with
 | zero =>
  intro i a w k e h;rw[M8,dif_neg (by omega)]at h;cases h
 | succ n b =>
  intro i a w k e h;rw[M8]at h;split at h
  ·rename_i f;split at h
   ·cases h;omega
   ·split at h
    ·split at h
     ·cases h
     ·rename_i x g d;have c:=IL d;rw[C45]at c;have:=b (by omega) h;rw[C32]at this;simp only[C34,C43]at this;omega
    ·have:=b (by omega) h;rw[C32]at this;simp only[C34,C43]at this;omega
  ·cases h
theorem B52(c:UInt8)(b r f:Str):M8 (b++(X6 c++(r++[34]))) b.length f=M8 (b++(X6 c++(r++[34]))) (b.length+(X6 c).length) (f++[c]):=by
 have F:=c.toNat_lt;have j:∀(d:UInt8) (l:Str),(b++d::l)[b.length]?=some d:=by intro d l;rw[C52 (Nat.le_refl _),C86];rfl
 have m:∀(d:UInt8) (l:Str),(b++d::l).drop (b.length+1)=l:=by intro d l;rw[List.drop_append];simp
 have s:(92:UInt8).toNat=92:=rfl;have v:(110:UInt8).toNat=110:=rfl;have w:(116:UInt8).toNat=116:=rfl;have i:∀(l:Str) (k:Nat),lE (l++(r++[34]))=some (c,k)->k=l.length->M8 (b++((92::l)++(r++[34]))) b.length f=M8 (b++((92::l)++(r++[34]))) (b.length+(92::l).length) (f++[c]):=by
  intro l k C B;subst B;rw[M8,dif_pos (by simp)];have u:(b++((92::l)++(r++[34])))[b.length]'(by simp)=92:=by
   have:=j 92 (l++(r++[34]));rw[C29 (by simp)]at this;exact Option.some.inj this
  rw[u,A6 (by decide),A5 s];have A:(b++((92::l)++(r++[34]))).drop (b.length+1)=l++(r++[34]):=m 92 _;split
  ·rename_i q;rw[A,C]at q;cases q
  ·rename_i x G q;rw[A,C]at q;cases q;rw[C34,show b.length+1+l.length=b.length+(l.length+1) by omega]
 unfold X6;split
 ·rename_i h;refine i [c] 1 ?_ rfl;simp only[C57,C58,lE];rw[A5 h]
 ·rename_i h;split
  ·rename_i y;refine i [110] 1 ?_ rfl;simp only[C57,C58,lE];rw[A6 (by decide),A5 (by decide)];have:c=10:=UInt8.toNat_inj.1 y;rw[this]
  ·rename_i y;split
   ·rename_i z;refine i [116] 1 ?_ rfl;simp only[C57,C58,lE];rw[A6 (by decide),A6 (by decide),A5 (by decide)];have:c=9:=UInt8.toNat_inj.1 z;rw[this]
   ·rename_i z;split
    ·rename_i E;refine i (ID c) 3 ?_ (by rw[gA];rfl);rw[gA];have t:∀k,k<8->(UInt8.ofNat (48+k)).toNat=48+k:=fun k B=>cD k (by omega);have D:=t (c.toNat / 64) (by omega);have t2:=t (c.toNat / 8 % 8) (by omega);have t3:=t (c.toNat % 8) (by omega);simp only[C57,C58,lE];rw[D,A6 (by omega),A6 (by omega),A6 (by omega)];unfold octV;rw[D,t2,t3,A6 (by omega)];simp only[Option.map_some,Option.some.injEq,Prod.mk.injEq,and_true];apply UInt8.toNat_inj.1;rw[UInt8.toNat_ofNat'];omega
    ·rw[M8,dif_pos (by simp)];have u:(b++([c]++(r++[34])))[b.length]'(by simp)=c:=by
      have:=j c (r++[34]);rw[C29 (by simp)]at this;exact Option.some.inj this
     rw[u,A6 (by omega),A6 (by omega)];rfl
theorem word_go(w:Str):∀(b d:Str),M8 (b++((w.map X6).flatten++[34])) b.length d=some (d++w,(b++((w.map X6).flatten++[34])).length):=by
 induction w with
 | nil =>
  intro b d;rw[M8,dif_pos (by simp)];have j:(b++((([]:Str).map X6).flatten++[34]))[b.length]'(by simp)=34:=by simp
  rw[j,A5 (show (34:UInt8).toNat=34 from rfl)];simp
 | cons c r k =>
  intro b d;have e:(((c::r).map X6).flatten++[34])=X6 c++((r.map X6).flatten++[34]):=by simp
  rw[e,B52];have i:=k (b++X6 c) (d++[c]);rw[C42,C32,C42 d]at i;exact i
theorem pV{p:UInt8->Bool}:∀{w:Str},w.all p=true->w.takeWhile p=w
 | [],_=>rfl
 | c::r,h=>by
  simp only[List.all_cons,C30]at h;rw[List.takeWhile_cons,A5 h.1,pV h.2]
theorem WT(w:Str):p5 (I5 w)=some (w,(I5 w).length):=by
 unfold p5;by_cases h:w≠[]/\w.all K8=true
 ·have e:I5 w=w:=by unfold I5;rw[A5 h]
  rw[e];have d:w.takeWhile K8=w:=by
   exact pV h.2
  rw[d,A6,A6 h.1];intro b;cases w with
  | nil=>exact h.1 rfl
  | cons c r =>
   simp only[List.head?_cons,Option.some.injEq]at b;subst b;have:=h.2;simp only[List.all_cons,C30]at this;exact absurd this.1 (by decide)
 ·have e:I5 w=[34]++((w.map X6).flatten++[34]):=by unfold I5;rw[A6 h];rfl
  have d:=word_go w [34] [];rw[<-e]at d;rw[A5 (by rw[e];rfl),show M8 (I5 w) 1 []=_ from d];dsimp only;rw[C58,C44,A5 rfl]
structure Cmd where
 Kind:Int
 A:Int
 B:Int
 C:Int
 Dense:Bool
 Text:Str
 deriving DecidableEq
abbrev cmdC(c:Cmd):List Cell:=[.v (.int .i64 c.Kind),.v (.int .i64 c.A),.v (.int .i64 c.B),.v (.int .i64 c.C),.v (.bool c.Dense),.v (.string ⟨c.Text.toArray⟩)]
abbrev kJ(c:Cmd):PV:=.agg (cmdC c)
abbrev oR(c:Cmd):List TC:=[.p (.v (.int .i64 c.Kind)),.p (.v (.int .i64 c.A)),.p (.v (.int .i64 c.B)),.p (.v (.int .i64 c.C)),.p (.v (.bool c.Dense)),.p (.v (.string ⟨c.Text.toArray⟩))]
abbrev cmdV(c:Cmd):List Value:=[.int .i64 c.Kind,.int .i64 c.A,.int .i64 c.B,.int .i64 c.C,.bool c.Dense,.string ⟨c.Text.toArray⟩]
def rD:Cmd:=⟨0,0,0,0,false,[]⟩
structure CForm where
 word:Str
 kind:Int
 dense:Bool
 b:Bool
 c:Bool
 text:Bool
 deriving DecidableEq
def DB:CForm->Nat->Cell:=fun f j=>match j with
 | 0=>.v (.string ⟨f.word.toArray⟩)
 | 1=>.v (.int .i64 f.kind)
 | 2=>.v (.bool f.dense)
 | 3=>.v (.bool f.b)
 | 4=>.v (.bool f.c)
 | _=>.v (.bool f.text)
abbrev formT(f:CForm):List TC:=[.p (.v (.string ⟨f.word.toArray⟩)),.p (.v (.int .i64 f.kind)),.p (.v (.bool f.dense)),.p (.v (.bool f.b)),.p (.v (.bool f.c)),.p (.v (.bool f.text))]
abbrev pForm(f:CForm):PV:=.agg [.v (.string ⟨f.word.toArray⟩),.v (.int .i64 f.kind),.v (.bool f.dense),.v (.bool f.b),.v (.bool f.c),.v (.bool f.text)]
abbrev pForms(l:List CForm):PV:=.one (.list CForm 6 DB l)
def formsL:List CForm:=[⟨[108,111,103],1,false,false,false,false⟩,⟨[115,104,111,119],2,false,false,false,false⟩,⟨[100,105,102,102],3,false,true,true,true⟩,⟨[99,111,109,98,105,110,101,100],4,false,false,true,true⟩,
 ⟨[99,99],4,true,false,true,true⟩,⟨[108,105,116,101,114,97,108],5,false,false,false,true⟩,⟨[114,101,103,101,120],6,false,false,false,true⟩,⟨[108,105,110,101,115],7,false,true,true,true⟩,⟨[98,108,97,109,101],8,false,false,false,true⟩,⟨[98,97,115,101,115],9,false,true,false,false⟩]
def i8(f:CForm):List Nat:=1::((if f.b=true then [2] else [])++(if f.c=true then [3] else []))
def Cmd.get(c:Cmd)(o:Nat):Int:=match o with
 | 1=>c.A
 | 2=>c.B
 | _=>c.C
def Cmd.put(c:Cmd)(o:Nat)(n:Int):Cmd:=match o with
 | 1=>{ c with A:=n }
 | 2=>{ c with B:=n }
 | _=>{ c with C:=n }
theorem ZR{f:CForm}{o:Nat}(h:o∈i8 f):o=1\/o=2\/o=3:=by
 unfold i8 at h;rcases C36.1 h with h | h
 ·exact .inl h
 rcases C37.1 h with h | h
 ·split at h
  ·exact .inr (.inl (List.mem_singleton.1 h))
  ·cases h
 ·split at h
  ·exact .inr (.inr (List.mem_singleton.1 h))
  ·cases h
theorem RC(f:CForm):(i8 f).length<=3:=by unfold i8;cases f.b<;>cases f.c<;>decide
theorem B53{c:Cmd}{o:Nat}(h:o=1\/o=2\/o=3):(oR c)[o]?=some (.p (.v (.int .i64 (c.get o)))):=by
 rcases h with rfl | rfl | rfl<;>rfl
theorem RD{c:Cmd}{o:Nat}(n:Int)(h:o=1\/o=2\/o=3):setTs (oR c) o [.p (.v (.int .i64 n))]=oR (c.put o n):=by
 rcases h with rfl | rfl | rfl<;>rfl
theorem MX(c:Cmd)(o:Nat)(n:Int):(c.put o n).Text=c.Text:=by
 unfold Cmd.put;split<;>rfl
def kK:List Nat->Cmd->Str->Option (Cmd×Str)
 | [],c,s=>some (c,s)
 | o::r,c,s=>if c.get o<0\/2147483647<c.get o then none else kK r (c.put o 0) (s++([32]++J4 (c.get o)))
def wC(f:CForm)(c:Cmd)(s:Str):Str×Int:=if c=⟨f.kind,0,0,0,f.dense,[]⟩ then (s,0) else ([],2)
def zR(f:CForm)(c:Cmd):Str×Int:=match kK (i8 f) c f.word with
 | none=>([],2)
 | some (c',s)=>if f.text=true then wC f { c' with Text:=[] } (s++([32]++I5 c'.Text)) else wC f c' s
def RE(c:Cmd):List CForm->Str×Int
 | []=>([],2)
 | f::r=>if f.kind≠c.Kind\/f.dense≠c.Dense then RE c r else zR f c
def rE(c:Cmd):Str×Int:=RE c formsL
theorem A73{f:CForm}(h:f∈formsL):f.word.length<=8:=by
 unfold formsL at h;simp only[C36,C66,or_false]at h;rcases h with h | h | h | h | h | h | h | h | h | h<;>(rw[h];decide)
def kL:List Nat->List Str->Cmd->Option Cmd
 | o::r,w::ws,c=>match j8 w with
  | some (n,e)=>if e=w.length then kL r ws (c.put o n) else none
  | none=>none
 | _,_,c=>some c
def fG(f:CForm)(a:List Str):Option Cmd :=
 let b:Cmd:=⟨f.kind,0,0,0,f.dense,[]⟩
 if f.text=true then
  if a=[] then none
  else if a.length-1≠(i8 f).length then none
  else kL (i8 f) a.dropLast { b with Text:=a.getLastD [] }
 else if a.length≠(i8 f).length then none
 else kL (i8 f) a b
def kM(w:Str)(a:List Str):List CForm->Option Cmd
 | []=>none
 | f::r=>if f.word≠w then kM w a r else match fG f a with
  | some c=>some c
  | none=>kM w a r
def Q1:List Str->Str
 | []=>[]
 | [w]=>w
 | w::x::r=>w++32::Q1 (x::r)
theorem DC(w:Str):Q1 [w]=w:=rfl
theorem iU(w x:Str)(r:List Str):Q1 (w::x::r)=w++32::Q1 (x::r):=rfl
theorem A74{w:Str}(b:w.all K8=true)(r:List Str):(Q1 (w::r)).takeWhile K8=w:=by
 have ha:∀c∈w,K8 c=true:=List.all_eq_true.1 b;cases r with
 | nil =>
  rw[DC];have:=List.takeWhile_append_of_pos (l₂:=[]) ha;simpa using this
 | cons x r =>
  rw[iU,List.takeWhile_append_of_pos ha,List.takeWhile_cons];rw[show K8 32=false by rfl];simp
theorem RF(w:Str)(r:List Str):w.length<=(Q1 (w::r)).length:=by
 cases r with
 | nil=>exact Nat.le_refl _
 | cons x r=>rw[iU,C32];omega
theorem RG{w:Str}(a:w≠[])(b:w.all K8=true):I5 w=w:=by unfold I5;rw[A5 ⟨a,b⟩]
def cE(s:Str):Option (List Str):=if s=[] then some [] else if ended s=true then some ((B6 s).map List.dropLast) else none
theorem kN(a b d:Str)(h:(10:UInt8)∉a):G3 d (a++10::b)=(d++a++[10])::G3 [] b:=by
 induction a generalizing d with
 | nil=>simp[G3]
 | cons c r f =>
  simp only[C36,not_or]at h;rw[C57,u9,A6 (fun e=>h.1 e.symm),f _ h.2];simp
def T9(b:List Str):Str:=(b.map fun t=>t++[10]).flatten
theorem tW:∀(a:List Str),(∀t∈a,(10:UInt8)∉t)->B6 (T9 a)=a.map fun t=>t++[10]
 | [],_=>rfl
 | t::r,h=>by
  have b:=tW r (fun x d=>h x (by simp[d]));have e:T9 (t::r)=t++10::T9 r:=by unfold T9;simp
  have c:=kN t (T9 r) [] (h t (by simp));unfold B6 at b ⊢;rw[e,c,b];simp
theorem iV(a:Str):ended (a++[10])=true:=by unfold ended;simp
theorem A75{s:Str}:ended s=true↔∃a,s=a++[10]:=by
 constructor
 ·intro h;unfold ended at h;have h:s.getLast?=some 10:=by simpa using h
  obtain⟨c,b⟩:=List.getLast?_eq_some_iff.1 h;exact⟨c,b⟩
 ·rintro⟨a,rfl⟩;exact iV a
theorem MY{a:List Str}(h:a≠[]):ended (T9 a)=true:=by
 have b:=List.dropLast_concat_getLast h;rw[A75];refine⟨T9 a.dropLast++a.getLast h,?_⟩
 conv=>lhs;rw[<-b]
 unfold T9;simp
theorem RH(a:List Str)(h:∀t∈a,(10:UInt8)∉t):cE (T9 a)=some a:=by
 unfold cE;by_cases c:a=[]
 ·subst c;rfl
 ·have b:=MY c;have d:T9 a≠[]:=fun e=>by rw[e]at b;cases b
  rw[A6 d,A5 b,tW a h,C71]
  congr 1
  conv=>rhs;rw[<-List.map_id a]
  refine List.map_congr_left fun t _=>?_;simp
def noNl:Str:=[92,32,78,111,32,110,101,119,108,105,110,101,32,97,116,32,101,110,100,32,111,102,32,102,105,108,101]
theorem B54:markS=[10]++noNl++[10]:=rfl
theorem DD(a b:List Str):T9 (a++b)=T9 a++T9 b:=by unfold T9;simp
theorem mX(a:Str)(b:List Str):T9 (a::b)=a++[10]++T9 b:=by unfold T9;simp
theorem A76{n:Int}(a:0<=n)(b:n<=2147483647):(10:UInt8)∉J4 n:=by
 rw[zQ a b];intro h;have:=(rC n.toNat).1 _ h;revert this;decide
theorem B55(n:Int):(10:UInt8)∉J4 n:=by
 by_cases h:n<0\/2147483647<n
 ·unfold J4;rw[A5 h];simp
 ·exact A76 (by omega) (by omega)
theorem B56(c:UInt8):(10:UInt8)∉X6 c:=by
 have b:=c.toNat_lt;have a:∀{d:UInt8},d.toNat≠10->(10:UInt8)≠d:=fun h e=>h (by rw[<-e];rfl);unfold X6;split
 ·rename_i h;simp only[C36,C66,or_false,not_or];exact⟨by decide,a (by omega)⟩
 ·split
  ·decide
  ·split
   ·decide
   ·split
    ·rw[gA];have t:∀k,k<8->(10:UInt8)≠UInt8.ofNat (48+k):=fun k f=>a (by rw[cD k (by omega)];omega);simp only[C36,C66,or_false,not_or];exact⟨by decide,t _ (by omega),t _ (by omega),t _ (by omega)⟩
    ·simp only[C36,C66,or_false];exact a (by omega)
theorem WU(w:Str):(10:UInt8)∉I5 w:=by
 unfold I5;split
 ·rename_i h;intro a;have:=List.all_eq_true.1 h.2 _ a;revert this;decide
 ·simp only[C36,C37,List.mem_flatten,C54,C66,or_false,not_or,not_exists,not_and];refine⟨by decide,?_,by decide⟩;rintro l ⟨x,_,rfl⟩;exact B56 x
def mY(t:Str):Str:=if ended t=true then t.dropLast else t
theorem check12_good{p:Patch}(h:tQ p=0):vW p.Hunks=true:=by
 unfold tQ at h;split at h
 ·cases h
 ·split at h
  ·cases h
  ·rename_i a;simpa using a
theorem cmd_eq(a b:Cmd):KK (cmdV a) (cmdV b)=decide (a=b):=by
 obtain⟨c,a2,a3,a4,a5,d⟩:=a;obtain⟨e,f,g,h,i,j⟩:=b;rw[Bool.eq_iff_iff,decide_eq_true_eq];simp only[cmdV,KK,eqV,ByteArray.toList_mk,Bool.and_true,C30,beq_iff_eq,Cmd.mk.injEq]
def DE(f:CForm)(a:List Str):Cmd:=if f.text=true then ⟨f.kind,0,0,0,f.dense,a.getLastD []⟩ else ⟨f.kind,0,0,0,f.dense,[]⟩
def pW(f:CForm)(a:List Str):List Str:=if f.text=true then a.dropLast else a
theorem RI(f:CForm)(a:List Str):fG f a=if f.text=true/\a=[] then none else if (pW f a).length≠(i8 f).length then none else kL (i8 f) (pW f a) (DE f a):=by
 unfold fG pW DE;by_cases b:f.text=true
 ·by_cases c:a=[]
  ·simp only[A5 b,A5 c,A5 (And.intro b c)]
  ·simp only[A5 b,A6 c,A6 (fun h:f.text=true/\a=[]=>c h.2),List.length_dropLast]
 ·simp only[A6 b,A6 (fun h:f.text=true/\a=[]=>b h.1)]
theorem A77{f:CForm}{a:List Str}{w:Str}(h:w∈pW f a):w∈a:=by
 unfold pW at h;split at h
 ·exact (List.dropLast_sublist a).subset h
 ·exact h
theorem A78(f:CForm)(a:List Str):(pW f a).length<=a.length:=by
 unfold pW;split
 ·rw[List.length_dropLast];omega
 ·exact Nat.le_refl _
def rF(a:List Str):Cmd×Int:=match a with
 | []=>(rD,320)
 | w::r=>match kM w r formsL with
  | some c=>(c,0)
  | none=>(rD,320)
theorem DF:∀(a:List Str),(∀w∈a,w≠[])->a.length<=(Q1 a).length
 | [],_=>Nat.zero_le _
 | [w],h=>by
  have:=List.length_pos_iff.2 (h w (by simp));rw[DC,List.length_singleton];exact this
 | w::x::r,h=>by
  have:=DF (x::r) fun v b=>h v (by simp[b]);rw[iU];simp only[C32,C34]at this ⊢;omega
theorem A79(w t:Str)(c:UInt8):(w++c::t).drop (w.length+1)=t:=by
 rw[show w++c::t=(w++[c])++t by simp];exact List.drop_left' (by simp)
def zS:Str:=[99,111,109,109,105,116]
def gG(ns:List Int)(i:Nat):Str:=zS++((ns.take i).map fun n=>32::J4 n).flatten
def kO(ns:List Int):Str:=gG ns ns.length
theorem DG{ns:List Int}{i:Nat}{n:Int}(h:ns[i]?=some n):gG ns (i+1)=gG ns i++([32]++J4 n):=by
 unfold gG;rw[List.take_add_one,h,C42];simp
theorem oF(ns:List Int):∀i,(gG ns i).length<=6+11*i
 | 0=>by simp[gG,zS]
 | i+1=>by
  have:=oF ns i;by_cases h:i<ns.length
  ·rw[DG (C29 h)];have:=X7 ns[i];simp only[C32,C34,C43];omega
  ·have:gG ns (i+1)=gG ns i:=by
    unfold gG;rw[C65 (by omega),C65 (by omega)]
   rw[this];omega
def gH(L:List (List Int))(i:Nat):Str:=((L.take i).map fun ns=>kO ns++[10]).flatten
def repOf(L:List (List Int)):Str:=gH L L.length
theorem DH{L:List (List Int)}{i:Nat}{ns:List Int}(h:L[i]?=some ns):gH L (i+1)=gH L i++(kO ns++[10]):=by
 unfold gH;rw[List.take_add_one,h];simp
theorem IM{L:List (List Int)}{m:Nat}(b:∀ns∈L,ns.length<=m):∀i,(gH L i).length<=(7+11*m)*i
 | 0=>by simp[gH]
 | i+1=>by
  have:=IM b i;by_cases h:i<L.length
  ·rw[DH (C29 h)];have a:=oF L[i] L[i].length;have c:=b L[i] (C35 h);have d:(kO L[i]).length<=6+11*m:=by
    unfold kO;have:11*L[i].length<=11*m:=Nat.mul_le_mul_left _ c;omega
   simp only[C32,C34,C43];rw[Nat.mul_succ];omega
  ·have a:gH L (i+1)=gH L i:=by
    unfold gH;rw[C65 (by omega),C65 (by omega)]
   rw[a,Nat.mul_succ];omega
theorem A80(L:List (List Int)):gH L 0=[]:=by simp[gH]
def tX(e:Int):Str:=[101,114,114,111,114,32]++J4 e++[10]
def iA(a b:Str)(e:Int):Str:=[62,32]++a++[10]++(if e≠0 then tX e else b)
theorem oG{α:Type}[DecidableEq α]:∀{l m:List α},l.Nodup->(∀x∈l,x∈m)->l.length<=m.length
 | [],_,_,_=>Nat.zero_le _
 | x::l,m,h,hs=>by
  have b:=List.nodup_cons.1 h;have d:l.length<=(m.erase x).length:=oG b.2 fun y c=>by
   have a:y≠x:=fun e=>b.1 (e ▸ c);exact (List.mem_erase_of_ne a).2 (hs y (by simp[c]))
  have f:=List.length_erase_of_mem (hs x (by simp));have i:0<m.length:=List.length_pos_of_mem (hs x (by simp));rw[C34];omega
theorem dG{l:List Int}{n:Nat}(h:l.Nodup)(b:∀x∈l,0<=x/\x<n):l.length<=n:=by
 have:=oG (m:=(List.range n).map fun i:Nat=>(i:Int)) h fun x c=>by
  have:=b x c;exact C54.2 ⟨x.toNat,C40.2 (by omega),by omega⟩
 simpa using this
theorem B57{l:List Int}{n:Nat}(h:l.Nodup)(d:∀x∈l,0<=x/\x<n)(f:n<=l.length)(c:Nat)(e:c<n):(c:Int)∈l:=by
 apply Classical.byContradiction;intro b;have:=dG (l:=(c:Int)::l) (n:=n) (List.nodup_cons.2 ⟨b,h⟩) fun x a=>by
  rcases C36.1 a with rfl | a
  ·exact⟨by omega,by omega⟩
  ·exact d x a
 rw[C34]at this;omega
theorem rG{q r:Nat->Bool}(x:Nat)(d:∀y,r y=(q y&&decide (y≠x))):∀{L:List Nat},L.Nodup->L.countP q=L.countP r+(if x∈L/\q x=true then 1 else 0)
 | [],_=>by simp
 | y :: L,h=>by
  have c:=List.nodup_cons.1 h;have g:=rG x d c.2;rw[List.countP_cons,List.countP_cons,g,d y];by_cases e:y=x
  ·subst e;have:¬(y∈L/\q y=true):=fun e=>c.1 e.1;rw[A6 this];cases j:q y<;>simp
  ·have f:(x∈y::L/\q x=true)↔(x∈L/\q x=true):=by
    rw[C36];constructor
    ·rintro⟨a | a,b⟩
     ·exact absurd a.symm e
     ·exact⟨a,b⟩
    ·exact fun ⟨a,b⟩=>⟨.inr a,b⟩
   rw[show (if x∈y::L/\q x=true then 1 else 0)=(if x∈L/\q x=true then 1 else 0) by simp only[f]];simp only[e,ne_eq,not_false_eq_true,decide_true,Bool.and_true];omega
abbrev Graph:=List Commit
def D8(g:Graph)(c:Nat):List Int:=(g[c]?.map (·.Parents)).getD []
def mZ(n:Int)(a:List Int):List Int->Bool
 | []=>true
 | p::r=>decide (0<=p/\p<n/\p∉a)&&mZ n (a++[p]) r
def related(g:Graph):Bool:=g.all fun c=>mZ g.length [] c.Parents
theorem RJ{n:Int}:∀{ps a:List Int},mZ n a ps=true->(∀p∈ps,0<=p/\p<n/\p∉a)/\ps.Nodup
 | [],_,_=>⟨(fun _ h=>by cases h),List.nodup_nil⟩
 | p::r,a,h=>by
  unfold mZ at h;rw[C30,decide_eq_true_eq]at h;obtain⟨c,d⟩:=RJ h.2;refine⟨fun q b=>?_,List.nodup_cons.2 ⟨fun e=>(c p e).2.2 (by simp),d⟩⟩;rcases C36.1 b with rfl | b
  ·exact h.1
  ·have:=c q b;exact⟨this.1,this.2.1,fun hs=>this.2.2 (by simp[hs])⟩
theorem dH{g:Graph}{c:Nat}(b:c<g.length):D8 g c=g[c].Parents:=by unfold D8;rw[C29 b];rfl
theorem tY{g:Graph}{c:Nat}(a:¬c<g.length):D8 g c=[]:=by unfold D8;rw[C49 (by omega)];rfl
theorem N3{g:Graph}(h:related g=true)(c:Nat):(∀p∈D8 g c,0<=p/\p<g.length)/\(D8 g c).Nodup:=by
 by_cases a:c<g.length
 ·rw[dH a];have:=RJ (List.all_eq_true.1 h g[c] (C35 a));exact⟨fun p b=>⟨(this.1 p b).1,(this.1 p b).2.1⟩,this.2⟩
 ·rw[tY a];exact⟨(fun _ h=>by cases h),List.nodup_nil⟩
inductive Reaches (g:Graph):Nat->Nat->Prop
 | one {c p:Nat} (h:(p:Int)∈D8 g c):Reaches g c p
 | more {c d p:Nat} (h:Reaches g c d) (h2:(p:Int)∈D8 g d):Reaches g c p
theorem Reaches.trans{g:Graph}{a b c:Nat}(h:Reaches g a b)(d:Reaches g b c):Reaches g a c:=by
 induction d with
 | one d=>exact .more h d
 | more _ f i=>exact .more i f
theorem Reaches.lt{g:Graph}(i:related g=true){a b:Nat}(h:Reaches g a b):a<g.length/\b<g.length:=by
 have d:∀{c p:Nat},(p:Int)∈D8 g c->c<g.length/\p<g.length:=fun {c p} h=>by
  refine⟨?_,by have:=(N3 i c).1 p h;omega⟩;apply Classical.byContradiction;intro f;rw[tY f]at h;cases h
 induction h with
 | one h=>exact d h
 | more _ e j=>exact⟨j.1,(d e).2⟩
def cF(ps:List Int)(l:List Bool):List Bool:=ps.foldl (fun l p=>l.set p.toNat true) l
def F9(l:List Bool)(c:Nat):Bool:=l[c]?.getD false
def bP(g:Graph)(l:List Bool)(c:Nat):List Bool:=if F9 l c=true then cF (D8 g c) l else l
def rH(g:Graph)(l:List Bool):List Bool:=(List.range g.length).foldl (bP g) l
def dI(g:Graph):Nat->List Bool->List Bool
 | 0,l=>l
 | k+1,l=>dI g k (rH g l)
def N0(g:Graph)(a:List Int):List Bool:=dI g g.length (cF a (List.replicate g.length false))
theorem fH{l:List Bool}{i c:Nat}:F9 (l.set i true) c=(F9 l c||decide (i=c/\c<l.length)):=by
 unfold F9;rw[C84];split
 ·rename_i e;subst e;split
  ·rename_i h;simp[h]
  ·rename_i h;simp[h,C49 (Nat.le_of_not_lt h)]
 ·rename_i h;simp[h]
theorem y5:∀(ps:List Int) (l:List Bool),(cF ps l).length=l.length
 | [],_=>rfl
 | p::r,l=>by show (cF r (l.set p.toNat true)).length=_;rw[y5 r];simp
theorem aC:∀(ps:List Int) (l:List Bool) (c:Nat),F9 (cF ps l) c=(F9 l c||(decide (c<l.length)&&ps.any fun p=>decide (p.toNat=c)))
 | [],l,c=>by simp[cF]
 | p::r,l,c=>by
  show F9 (cF r (l.set p.toNat true)) c=_;rw[aC r,fH,C73,List.any_cons];by_cases a:p.toNat=c<;>by_cases b:c<l.length<;>simp[a,b]
theorem A81(g:Graph)(l:List Bool)(c:Nat):(bP g l c).length=l.length:=by unfold bP;split<;>simp[y5]
theorem IN(g:Graph):∀(a:List Nat) (l:List Bool),(a.foldl (bP g) l).length=l.length
 | [],_=>rfl
 | c::r,l=>by rw[C68,IN g r,A81]
theorem DI(g:Graph)(l:List Bool):(rH g l).length=l.length:=IN g _ l
theorem wD(g:Graph):∀(k:Nat) (l:List Bool),(dI g k l).length=l.length
 | 0,_=>rfl
 | k+1,l=>by rw[dI,wD g k,DI]
theorem gI(g:Graph)(s:List Int):(N0 g s).length=g.length:=by unfold N0;rw[wD,y5];simp
def LeB(a b:List Bool):Prop:=a.length=b.length/\∀c,F9 a c=true->F9 b c=true
theorem LeB.refl(a:List Bool):LeB a a:=⟨rfl,fun _ h=>h⟩
theorem LeB.trans{a b c:List Bool}(h:LeB a b)(d:LeB b c):LeB a c:=⟨h.1.trans d.1,fun x e=>d.2 x (h.2 x e)⟩
theorem oH:∀{a b:List Bool},LeB a b->a=b\/a.countP id<b.countP id
 | [],[],_=>.inl rfl
 | [],_::_,h=>by have:=h.1;simp at this
 | _::_,[],h=>by have:=h.1;simp at this
 | x::a,y::b,h=>by
  have e:LeB a b:=⟨by simpa using h.1,fun c f=>h.2 (c+1) f⟩
  have d:x=true->y=true:=fun g=>by simpa[F9] using h.2 0 (by simpa[F9] using g)
  rw[List.countP_cons,List.countP_cons];rcases oH e with rfl | h3
  ·cases x<;>cases y
   ·exact .inl rfl
   ·right;simp
   ·exact absurd (d rfl) (by decide)
   ·exact .inl rfl
  ·right;cases x<;>cases y
   ·simpa using h3
   ·simp;omega
   ·exact absurd (d rfl) (by decide)
   ·simpa using h3
theorem RK{a b:List Bool}(h:LeB a b)(d:LeB b a):a=b:=by
 rcases oH h with e | e
 ·exact e
 ·rcases oH d with c | c
  ·exact c.symm
  ·omega
theorem IP(ps:List Int)(l:List Bool):LeB l (cF ps l):=⟨(y5 ps l).symm,fun c h=>by rw[aC,h];rfl⟩
theorem RL(g:Graph)(l:List Bool)(c:Nat):LeB l (bP g l c):=by unfold bP;split<;>first | exact IP _ _ | exact LeB.refl _
theorem tZ(g:Graph):∀(b:List Nat) (l:List Bool),LeB l (b.foldl (bP g) l)
 | [],l=>LeB.refl l
 | c::r,l=>(RL g l c).trans (tZ g r _)
theorem RM(g:Graph):∀(k:Nat) (l:List Bool),LeB l (dI g k l)
 | 0,l=>LeB.refl l
 | k+1,l=>(tZ g _ l).trans (RM g k _)
def gJ(g:Graph)(l:List Bool):Prop:=∀c,F9 l c=true->∀p∈D8 g c,F9 l p.toNat=true
theorem RN(g:Graph):∀(a:List Nat) (l:List Bool),a.foldl (bP g) l=l->∀c∈a,bP g l c=l
 | [],_,_,_,h=>by cases h
 | d::r,l,h,c,hc=>by
  rw[C68]at h;have b:bP g l d=l:=RK (by have:=tZ g r (bP g l d);rw[h]at this;exact this) (RL g l d);rcases C36.1 hc with rfl | hc
  ·exact b
  ·rw[b]at h;exact RN g r l h c hc
theorem MZ{l:List Bool}{c:Nat}(h:F9 l c=true):c<l.length:=by
 unfold F9 at h;apply Classical.byContradiction;intro a;rw[C49 (by omega)]at h;cases h
theorem WV{g:Graph}{l:List Bool}(f:related g=true)(e:l.length=g.length)(h:rH g l=l):gJ g l:=by
 intro c b p d;have a:=RN g _ l h c (C40.2 (by rw[<-e];exact MZ b));unfold bP at a;rw[A5 b]at a;rw[<-a,aC];have:=(N3 f c).1 p d;rw[C64];right;rw[C30,decide_eq_true_eq,List.any_eq_true];exact⟨by omega,p,d,by simp⟩
theorem uA{g:Graph}{l:List Bool}(h:gJ g l):rH g l=l:=by
 have d:∀(b:List Nat),b.foldl (bP g) l=l:=by
  intro b;induction b with
  | nil=>rfl
  | cons c r i =>
   rw[C68];have:bP g l c=l:=by
    unfold bP;split
    ·rename_i f;refine RK ⟨y5 _ _,fun x a=>?_⟩ (IP _ _);rw[aC,C64,C30,List.any_eq_true]at a;rcases a with a | ⟨_,p,hp,e⟩
     ·exact a
     ·rw[<-A0 e];exact h c f p hp
    ·rfl
   rw[this];exact i
 exact d _
theorem yC{g:Graph}(b:related g=true):∀(k:Nat) {l:List Bool},l.length=g.length->gJ g (dI g k l)\/l.countP id+k<=(dI g k l).countP id
 | 0,l,_=>.inr (by simp[dI])
 | k+1,l,hl=>by
  rw[dI];rcases oH (tZ g (List.range g.length) l) with e | e
  ·left;have a:gJ g l:=WV b hl e.symm;rw[show rH g l=l from e.symm];have:∀k,dI g k l=l:=fun k=>by
    induction k with
    | zero=>rfl
    | succ k d=>rw[dI,uA a];exact d
   rw[this];exact a
  ·rcases yC b k (l:=rH g l) (by rw[DI];exact hl) with h | h
   ·exact .inl h
   ·right;have e:l.countP id<(rH g l).countP id:=e;omega
theorem NA{g:Graph}(j:related g=true)(s:List Int)(hs:∀f∈s,0<=f/\f<g.length):gJ g (N0 g s):=by
 by_cases i:s=[]
 ·subst i;have:gJ g (List.replicate g.length false):=fun c d=>by
   unfold F9 at d;rw[List.getElem?_replicate]at d;split at d<;>cases d
  have e:∀k,dI g k (List.replicate g.length false)=List.replicate g.length false:=fun k=>by
   induction k with
   | zero=>rfl
   | succ k m=>rw[dI,uA this];exact m
  unfold N0;show gJ g (dI g g.length (List.replicate g.length false));rw[e];exact this
 ·rcases yC j g.length (l:=cF s (List.replicate g.length false)) (by rw[y5];simp) with h | h
  ·exact h
  ·obtain⟨f,r,rfl⟩:=List.exists_cons_of_ne_nil i;have q:(dI g g.length (cF (f::r) (List.replicate g.length false))).countP id<=g.length:=by
    have:=List.countP_le_length (p:=id) (l:=dI g g.length (cF (f::r) (List.replicate g.length false)));rw[wD,y5,C74]at this;exact this
   have v:0<(cF (f::r) (List.replicate g.length false)).countP id:=by
    rw[List.countP_pos_iff];have w:=hs f (by simp);have a:F9 (cF (f::r) (List.replicate g.length false)) f.toNat=true:=by
     rw[aC,C64];right;rw[C30,decide_eq_true_eq,List.any_eq_true];exact⟨by rw[C74];omega,f,by simp,by simp⟩
    have b:=MZ a;unfold F9 at a;rw[C29 b]at a;exact⟨_,C35 b,a⟩
   omega
theorem oI{g:Graph}(w:related g=true){s:List Int}(hs:∀f∈s,0<=f/\f<g.length)(x:Nat):F9 (N0 g s) x=true↔∃f:Nat,(f:Int)∈s/\(f=x\/Reaches g f x):=by
 constructor
 ·let Good:List Bool->Prop:=fun l=>∀x,F9 l x=true->∃f:Nat,(f:Int)∈s/\(f=x\/Reaches g f x)
  have y:∀l c,Good l->Good (bP g l c):=by
   intro l c h x a;unfold bP at a;split at a
   ·rename_i A;rw[aC,C64,C30,List.any_eq_true]at a;rcases a with a | ⟨_,p,hp,e⟩
    ·exact h x a
    ·have e:=A0 e;have B:=(N3 w c).1 p hp;have u:((x:Nat):Int)=p:=by omega
     obtain⟨f,q,b⟩:=h c A;refine⟨f,q,.inr ?_⟩;rcases b with rfl | b
     ·exact .one (by rw[u];exact hp)
     ·exact .more b (by rw[u];exact hp)
   ·exact h x a
  have b:∀(t:List Nat) l,Good l->Good (t.foldl (bP g) l):=by
   intro t;induction t with
   | nil=>exact fun l h=>h
   | cons c r j=>exact fun l h=>j _ (y l c h)
  have z:∀k l,Good l->Good (dI g k l):=by
   intro k;induction k with
   | zero=>exact fun l h=>h
   | succ k j=>exact fun l h=>j _ (b _ l h)
  refine z _ _ (fun x a=>?_) x;rw[aC,C64,C30,List.any_eq_true]at a;rcases a with a | ⟨_,p,hp,e⟩
  ·unfold F9 at a;rw[List.getElem?_replicate]at a;split at a<;>cases a
  ·have e:=A0 e;have:=hs p hp;exact⟨x,by rw[show ((x:Nat):Int)=p by omega];exact hp,.inl rfl⟩
 ·rintro⟨f,q,h⟩;have d:=NA w s hs;have v:F9 (N0 g s) f=true:=by
   refine (RM g _ _).2 f ?_;rw[aC,C64];right;rw[C30,decide_eq_true_eq,List.any_eq_true];have:=hs f q;exact⟨by rw[C74];omega,f,q,by simp⟩
  rcases h with rfl | h
  ·exact v
  ·induction h with
   | one h=>exact d _ v _ h
   | more _ b j=>exact d _ j _ b
def cyclic(g:Graph):Bool:=(List.range g.length).any fun c=>decide (D8 g c≠[])&&F9 (N0 g (D8 g c)) c
theorem kP{g:Graph}(k:related g=true):cyclic g=true↔∃c,Reaches g c c:=by
 unfold cyclic;rw[List.any_eq_true];constructor
 ·rintro⟨c,_,h⟩;rw[C30]at h;obtain⟨f,j,d⟩:=(oI k (N3 k c).1 c).1 h.2;rcases d with rfl | d
  ·exact⟨f,.one j⟩
  ·exact⟨c,(Reaches.one j).trans d⟩
 ·rintro⟨c,h⟩;have q:=(h.lt k).1;refine⟨c,C40.2 q,?_⟩;have u:∀{a b:Nat},Reaches g a b->∃f:Nat,(f:Int)∈D8 g a/\(f=b\/Reaches g f b):=by
   intro a b h;induction h with
   | one h=>exact⟨_,h,.inl rfl⟩
   | more _ d v =>
    obtain⟨f,j,p⟩:=v;refine⟨f,j,.inr ?_⟩;rcases p with rfl | p
    ·exact .one d
    ·exact .more p d
  obtain⟨f,j,d⟩:=u h;rw[C30,decide_eq_true_eq];exact⟨(fun e=>by rw[e]at j;cases j),(oI k (N3 k c).1 c).2 ⟨f,j,d⟩⟩
def uB(g:Graph)(ex:List Int)(p:Nat):Nat:=(List.range g.length).countP fun c:Nat=>decide ((c:Int)∉ex/\(p:Int)∈D8 g c)
theorem IQ{g:Graph}{ex:List Int}{x p:Nat}(f:(x:Int)∉ex)(a:x<g.length):uB g ex p=uB g (ex++[(x:Int)]) p+(if (p:Int)∈D8 g x then 1 else 0):=by
 unfold uB;rw[rG (q:=fun c:Nat=>decide ((c:Int)∉ex/\(p:Int)∈D8 g c)) (r:=fun c:Nat=>decide ((c:Int)∉ex++[(x:Int)]/\(p:Int)∈D8 g c)) x (fun y=>?_) List.nodup_range]
 ·congr 1
  simp only[C40,a,true_and,decide_eq_true_eq,f,not_false_eq_true]
 ·simp only[C37,List.mem_singleton];by_cases b:(y:Int)∈ex<;>by_cases d:y=x<;>by_cases e:(p:Int)∈D8 g y<;>simp[b,d,e]<;>omega
theorem B58{g:Graph}{ex:List Int}{p:Nat}(h:0<uB g ex p):∃c,c<g.length/\(c:Int)∉ex/\(p:Int)∈D8 g c:=by
 unfold uB at h;rw[List.countP_pos_iff]at h;obtain⟨c,a,h⟩:=h;have:=A0 h;exact⟨c,C40.1 a,this.1,this.2⟩
theorem IR{g:Graph}{ex:List Int}{p:Nat}(h:uB g ex p=0){c:Nat}(a:c<g.length)(d:(p:Int)∈D8 g c):(c:Int)∈ex:=by
 apply Classical.byContradiction;intro b;have:0<uB g ex p:=by
  unfold uB;rw[List.countP_pos_iff];exact⟨c,C40.2 a,by simp[b,d]⟩
 omega
structure KInv (g:Graph) (k i:Nat) (ch:List Int) (out:List Int):Prop where
 len:ch.length=g.length
 nodup:out.Nodup
 rng:∀x∈out,0<=x/\x<g.length
 cnt:∀p,p<g.length->ch[p]?.getD 0+(if (p:Int)∈(D8 g (out.getD k 0).toNat).take i then 1 else 0)=uB g (out.take k) p
 zero:∀p,p<g.length->((p:Int)∈out↔ch[p]?.getD 0=0)
 kids:∀j (h:j<out.length) (c:Nat),out[j]∈D8 g c->(c:Int)∈out.take j
theorem minimal{R:Nat->Nat->Prop}(i:∀a b c,R a b->R b c->R a c)(g:∀a,¬R a a):∀{M:List Nat},M≠[]->∃m∈M,∀x∈M,¬R x m
 | [],h=>absurd rfl h
 | [a],_=>⟨a,by simp,fun x d=>by rw[List.mem_singleton.1 d];exact g a⟩
 | a::b::r,_=>by
  obtain⟨m,j,h⟩:=minimal i g (M:=b::r) (by simp);by_cases e:R a m
  ·refine⟨a,by simp,fun x d f=>?_⟩;rcases C36.1 d with rfl | d
   ·exact g _ f
   ·exact h x d (i _ _ _ f e)
  ·refine⟨m,List.mem_cons_of_mem _ j,fun x d=>?_⟩;rcases C36.1 d with rfl | d
   ·exact e
   ·exact h x d
theorem KInv.done{g:Graph}(O:related g=true){Q b:List Int}(h:KInv g b.length 0 Q b):(decide (b.length<g.length))=cyclic g:=by
 cases z:cyclic g
 ·rw[decide_eq_false_iff_not];intro A;have N:∀c,¬Reaches g c c:=fun c d=>by rw[(kP O).2 ⟨c,d⟩]at z;cases z
  let M:=(List.range g.length).filter fun c:Nat=>decide ((c:Int)∉b);have W:M≠[]:=by
   intro e;have w:∀c,c<g.length->(c:Int)∈b:=fun c z=>by
    apply Classical.byContradiction;intro U;have:c∈M:=List.mem_filter.2 ⟨C40.2 z,by simp[U]⟩;rw[e]at this;cases this
   have:=oG (l:=(List.range g.length).map fun i:Nat=>(i:Int)) (m:=b) ((List.nodup_range).map (fun i:Nat=>(i:Int)) (fun _ _ L e=>L (Int.ofNat.inj e))) fun x Y=>by
    obtain⟨i,k,rfl⟩:=C54.1 Y;exact w i (C40.1 k)
   rw[C55,C72]at this;omega
  obtain⟨m,X,B⟩:=minimal (R:=Reaches g) (fun _ _ _ F C=>F.trans C) N W;obtain⟨q,u⟩:=List.mem_filter.1 X;have q:=C40.1 q;have u:=A0 u;have F:=h.cnt m q;have C:¬Q[m]?.getD 0=0:=fun e=>u ((h.zero m q).2 e);rw[C44,List.take_zero,A6 (by simp),Int.add_zero]at F;obtain⟨c,G,H,I⟩:=B58 (g:=g) (ex:=b) (p:=m) (by omega);exact B c (List.mem_filter.2 ⟨C40.2 G,by simp[H]⟩) (.one I)
 ·rw[decide_eq_true_eq];obtain⟨c,d⟩:=(kP O).1 z;apply Classical.byContradiction;intro U;have K:=B57 h.nodup h.rng (by omega) c (d.lt O).1;have P:∀{x y:Nat},Reaches g x y->∀j (s:j<b.length),b[j]=(y:Int)->∃i,∃k:i<b.length,i<j/\b[i]=(x:Int):=by
   have one:∀{x y:Nat},(y:Int)∈D8 g x->∀j (s:j<b.length),b[j]=(y:Int)->∃i,∃k:i<b.length,i<j/\b[i]=(x:Int):=by
    intro x y v j s e;have:=h.kids j s x (by rw[e];exact v);obtain⟨i,k,S⟩:=List.getElem_of_mem this;rw[C41]at k;rw[List.getElem_take]at S;exact⟨i,by omega,by omega,S⟩
   intro x y v;induction v with
   | one h=>exact one h
   | more _ C ih =>
    intro j s e;obtain⟨i,k,A,E⟩:=one C j s e;obtain⟨Z,J,T,V⟩:=ih i k E;exact⟨Z,J,by omega,V⟩
  obtain⟨j,s,e⟩:=List.getElem_of_mem K;obtain⟨i,k,A,E⟩:=P d j s e;have:=(List.getElem_inj (i:=i) (j:=j) (h₀:=k) (h₁:=s) h.nodup).1 (E.trans e.symm);omega
def N4(l:List Int)(p:Nat):Int:=l[p]?.getD 0
def bump(l:List Int)(p:Int):List Int:=l.set p.toNat (N4 l p.toNat+1)
def bB(l:List Int)(p:Int):List Int:=l.set p.toNat (N4 l p.toNat-1)
def Z3(ps:List Int)(l:List Int):List Int:=ps.foldl bump l
def O6(g:Graph)(i:Nat):List Int:=(g.take i).foldl (fun l c=>Z3 c.Parents l) (List.replicate g.length 0)
theorem gK{l:List Int}{i p:Nat}{v:Int}(h:i<l.length):N4 (l.set i v) p=if i=p then v else N4 l p:=by
 unfold N4;rw[C84];split
 ·rename_i e;subst e;simp[h]
 ·rfl
theorem nA:∀(ps:List Int) (l:List Int),(Z3 ps l).length=l.length
 | [],_=>rfl
 | p::r,l=>by show (Z3 r (bump l p)).length=_;rw[nA r];simp[bump]
theorem rI{n:Int}:∀{ps:List Int} {l:List Int},(∀p∈ps,0<=p/\p<l.length)->ps.Nodup->∀p:Nat,N4 (Z3 ps l) p=N4 l p+(if (p:Int)∈ps then 1 else 0)
 | [],l,_,_,p=>by simp[Z3]
 | q::r,l,h,b,p=>by
  show N4 (Z3 r (bump l q)) p=_;have f:=h q (by simp);have b:=List.nodup_cons.1 b;rw[rI (n:=n) (fun x d=>by have:=h x (by simp[d]);simpa[bump] using this) b.2 p];unfold bump;rw[gK (by omega)];by_cases e:q.toNat=p
  ·have a:(p:Int)=q:=by omega
   have c:¬(p:Int)∈r:=by rw[a];exact b.1
   rw[A5 e,A6 c,a,A5 (by simp),e];omega
  ·have a:((p:Int)∈q::r)↔(p:Int)∈r:=by
    rw[C36];exact⟨fun h=>h.resolve_left (by omega),.inr⟩
   rw[A6 e];simp only[a]
theorem eJ(g:Graph):∀i,(O6 g i).length=g.length:=by
 intro i;unfold O6;have b:∀(a:List Commit) (l:List Int),(a.foldl (fun l c=>Z3 c.Parents l) l).length=l.length:=by
  intro a;induction a with
  | nil=>intro l;rfl
  | cons c r d=>intro l;rw[C68,d,nA]
 rw[b];simp
theorem pX{g:Graph}{i:Nat}(a:i<g.length):O6 g (i+1)=Z3 (D8 g i) (O6 g i):=by
 unfold O6;rw[List.take_add_one,C29 a,Option.toList_some,C78,dH a];rfl
theorem nB{g:Graph}(b:related g=true)(p:Nat)(a:p<g.length):∀i,i<=g.length->N4 (O6 g i) p=((List.range i).countP fun c:Nat=>decide ((p:Int)∈D8 g c):Nat)
 | 0,_=>by
  unfold O6 N4;simp[List.getElem?_replicate,a]
 | i+1,hi=>by
  have hpr:=N3 b i;rw[pX (by omega),rI (n:=0) (fun q d=>by rw[eJ];exact hpr.1 q d) hpr.2,nB b p a i (by omega),C75,List.countP_append];by_cases h:(p:Int)∈D8 g i<;>simp[h]
theorem yD{g:Graph}(b:related g=true)(p:Nat)(a:p<g.length):N4 (O6 g g.length) p=uB g [] p:=by
 rw[nB b p a _ (Nat.le_refl _)];unfold uB;simp
def W4(b:List Int)(i:Nat):List Int:=((List.range i).filter fun c=>decide (N4 b c=0)).map fun c:Nat=>(c:Int)
theorem NB(a:List Int)(i:Nat):W4 a (i+1)=if N4 a i=0 then W4 a i++[(i:Int)] else W4 a i:=by
 unfold W4;rw[C75,C83,C50];by_cases h:N4 a i=0<;>simp[h]
theorem yE(a:List Int)(i p:Nat):(p:Int)∈W4 a i↔p<i/\N4 a p=0:=by
 unfold W4;rw[C54];constructor
 ·rintro⟨c,b,e⟩;have e:c=p:=Int.ofNat.inj e;subst e;rw[List.mem_filter,C40,decide_eq_true_eq]at b;exact b
 ·rintro⟨d,f⟩;exact⟨p,by rw[List.mem_filter,C40,decide_eq_true_eq];exact⟨d,f⟩,rfl⟩
theorem nC{b:List Int}{i:Nat}:∀x∈W4 b i,0<=x/\x<i:=by
 intro x a;unfold W4 at a;obtain⟨c,d,rfl⟩:=C54.1 a;have:=C40.1 (List.mem_filter.1 d).1;omega
theorem pY(c:List Int)(i:Nat):(W4 c i).Nodup:=by
 unfold W4;exact (List.nodup_range.filter _).map (fun i:Nat=>(i:Int)) fun _ _ b e=>b (Int.ofNat.inj e)
theorem RO(a:List Int)(i:Nat):(W4 a i).length<=i:=dG (pY a i) nC
theorem KInv.start{g:Graph}(l:related g=true):KInv g 0 0 (O6 g g.length) (W4 (O6 g g.length) g.length) where
 len:=eJ g _
 nodup:=pY _ _
 rng:=nC
 cnt:=fun p e=>by
  have:=yD l p e;unfold N4 at this;rw[this,List.take_zero,List.take_zero];simp
 zero:=fun p e=>by
  have:=yE (O6 g g.length) g.length p;rw[this];exact⟨fun h=>h.2,fun h=>⟨e,h⟩⟩
 kids:=fun j k c b=>by
  have f:=nC _ (C35 k);have i:=(yE (O6 g g.length) g.length ((W4 (O6 g g.length) g.length)[j]).toNat).1 (by rw[Int.toNat_of_nonneg f.1];exact C35 k);rw[yD l _ i.1]at i;have d:c<g.length:=by
   apply Classical.byContradiction;intro m;rw[tY m]at b;cases b
  have:=IR (g:=g) (ex:=[]) (p:=((W4 (O6 g g.length) g.length)[j]).toNat) (by omega) d (by rw[Int.toNat_of_nonneg f.1];exact b);cases this
theorem KInv.le{g:Graph}{k i:Nat}{b a:List Int}(h:KInv g k i b a):a.length<=g.length:=dG h.nodup h.rng
theorem dJ{α:Type}{l m:List α}{k:Nat}(h:k<=l.length):(l++m).take k=l.take k:=by rw[List.take_append_of_le_length h]
theorem RP{α:Type}{l m:List α}{k:Nat}{d:α}(h:k<l.length):(l++m).getD k d=l.getD k d:=by
 rw[C33,C33,C46 h]
theorem X1{α:Type}{l:List α}{i:Nat}{x:α}(h:i<l.length):x∈l.take (i+1)↔x∈l.take i\/x=l[i]:=by
 rw[List.take_add_one,C29 h,Option.toList_some,C37,List.mem_singleton]
theorem Z4{α:Type}{l:List α}(c:l.Nodup){i:Nat}(h:i<l.length):l[i]∉l.take i:=by
 intro b;obtain⟨j,a,e⟩:=List.getElem_of_mem b;rw[C41]at a;rw[List.getElem_take]at e;have:=(List.getElem_inj (i:=j) (j:=i) (h₀:=by omega) (h₁:=h) c).1 e;omega
theorem KInv.step{g:Graph}(Y:related g=true){k i:Nat}{f b:List Int}(h:KInv g k i f b)(E:k<b.length){c p:Nat}(K:b[k]=(c:Int))(G:i<(D8 g c).length)(H:(D8 g c)[i]=(p:Int)) :
  p<g.length/\1<=N4 f p/\N4 f p<=g.length/\KInv g k (i+1) (bB f p) (if N4 f p-1=0 then b++[(p:Int)] else b):=by
 have hpr:=N3 Y c;have hpm:(p:Int)∈D8 g c:=by rw[<-H];exact C35 G
 have m:p<g.length:=by have:=hpr.1 p hpm;omega
 have A:c<g.length:=by have:=h.rng b[k] (C35 E);omega
 have v:b.getD k 0=(c:Int):=by rw[C33,C29 E];exact K
 have P:(c:Int)∉b.take k:=by rw[<-K];exact Z4 h.nodup E
 have O:(p:Int)∉(D8 g c).take i:=by rw[<-H];exact Z4 hpr.2 G
 have S:=h.cnt p m;rw[v,C31,A6 O]at S;have T:=IQ (g:=g) (ex:=b.take k) (x:=c) (p:=p) P A;rw[A5 hpm]at T;have W:uB g (b.take k) p<=g.length:=by
  unfold uB;have:=List.countP_le_length (p:=fun c:Nat=>decide ((c:Int)∉b.take k/\(p:Int)∈D8 g c)) (l:=List.range g.length)
  rwa[C72]at this
 have V:N4 f p=f[p]?.getD 0:=rfl;have L:1<=N4 f p:=by omega
 have o:(p:Int)∉b:=fun s=>by have:=(h.zero p m).1 s;omega
 have F:∀q,N4 (bB f p) q=if p=q then N4 f p-1 else N4 f q:=fun q=>by
  unfold bB;rw[C31,gK (by rw[h.len];exact m)]
 refine⟨m,L,by omega,?_⟩;have w:(if N4 f p-1=0 then b++[(p:Int)] else b).take k=b.take k:=by split<;>first | exact dJ (by omega) | rfl
 have B:(if N4 f p-1=0 then b++[(p:Int)] else b).getD k 0=b.getD k 0:=by split<;>first | exact RP E | rfl
 refine⟨by unfold bB;rw[C73];exact h.len,?_,?_,?_,?_,?_⟩
 ·split
  ·exact List.nodup_append.2 ⟨h.nodup,by simp,fun x d y Z e=>by rw[List.mem_singleton.1 Z]at e;exact o (e ▸ d)⟩
  ·exact h.nodup
 ·intro x d;split at d
  ·rcases C37.1 d with d | d
   ·exact h.rng x d
   ·rw[List.mem_singleton.1 d];omega
  ·exact h.rng x d
 ·intro q Q;rw[w,B,v,C31];have I:=F q;have J:N4 (bB f p) q=(bB f p)[q]?.getD 0:=rfl;rw[<-J,I];by_cases e:p=q
  ·subst e;rw[A5 rfl,A5 ((X1 G).2 (.inr H.symm))];omega
  ·rw[A6 e];have z:=h.cnt q Q;rw[v,C31]at z;have U:((q:Int)∈(D8 g c).take (i+1))↔(q:Int)∈(D8 g c).take i:=by
    rw[X1 G,H];exact⟨fun h=>h.resolve_right (by omega),.inl⟩
   simp only[U];exact z
 ·intro q Q;have I:=F q;have J:N4 (bB f p) q=(bB f p)[q]?.getD 0:=rfl;rw[<-J,I];by_cases e:p=q
  ·subst e;rw[A5 rfl];split
   ·rename_i u;simp[u]
   ·rename_i u;exact⟨fun s=>absurd s o,fun e=>absurd e u⟩
  ·rw[A6 e];have z:=h.zero q Q;split
   ·rw[C37,List.mem_singleton];exact⟨fun s=>z.1 (s.resolve_right (by omega)),fun e=>.inl (z.2 e)⟩
   ·exact z
 ·intro j M x d;split at M
  ·rename_i u;simp only[u,if_true]at d ⊢;by_cases C:j<b.length
   ·rw[C82 C]at d;rw[dJ (by omega)];exact h.kids j C x d
   ·have N:j=b.length:=by rw[C32,List.length_singleton]at M;omega
    subst N;rw[C81 (Nat.le_refl _)]at d;simp only[C86,List.getElem_cons_zero]at d;have R:x<g.length:=by
     apply Classical.byContradiction;intro X;rw[tY X]at d;cases d
    have hz:uB g (b.take k++[(c:Int)]) p=0:=by omega
    have:=IR hz R d;rw[dJ (Nat.le_refl _),C44];rcases C37.1 this with s | s
    ·exact List.mem_of_mem_take s
    ·rw[List.mem_singleton.1 s,<-K];exact C35 E
  ·rename_i u;simp only[u,if_false]at d ⊢;exact h.kids j M x d
theorem KInv.next{g:Graph}{k:Nat}{m a:List Int}(d:k<a.length){c:Nat}(f:a[k]=(c:Int))(h:KInv g k (D8 g c).length m a):KInv g (k+1) 0 m a where
 len:=h.len
 nodup:=h.nodup
 rng:=h.rng
 cnt:=fun p r=>by
  have o:=h.cnt p r;have i:a.getD k 0=(c:Int):=by rw[C33,C29 d];exact f
  have b:c<g.length:=by have:=h.rng a[k] (C35 d);omega
  rw[i,C31,C44]at o;have q:=IQ (g:=g) (ex:=a.take k) (x:=c) (p:=p) (by rw[<-f];exact Z4 h.nodup d) b;have e:a.take (k+1)=a.take k++[(c:Int)]:=by rw[List.take_add_one,C29 d,Option.toList_some,f]
  rw[e,List.take_zero,A6 (by simp)];split at o
  ·rename_i j;rw[A5 j]at q;omega
  ·rename_i j;rw[A6 j]at q;omega
 zero:=h.zero
 kids:=h.kids
def p6:List Commit->Int
 | []=>0
 | c::r=>if K6 c.Files≠0 then K6 c.Files else p6 r
def bC(g:Graph):Bool:=decide (g.length<=300)&&!g.any fun c=>decide (c.Parents.length>32)
def uC(g:Graph):Bool:=g.any fun c=>decide (c.Date<0\/c.Date>2147483647)
def X8(g:Graph):Int:=if bC g=false then 1 else if related g=false then 230 else if cyclic g=true then 231 else if uC g=true then 3 else p6 g
theorem pZ:∀{g:List Commit},p6 g=0->∀c∈g,K6 c.Files=0
 | [],_,_,hc=>by cases hc
 | d::r,h,c,hc=>by
  unfold p6 at h;split at h
  ·rename_i a;exact absurd h a
  ·rename_i a;rcases C36.1 hc with rfl | hc
   ·simpa using a
   ·exact pZ h c hc
structure Valid (g:Graph):Prop where
 len:g.length<=300
 pars:∀c∈g,c.Parents.length<=32
 rel:related g=true
 acyc:∀c,¬Reaches g c c
 tree:∀c∈g,K6 c.Files=0
theorem DJ{g:Graph}(h:X8 g=0):Valid g:=by
 unfold X8 at h;split at h
 ·cases h
 ·rename_i a;split at h
  ·cases h
  ·rename_i d;split at h
   ·cases h
   ·rename_i e;split at h
    ·cases h
    ·have a:bC g=true:=by simpa using a
     unfold bC at a;rw[C30,decide_eq_true_eq]at a;have d:related g=true:=by simpa using d
     refine⟨a.1,fun c b=>?_,d,fun c b=>e ((kP d).2 ⟨c,b⟩),fun c b=>pZ h c b⟩;apply Classical.byContradiction;intro f;have:g.any (fun c=>decide (c.Parents.length>32))=true:=List.any_eq_true.2 ⟨c,b,by simp;omega⟩;rw[this]at a;cases a.2
structure CHunk where
 At:List Int
 Rows:List Row
 deriving DecidableEq
structure Comb where
 Path:Str
 Dense:Bool
 Parents:Int
 Hunks:List CHunk
 deriving DecidableEq
def M3:CHunk->Nat->Cell:=fun h j=>match j with
 | 0=>.list Int 1 E3 h.At
 | _=>.list Row 3 rowC h.Rows
abbrev NC(h:CHunk):PV:=.agg [.list Int 1 E3 h.At,.list Row 3 rowC h.Rows]
abbrev N5(c:Comb):PV:=.agg [.v (.string ⟨c.Path.toArray⟩),.v (.bool c.Dense),.v (.int .i64 c.Parents),.list CHunk 2 M3 c.Hunks]
def comb0:Comb:=⟨[],false,0,[]⟩
def dQ(n k:Nat):Int:=if k=n then -1 else k
def N2(rows:List Row)(n k:Nat):Int:=(L9 rows (dQ n k)).length
def F8(rows:List Row)(n:Nat):List Int:=(List.range (n+1)).map (N2 rows n)
def atS(n:Nat):Str:=List.replicate n 64
def eK(n k:Nat):UInt8:=if k=n then 43 else 45
def nD(n:Nat)(h:CHunk)(k:Nat):Str:=[32,eK n k]++J3 (h.At.getD k 0) (N2 h.Rows n k)
def Z5(n:Nat)(h:CHunk)(k:Nat):Str:=((List.range k).map (nD n h)).flatten
def p7(n:Nat)(h:CHunk):Str:=atS (n+1)++Z5 n h (n+1)++[32]++atS (n+1)
def gL(r:Row)(p:Nat):UInt8:=if Y4 r.Marks p=false then 32 else if r.Lost then 45 else 43
def R8(n:Nat)(r:Row):Str:=(List.range n).map (gL r)
def qA(n:Nat)(r:Row):List Str:=if ended r.Text=true then [R8 n r++r.Text.dropLast] else [R8 n r++r.Text,noNl]
def dX(n:Nat)(r:Row):List Str:=if ended r.Text=true then [R8 n r++r.Text] else [R8 n r++r.Text,markS]
def eL(n:Nat)(h:CHunk):List Str:=p7 n h::(h.Rows.map (qA n)).flatten
def j9(n:Nat)(h:CHunk):List Str:=(p7 n h++[10])::(h.Rows.map (dX n)).flatten
def ccS:Str:=[100,105,102,102,32,45,45,99,99,32]
def combS:Str:=[100,105,102,102,32,45,45,99,111,109,98,105,110,101,100,32]
def parS:Str:=[112,97,114,101,110,116,115,32]
def uD(d:Bool):Str:=if d=true then ccS else combS
def nE(c:Comb):List Str:=(uD c.Dense++I5 c.Path)::(parS++J4 c.Parents)::(c.Hunks.map (eL c.Parents.toNat)).flatten
def WW(c:Comb):List Str:=(uD c.Dense++I5 c.Path++[10])::(parS++J4 c.Parents++[10])::(c.Hunks.map (j9 c.Parents.toNat)).flatten
def P6(c:Comb):Str:=(WW c).flatten
theorem WX(n:Nat)(r:Row):T9 (qA n r)=(dX n r).flatten:=by
 unfold qA dX;by_cases h:ended r.Text=true
 ·rw[A5 h,A5 h];obtain⟨a,ha⟩:=A75.1 h;rw[ha];unfold T9;simp
 ·rw[A6 h,A6 h,B54];unfold T9;simp
theorem RQ(n:Nat)(b:List Row):T9 ((b.map (qA n)).flatten)=((b.map (dX n)).flatten).flatten:=by
 induction b with
 | nil=>rfl
 | cons x r c=>simp only[C39,C56,DD,c,WX,C69]
theorem ND(n:Nat)(h:CHunk):T9 (eL n h)=(j9 n h).flatten:=by
 unfold eL j9;rw[mX,RQ,C56]
theorem RR(c:Comb):T9 (nE c)=P6 c:=by
 unfold nE P6 WW;rw[mX,mX];have h:∀(n:Nat) (hs:List CHunk),T9 ((hs.map (eL n)).flatten)=((hs.map (j9 n)).flatten).flatten:=by
  intro n hs;induction hs with
  | nil=>rfl
  | cons x r b=>simp only[C39,C56,DD,b,ND,C69]
 rw[h];simp
def rJ(n:Nat)(b:List Int)(h:CHunk):Bool:=decide (h.At.length=n+1/\h.Rows≠[])&&(List.range (n+1)).all fun k=>decide ((b.getD k 0<=h.At.getD k 0/\h.At.getD k 0<=4096)/\h.At.getD k 0+N2 h.Rows n k<=4096)
def X9(n:Nat)(h:CHunk):List Int:=(List.range (n+1)).map fun k=>h.At.getD k 0+N2 h.Rows n k
def v7(n:Nat)(a:List Int):List CHunk->Bool
 | []=>true
 | h::r=>rJ n a h&&v7 n (X9 n h) r
def bD(hs:List CHunk):List Row:=(hs.map (·.Rows)).flatten
def b8(n:Nat)(hs:List CHunk):Bool:=v7 n (List.replicate (n+1) 0) hs&&aX (bD hs) n
def cG(n:Nat)(hs:List CHunk):Bool:=hs.all fun h=>R0 h.Rows n
def J7(c:Comb):Int:=if i7 c.Path=false then 120 else if c.Parents<1\/32<c.Parents then 2 else if cG c.Parents.toNat c.Hunks=false then 180 else if b8 c.Parents.toNat c.Hunks=false then 121 else if 16777216<(P6 c).length then 1 else 0
theorem kQ{n:Nat}{r:Row}(h:U6 n r=true):0<=r.Marks/\r.Marks<2 ^ n/\(r.Lost=true->r.Marks≠0):=by
 unfold U6 at h;simp only[C30,beq_iff_eq,Bool.not_eq_true',Bool.and_eq_false_iff,beq_eq_false_iff_ne]at h;obtain⟨f,a⟩:=h;have e:(0:Int)<2 ^ n:=Int.pow_pos (by decide);have b:=Int.emod_add_mul_ediv r.Marks (2 ^ n);have c:=Int.emod_nonneg r.Marks (Int.ne_of_gt e);have d:=Int.emod_lt_of_pos r.Marks e;rw[f,Int.mul_zero,Int.add_zero]at b;rw[b]at c d;refine⟨c,d,fun g=>?_⟩;rcases a with a | a
 ·rw[g]at a;cases a
 ·exact a
theorem pow32{n:Nat}(h:n<=32):(2:Int) ^ n<=4294967296:=by
 have a:(2:Nat) ^ n<=2 ^ 32:=Nat.pow_le_pow_right (by omega) h;have b:((2 ^ n:Nat):Int)=2 ^ n:=by simp
 have c:(2:Nat) ^ 32=4294967296:=rfl;omega
theorem B59{n:Nat}(b:n<=32){a:List Row}(h:R0 a n=true):K1 a:=by
 intro r c;have d:=kQ (List.all_eq_true.1 h r c);have:=pow32 b;omega
def p8(n:Nat)(b:List Int)(h:CHunk):Bool:=decide (h.At.length=n+1/\h.Rows≠[])&&(List.range (n+1)).all fun k=>decide (b.getD k 0<=h.At.getD k 0/\h.At.getD k 0<=4096)
def bE(b:Bool)(a:List Row):Bool:=a.foldl mP b
def bF(b:Int)(a:List Row):Int:=a.foldl mQ b
def bG(n:Nat)(a:List Int)(c:Bool)(b:Int):List CHunk->Bool
 | []=>decide (∀e∈a,e<=4096)
 | h::r=>p8 n a h&&(T7 c b h.Rows&&bG n (X9 n h) (bE c h.Rows) (bF b h.Rows) r)
theorem DK:∀(a b:List Row) (d:Bool) (c:Int),T7 d c (a++b)=(T7 d c a&&T7 (bE d a) (bF c a) b)
 | [],b,d,c=>by simp[T7,bE,bF]
 | x::a,b,d,c=>by
  rw[C57,T7,T7,DK a b];simp only[bE,bF,C68,Bool.and_assoc]
theorem fI(f:Nat->Int)(n k:Nat)(h:k<n):((List.range n).map f).getD k 0=f k:=by
 rw[C33,C63,C79 h];rfl
theorem DL{n:Nat}{a:List Int}(d:a.length=n+1):(∀e∈a,e<=4096)↔∀k,k<n+1->a.getD k 0<=4096:=by
 constructor
 ·intro h k b;rw[C33,C29 (by omega)];exact h _ (C35 _)
 ·intro h e c;obtain⟨k,b,rfl⟩:=List.getElem_of_mem c;have:=h k (by omega)
  rwa[C33,C29 b]at this
theorem rK(n:Nat)(h:CHunk):(X9 n h).length=n+1:=by unfold X9;simp
theorem yF(n:Nat):∀(hs:List CHunk) (a:List Int) (c:Bool) (b:Int),a.length=n+1 ->
  bG n a c b hs=(decide (∀e∈a,e<=4096)&&v7 n a hs&&T7 c b (bD hs))
 | [],a,c,b,_=>by simp[bG,v7,bD,T7]
 | h::r,a,c,b,hl=>by
  have p:=yF n r (X9 n h) (bE c h.Rows) (bF b h.Rows) (rK n h);have m:bD (h::r)=h.Rows++bD r:=by simp[bD]
  rw[bG,p,v7,m,DK];have f:(p8 n a h&&decide (∀e∈X9 n h,e<=4096))=(decide (∀e∈a,e<=4096)&&rJ n a h):=by
   rw[Bool.eq_iff_iff];unfold p8 rJ;simp only[C30,decide_eq_true_eq,List.all_eq_true,C40];rw[DL hl,DL (rK n h)];have l:∀k,k<n+1->(X9 n h).getD k 0=h.At.getD k 0+N2 h.Rows n k:=fun k d=>fI _ _ _ d;constructor
   ·rintro⟨⟨o,i⟩,j⟩;exact⟨fun k d=>by have:=i k d;omega,o,fun k d=>⟨i k d,by have:=j k d;rwa[l k d]at this⟩⟩
   ·rintro⟨_,i,j⟩;exact⟨⟨i,fun k d=>(j k d).1⟩,fun k d=>by rw[l k d];exact (j k d).2⟩
  generalize p8 n a h=A at f ⊢;generalize decide (∀e∈X9 n h,e<=4096)=B at f ⊢;generalize decide (∀e∈a,e<=4096)=C at f ⊢;generalize rJ n a h=D at f ⊢;generalize T7 c b h.Rows=E;generalize v7 n (X9 n h) r=F;generalize T7 (bE c h.Rows) (bF b h.Rows) (bD r)=G;cases A<;>cases B<;>cases C<;>cases D<;>first | (cases f;done) | (cases E<;>cases F<;>cases G<;>rfl)
theorem IS{n:Nat}{hs:List CHunk}(h:cG n hs=true):R0 (bD hs) n=true:=by
 unfold R0 bD;rw[List.all_eq_true];intro r c;obtain⟨l,a,b⟩:=List.mem_flatten.1 c;obtain⟨x,d,rfl⟩:=C54.1 a;exact List.all_eq_true.1 (List.all_eq_true.1 h x d) r b
theorem RS{n:Nat}(a:n<=32){hs:List CHunk}(h:cG n hs=true):bG n (List.replicate (n+1) 0) false 0 hs=b8 n hs:=by
 rw[yF n hs _ _ _ (C74 ..),CJ _ n a (IS h) (B59 a (IS h))];have:∀L:List Int,(∀e∈L,e<=4096)->decide (∀e∈L,e<=4096)=true:=fun L h=>A3 h;rw[this _ (fun e b=>by have:=(List.mem_replicate.1 b).2;omega)];rfl
theorem wE{n:Nat}:∀(hs:List CHunk) (a:List Int),(∀k,k<n+1->0<=a.getD k 0)->v7 n a hs=true->∀h∈hs,h.At.length=n+1/\h.Rows≠[]/\∀k,k<n+1->0<=h.At.getD k 0/\h.At.getD k 0+N2 h.Rows n k<=4096
 | [],_,_,_,h,hm=>by cases hm
 | x::r,a,he,hg,h,hm=>by
  rw[v7,C30]at hg;obtain⟨c,f⟩:=hg;unfold rJ at c;simp only[C30,decide_eq_true_eq,List.all_eq_true,C40]at c;obtain⟨⟨i,j⟩,l⟩:=c;have d:∀k,k<n+1->0<=x.At.getD k 0/\x.At.getD k 0+N2 x.Rows n k<=4096:=fun k b=>by have:=l k b;have:=he k b;omega
  rcases C36.1 hm with rfl | hm
  ·exact⟨i,j,d⟩
  ·refine wE r _ (fun k b=>?_) f h hm;rw[show (X9 n x).getD k 0=x.At.getD k 0+N2 x.Rows n k from fI _ _ _ b];have:=d k b;have:0<=N2 x.Rows n k:=by unfold N2;omega
   omega
structure CRead (n:Nat) (h:CHunk):Prop where
 len:h.At.length=n+1
 ne:h.Rows≠[]
 at0:∀k,k<n+1->0<=h.At.getD k 0/\h.At.getD k 0+N2 h.Rows n k<=4096
 rows:∀r∈h.Rows,U6 n r=true/\K0 r.Text=true
theorem kR{c:Comb}(h:J7 c=0):(1<=c.Parents.toNat/\c.Parents.toNat<=32)/\c.Parents=(c.Parents.toNat:Int)/\(∀x∈c.Hunks,CRead c.Parents.toNat x)/\(P6 c).length<=16777216/\i7 c.Path=true:=by
 unfold J7 at h;split at h
 ·cases h
 ·rename_i m;split at h
  ·cases h
  ·rename_i p;split at h
   ·cases h
   ·rename_i b;split at h
    ·cases h
    ·rename_i a;split at h
     ·cases h
     ·rename_i q;refine⟨by omega,by omega,?_,by omega,by simpa using m⟩;intro x f;have b:cG c.Parents.toNat c.Hunks=true:=by simpa using b
      have a:b8 c.Parents.toNat c.Hunks=true:=by simpa using a
      unfold b8 at a;rw[C30]at a;obtain⟨j,a2,a3⟩:=wE c.Hunks _ (fun k o=>by rw[C33,List.getElem?_replicate_of_lt o];exact Int.le_refl _) a.1 x f;refine⟨j,a2,a3,fun r i=>⟨List.all_eq_true.1 (List.all_eq_true.1 b x f) r i,?_⟩⟩;have d:=a.2;unfold aX at d;rw[C30]at d;exact List.all_eq_true.1 d.1 r (List.mem_flatten.2 ⟨x.Rows,C54.2 ⟨x,f,rfl⟩,i⟩)
def I3(c:UInt8)(s:Str):Nat->Nat
 | 0=>0
 | k+1=>I3 c s k+if s.getD k 0=c then 2 ^ k else 0
def iW(c:UInt8):Bool:=decide (c=32\/c=43\/c=45)
def rowAt(s:Str)(n:Nat):Option Row :=
 if n<1\/32<n\/s.length<n\/(s.take n).all iW=false\/(I3 43 s n≠0/\I3 45 s n≠0) then none
 else some ⟨decide (I3 45 s n≠0),((I3 43 s n+I3 45 s n:Nat):Int),s.drop n⟩
theorem zT(c:UInt8)(s:Str):∀k,I3 c s k<2 ^ k
 | 0=>by simp[I3]
 | k+1=>by
  have:=zT c s k;rw[I3,Nat.pow_succ];split<;>omega
theorem RT{c d:UInt8}(h:c≠d)(s:Str):∀k,I3 c s k+I3 d s k<2 ^ k
 | 0=>by simp[I3]
 | k+1=>by
  have:=RT h s k;rw[I3,I3,Nat.pow_succ];by_cases a:s.getD k 0=c
  ·rw[A5 a,A6 (fun e=>h (a.symm.trans e))];omega
  ·rw[A6 a];split<;>omega
theorem c8(n:Nat)(r:Row):(R8 n r).length=n:=by simp[R8]
theorem A82(n:Nat)(r:Row)(t:Str){k:Nat}(h:k<n):(R8 n r++t).getD k 0=gL r k:=by
 rw[C33,C46 (by rw[c8];exact h)];unfold R8;rw[C63,C79 h];rfl
theorem rL(n:Nat)(r:Row):(R8 n r).all iW=true:=by
 rw[List.all_eq_true];intro c b;obtain⟨p,_,rfl⟩:=C54.1 b;unfold gL;split
 ·rfl
 ·split<;>rfl
theorem DM{n m:Nat}{r:Row}(d:r.Marks=(m:Int))(t:Str):∀k,k<=n->I3 43 (R8 n r++t) k=(if r.Lost=true then 0 else m % 2 ^ k)/\I3 45 (R8 n r++t) k=(if r.Lost=true then m % 2 ^ k else 0)
 | 0,_=>by simp[I3,Nat.mod_one]
 | k+1,hk=>by
  obtain⟨e,f⟩:=DM (n:=n) d t k (by omega);have hb:Y4 r.Marks k=m.testBit k:=by rw[d,aA]
  have a:m % 2 ^ (k+1)=m % 2 ^ k+2 ^ k*(m / 2 ^ k % 2):=Nat.mod_pow_succ;have g:m.testBit k=decide (m / 2 ^ k % 2=1):=Nat.testBit_eq_decide_div_mod_eq;rw[I3,I3,e,f,A82 n r t (k:=k) (by omega)];unfold gL;rw[hb,g];by_cases b:m / 2 ^ k % 2=1
  ·rw[b]at a;cases h:r.Lost<;>simp[b,a]
  ·have c:m / 2 ^ k % 2=0:=by omega
   rw[c]at a;cases h:r.Lost<;>simp[c,a]
theorem B60{n:Nat}{r:Row}(w:1<=n/\n<=32)(h:U6 n r=true)(t:Str):rowAt (R8 n r++t) n=some ⟨r.Lost,r.Marks,t⟩:=by
 obtain⟨u,v,q⟩:=kQ h;obtain⟨m,g⟩:∃m:Nat,r.Marks=m:=⟨r.Marks.toNat,by omega⟩
 obtain⟨b,c⟩:=DM g t n (Nat.le_refl _);have i:m<2 ^ n:=by
  have e:((2 ^ n:Nat):Int)=2 ^ n:=by simp
  omega
 rw[Nat.mod_eq_of_lt i]at b c;have l:(R8 n r++t).take n=R8 n r:=by rw[List.take_append_of_le_length (by rw[c8];omega),C65 (by rw[c8];omega)]
 have j:(R8 n r++t).drop n=t:=by
  have:=List.drop_left (l₁:=R8 n r) (l₂:=t)
  rwa[c8]at this
 cases f:r.Lost
 ·rw[f,A6 (by decide)]at b c;unfold rowAt;rw[l,j,b,c,rL,C32,c8,A6 (by simp;omega),g];simp
 ·have s:m≠0:=fun e=>q f (by omega);rw[f,A5 rfl]at b c;unfold rowAt;rw[l,j,b,c,rL,C32,c8,A6 (by simp;omega),g];simp[s]
def O7(c:UInt8):Str->List Str
 | []=>[[]]
 | x::r=>if x=c then []::O7 c r else match O7 c r with
  | []=>[[x]]
  | a::b=>(x::a)::b
theorem A83(c:UInt8):∀s,O7 c s≠[]
 | []=>by simp[O7]
 | x::r=>by
  unfold O7;split
  ·simp
  ·split<;>simp
theorem nF{c:UInt8}:∀{a:Str},c∉a->O7 c a=[a]
 | [],_=>rfl
 | x::r,h=>by
  simp only[C36,not_or]at h;unfold O7;rw[A6 (fun e=>h.1 e.symm),nF h.2]
theorem rM{c:UInt8}(b:Str):∀{a:Str},c∉a->O7 c (a++c::b)=a::O7 c b
 | [],_=>by
  show O7 c (c::b)=_;rw[O7,A5 rfl]
 | x::r,h=>by
  simp only[C36,not_or]at h;rw[C57,O7,A6 (fun e=>h.1 e.symm),rM b h.2]
theorem bH(c:UInt8):∀s,(O7 c s).length=s.count c+1
 | []=>rfl
 | x::r=>by
  have d:=bH c r;unfold O7;by_cases h:x=c
  ·rw[A5 h,C34,d,C92,A5 (by simp[h])]
  ·rw[A6 h,C92,A6 (by simp[h])];split
   ·rename_i e;exact absurd e (A83 c r)
   ·rename_i a b e;rw[e]at d;simpa using d
def S5(n:Nat):Nat->List Str->Option (List Int)
 | _,[]=>some []
 | k,w::r=>if w.take 1=[eK n k] then (match bO (w.drop 1) with
  | some (a,_,e)=>if e=(w.drop 1).length then (S5 n (k+1) r).map (a::·) else none
  | none=>none) else none
def rN(n:Nat):Str:=[32]++atS (n+1)
def uE(n:Nat):Str:=atS (n+1)++[32]
def U9(s p:Str):Bool:=decide (p.length<=s.length/\s.drop (s.length-p.length)=p)
def fJ(n:Nat)(l:Str):Option (List Int) :=
 if l.take (n+2)=uE n/\U9 (l.drop (n+2)) (rN n)=true then
  (match S5 n 0 (O7 32 ((l.drop (n+2)).take ((l.drop (n+2)).length-(n+2)))) with
   | some a=>if a.length=n+1 then some a else none
   | none=>none)
 else none
theorem RU{d:UInt8}(b:d=10\/d=32)(a n:Int):d∉J3 a n:=by
 have c:∀n:Int,d∉J4 n:=by
  intro n;by_cases h:n<0\/2147483647<n
  ·unfold J4;rw[A5 h];simp
  ·rw[zQ (by omega) (by omega)];intro h;have:=(rC n.toNat).1 _ h;rcases b with rfl | rfl<;>(revert this;decide)
 have g:=c a;have e:=c (a+1);have i:=c n;have f:d≠44:=by rcases b with rfl | rfl<;>decide
 have j:d≠48:=by rcases b with rfl | rfl<;>decide
 unfold J3;split
 ·simp
 ·split
  ·simp[g,f,j]
  ·split
   ·exact e
   ·simp[e,i,f]
theorem sgn_ne(n k:Nat):(32:UInt8)≠eK n k/\(10:UInt8)≠eK n k:=by unfold eK;split<;>decide
def yG(n:Nat)(h:CHunk)(k:Nat):Str:=eK n k::J3 (h.At.getD k 0) (N2 h.Rows n k)
theorem RV(n:Nat)(h:CHunk)(k:Nat):(32:UInt8)∉yG n h k:=by
 unfold yG;simp only[C36,not_or];exact⟨(sgn_ne n k).1,RU (.inr rfl) _ _⟩
theorem zU(n:Nat)(h:CHunk)(k:Nat):nD n h k=32::yG n h k:=rfl
def dK(n:Nat)(h:CHunk):Nat->Nat->Str
 | 0,_=>[]
 | m+1,k=>nD n h k++dK n h m (k+1)
theorem RW(n:Nat)(h:CHunk):∀(m k:Nat),dK n h m k=((List.range' k m).map (nD n h)).flatten
 | 0,_=>rfl
 | m+1,k=>by rw[dK,RW n h m (k+1),List.range'_succ];simp
theorem WY(n:Nat)(h:CHunk)(m:Nat):Z5 n h m=dK n h m 0:=by
 unfold Z5;rw[RW,List.range_eq_range']
theorem IT(n:Nat)(h:CHunk):∀(m k:Nat),O7 32 (dK n h (m+1) k).tail=(List.range' k (m+1)).map (yG n h)
 | 0,k=>by
  rw[dK,dK,C60,zU,List.tail_cons,nF (RV n h k)];rfl
 | m+1,k=>by
  have b:=IT n h m (k+1);have e:dK n h (m+1+1) k=32::(yG n h k++32::(dK n h (m+1) (k+1)).tail):=by
   rw[dK,zU];have:dK n h (m+1) (k+1)=32::(dK n h (m+1) (k+1)).tail:=by rw[dK,zU];rfl
   conv=>lhs;rw[this]
   rfl
  rw[e,List.tail_cons,rM _ (RV n h k),b,List.range'_succ (n:=m+1)];rfl
theorem DN{l:List Int}{k:Nat}(h:k<l.length):l.drop k=l.getD k 0::l.drop (k+1):=by
 rw[C38 h,C33,C29 h];rfl
theorem DO{n:Nat}{h:CHunk}(q:h.At.length=n+1)(ha:∀k,k<n+1->0<=h.At.getD k 0/\h.At.getD k 0+N2 h.Rows n k<=4096):∀(m k:Nat),k+m=n+1->S5 n k ((List.range' k m).map (yG n h))=some (h.At.drop k)
 | 0,k,hk=>by
  have:h.At.drop k=[]:=C51 (by omega);rw[this];rfl
 | m+1,k,hk=>by
  have s:=DO q ha m (k+1) (by omega);obtain⟨g,a2⟩:=ha k (by omega);have b:0<=N2 h.Rows n k:=by unfold N2;omega
  have f:=A72 (t:=[]) g b (by omega) (by omega) (by intro c b;cases b);rw[C60]at f;rw[List.range'_succ,C39,S5];have i:(yG n h k).take 1=[eK n k]:=rfl;have j:(yG n h k).drop 1=J3 (h.At.getD k 0) (N2 h.Rows n k):=rfl;rw[A5 i,j,f];dsimp only;rw[A5 rfl,s,DN (l:=h.At) (k:=k) (by omega)];rfl
theorem cT(n:Nat):(atS n).length=n:=by simp[atS]
theorem WZ{n:Nat}{h:CHunk}(b:CRead n h):fJ n (p7 n h)=some h.At:=by
 have q:dK n h (n+1) 0=32::(dK n h (n+1) 0).tail:=by rw[dK,zU];rfl
 obtain⟨T,c⟩:∃T,T=(dK n h (n+1) 0).tail:=⟨_,rfl⟩
 have e:p7 n h=uE n++(T++rN n):=by
  unfold p7 uE rN;rw[WY,q,<-c];simp
 have f:(uE n).length=n+2:=by simp[uE,cT]
 have hs:(rN n).length=n+2:=by simp[rN,cT]
 have s:(p7 n h).take (n+2)=uE n:=by rw[e,<-f,List.take_left]
 have m:(p7 n h).drop (n+2)=T++rN n:=by rw[e,<-f,List.drop_left]
 have j:(T++rN n).length-(n+2)=T.length:=by rw[C32,hs];omega
 unfold fJ;rw[s,m,A5 ⟨rfl,by unfold U9;rw[hs,j,List.drop_left];simp[hs]⟩,j,List.take_left,c,IT,DO b.len b.at0 (n+1) 0 (by omega)];dsimp only;rw[List.drop_zero,A5 b.len]
def dR(a:Str):Option (Bool×Str):=if a.take 10=ccS then some (true,a.drop 10) else if a.take 16=combS then some (false,a.drop 16) else none
def bI(q:Bool)(a b:Str):Option (Bool×Str×Int) :=
 match dR a with
 | none=>none
 | some (d,x)=>if b.take 8=parS then (match p5 x,j8 (b.drop 8) with
  | some (w,e),some (n,e2)=>if (q=true->e=x.length/\e2=(b.drop 8).length)/\1<=n/\n<=32 then some (d,w,(n:Int)) else none
  | _,_=>none) else none
theorem XA(q d:Bool)(p:Str)(n:Int)(u:1<=n/\n<=32):bI q (uD d++I5 p) (parS++J4 n)=some (d,p,n):=by
 have s:dR (uD d++I5 p)=some (d,I5 p):=by
  cases d
  ·have b:(combS++I5 p).take 16=combS:=rfl;have i:(combS++I5 p).take 10≠ccS:=by
    intro h;have:=congrArg (fun l=>l[8]?) h;revert this;show ¬(some (111:UInt8)=some 99);decide
   show dR (combS++I5 p)=_;unfold dR;rw[A6 i,A5 b];rfl
  ·show dR (ccS++I5 p)=_;have b:(ccS++I5 p).take 10=ccS:=rfl;unfold dR;rw[A5 b];rfl
 have f:=oE (n:=n) (t:=[]) (by omega) (by omega) (by intro c m;cases m);rw[C60]at f;have j:(parS++J4 n).take 8=parS:=rfl;have g:(parS++J4 n).drop 8=J4 n:=rfl;unfold bI;rw[s];dsimp only;rw[A5 j,g,WT,f];dsimp only;rw[A5 ⟨fun _=>⟨rfl,rfl⟩,by omega,by omega⟩,show ((n.toNat:Nat):Int)=n by omega]
def NE(hs:List CHunk)(r:Row):Option (List CHunk):=match hs.getLast? with
 | none=>none
 | some h=>some (hs.dropLast++[⟨h.At,h.Rows++[r]⟩])
def DP(hs:List CHunk):Option (List CHunk):=match hs.getLast? with
 | none=>none
 | some h=>match h.Rows.getLast? with
  | none=>none
  | some r=>some (hs.dropLast++[⟨h.At,h.Rows.dropLast++[⟨r.Lost,r.Marks,mY r.Text⟩]⟩])
def Y6(n:Nat)(hs:List CHunk)(l:Str):Option (List CHunk) :=
 if l.take 1=[64] then (match fJ n l with | none=>none | some a=>some (hs++[⟨a,[]⟩]))
 else if hs=[] then none
 else if l=noNl then DP hs
 else match rowAt (l++[10]) n with
  | none=>none
  | some r=>NE hs r
def p9(n:Nat)(hs:List CHunk):List Str->Option (List CHunk)
 | []=>some hs
 | x::r=>match Y6 n hs x with
  | none=>none
  | some g=>p9 n g r
def r5(l:List Str):Option Comb:=match l with
 | a::b::r=>(match bI true a b with
  | some (d,p,n)=>(match p9 n.toNat [] r with | some hs=>some ⟨p,d,n,hs⟩ | none=>none)
  | none=>none)
 | _=>none
theorem B61{n:Nat}(r:Row)(a:1<=n)(t:Str):∃s,R8 n r++t=gL r 0::s:=by
 obtain⟨m,rfl⟩:∃m,n=m+1:=⟨n-1,by omega⟩
 unfold R8;rw[List.range_succ_eq_map];exact⟨_,rfl⟩
theorem B62(r:Row)(p:Nat):gL r p≠64/\gL r p≠92/\gL r p≠10:=by unfold gL;split;decide;split<;>decide
theorem B63{n:Nat}(f:1<=n/\n<=32)(hs:List CHunk)(a:List Int)(c:List Row)(r:Row)(rest:List Str)(j:U6 n r=true):p9 n (hs++[⟨a,c⟩]) (qA n r++rest)=p9 n (hs++[⟨a,c++[r]⟩]) rest:=by
 have b:∀t:Str,Y6 n (hs++[⟨a,c⟩]) (R8 n r++t)=some (hs++[⟨a,c++[⟨r.Lost,r.Marks,t++[10]⟩]⟩]):=by
  intro t;obtain⟨s,e⟩:=B61 r f.1 t;have hb:=B62 r 0;unfold Y6;rw[A6 (by rw[e];simpa using hb.1),A6 (by simp),A6 (by rw[e];intro h;injection h with h;exact hb.2.1 h),C42,B60 f j];unfold NE;simp
 unfold qA;split
 ·rename_i d;obtain⟨x,g⟩:=A75.1 d;rw[C57,C58,p9,b];dsimp only;rw[g,List.dropLast_concat,<-g]
 ·rename_i d;rw[C57,p9,b];dsimp only;have i:Y6 n (hs++[⟨a,c++[⟨r.Lost,r.Marks,r.Text++[10]⟩]⟩]) noNl=some (hs++[⟨a,c++[r]⟩]):=by
   unfold Y6;rw[A6 (by decide),A6 (by simp),A5 rfl];unfold DP;simp only[List.getLast?_append,List.getLast?_singleton,Option.some_or,List.dropLast_concat];unfold mY;rw[A5 (iV _),List.dropLast_concat]
  rw[C57,C58,p9,i]
theorem IU{n:Nat}(d:1<=n/\n<=32)(hs:List CHunk)(a:List Int):∀(c b:List Row) (rest:List Str),(∀r∈c,U6 n r=true)->p9 n (hs++[⟨a,b⟩]) ((c.map (qA n)).flatten++rest)=p9 n (hs++[⟨a,b++c⟩]) rest
 | [],b,rest,_=>by simp
 | x::r,b,rest,hg=>by
  rw[C39,C56,C42,B63 d _ _ _ _ _ (hg x (by simp)),IU d hs a r _ _ (fun y g=>hg y (by simp[g])),C42];rfl
theorem B64(n:Nat)(h:CHunk):(p7 n h).take 1=[64]:=by
 unfold p7 atS;rw[List.replicate_succ];rfl
theorem yH{n:Nat}(i:1<=n/\n<=32):∀(d hs:List CHunk),(∀h∈d,CRead n h)->p9 n hs ((d.map (eL n)).flatten)=some (hs++d)
 | [],hs,_=>by simp[p9]
 | h::r,hs,hg=>by
  have g:=hg h (by simp);have e:((h::r).map (eL n)).flatten=p7 n h::((h.Rows.map (qA n)).flatten++(r.map (eL n)).flatten):=by simp[eL]
  have b:Y6 n hs (p7 n h)=some (hs++[⟨h.At,[]⟩]):=by
   unfold Y6;rw[A5 (B64 n h),WZ g]
  rw[e,p9,b];dsimp only;rw[IU i _ _ _ _ _ (fun x c=>(g.rows x c).1),C58,yH i r _ (fun x c=>hg x (by simp[c])),C42];rfl
theorem RX{c:Comb}(h:J7 c=0):r5 (nE c)=some c:=by
 obtain⟨a,d,b,_⟩:=kR h;unfold r5 nE;dsimp only;rw[XA true _ _ _ (by omega)];dsimp only;rw[yH a c.Hunks [] b];rfl
def kS(f:List Str->Option Comb)(s:Str):Comb×Int :=
 if 16777216<s.length then (comb0,1) else match cE s with
 | none=>(comb0,4)
 | some l=>match f l with
  | none=>(comb0,4)
  | some p=>if J7 p≠0\/P6 p≠s then (comb0,4) else (p,0)
theorem A84(n:Nat)(h:CHunk):(10:UInt8)∉p7 n h:=by
 have d:(10:UInt8)∉Z5 n h (n+1):=by
  unfold Z5;intro c;obtain⟨l,b,a⟩:=List.mem_flatten.1 c;obtain⟨k,_,rfl⟩:=C54.1 b;unfold nD at a;simp only[C57,C58,C36]at a;rcases a with a | a | a
  ·revert a;decide
  ·exact (sgn_ne n k).2 a
  ·exact RU (.inl rfl) _ _ a
 have ha:(10:UInt8)∉atS (n+1):=by unfold atS;intro h;have:=(List.mem_replicate.1 h).2;revert this;decide
 unfold p7;simp[d,ha]
theorem B65{n:Nat}{r:Row}(g:K0 r.Text=true):∀t∈qA n r,(10:UInt8)∉t:=by
 have e:(10:UInt8)∉R8 n r:=by
  intro h;have:=List.all_eq_true.1 (rL n r) _ h;revert this;decide
 obtain⟨c,d⟩:=(jX _).1 g;intro t b;unfold qA at b;split at b
 ·simp only[C36,C66,or_false]at b;subst b;simp[e,d]
 ·rename_i f;simp only[C36,C66,or_false]at b;rcases b with rfl | rfl
  ·simp only[C37,not_or];refine⟨e,fun a=>?_⟩;rw[<-List.dropLast_concat_getLast c]at a;rcases C37.1 a with a | a
   ·exact d a
   ·simp only[C36,C66,or_false]at a;refine f (A75.2 ⟨r.Text.dropLast,?_⟩)
    conv=>lhs;rw[<-List.dropLast_concat_getLast c]
    rw[a]
  ·decide
theorem A85{c:Comb}(h:J7 c=0):∀t∈nE c,(10:UInt8)∉t:=by
 obtain⟨m,n,f,_⟩:=kR h;intro t b;unfold nE at b;rcases C36.1 b with rfl | b
 ·have:=WU c.Path;have d:(10:UInt8)∉uD c.Dense:=by cases c.Dense<;>decide
  simp[this,d]
 ·rcases C36.1 b with rfl | b
  ·have:=B55 c.Parents;have d:(10:UInt8)∉parS:=by decide
   simp[this,d]
  ·obtain⟨l,e,a⟩:=List.mem_flatten.1 b;obtain⟨x,j,rfl⟩:=C54.1 e;unfold eL at a;rcases C36.1 a with rfl | a
   ·exact A84 _ _
   ·obtain⟨p,g,i⟩:=List.mem_flatten.1 a;obtain⟨y,k,rfl⟩:=C54.1 g;exact B65 ((f x j).rows y k).2 t i
theorem A86{f:List Str->Option Comb}(b:∀p:Comb,J7 p=0->f (nE p)=some p){p:Comb}(a:J7 p=0):kS f (P6 p)=(p,0):=by
 have c:cE (P6 p)=some (nE p):=by rw[<-RR];exact RH _ (A85 a)
 obtain⟨_,_,_,d,_⟩:=kR a;unfold kS;rw[A6 (by omega),c];dsimp only;rw[b p a];dsimp only;rw[A6];simp[a]
def P9(r:Row):Nat:=r.Text.length+96
def uF(h:CHunk):Nat:=2048+h.At.length+(h.Rows.map P9).sum
def eO(hs:List CHunk):Nat:=(hs.map uF).sum
theorem cH(rows:List Row):rows.length*96<=(rows.map P9).sum:=by
 induction rows with
 | nil=>simp
 | cons x r a=>simp only[C39,C67,C34,P9]at a ⊢;omega
theorem rO(a:List Row):U7 a<=(a.map P9).sum:=by
 unfold U7;induction a with
 | nil=>simp
 | cons x r b=>simp only[C39,C56,C32,C67,P9]at b ⊢;omega
theorem wF{a:List Row}{r:Row}(h:r∈a):P9 r<=(a.map P9).sum:=by
 induction a with
 | nil=>cases h
 | cons x l b =>
  simp only[C39,C67];rcases C36.1 h with rfl | h
  ·omega
  ·have:=b h;omega
theorem uG{hs:List CHunk}{h:CHunk}(a:h∈hs):uF h<=eO hs:=by
 unfold eO;induction hs with
 | nil=>cases a
 | cons x l b =>
  simp only[C39,C67];rcases C36.1 a with rfl | a
  ·omega
  ·have:=b a;omega
theorem kT(hs:List CHunk):hs.length*2048<=eO hs:=by
 unfold eO;induction hs with
 | nil=>simp
 | cons x l b =>
  have a:2048<=uF x:=by unfold uF;exact Nat.le_trans (Nat.le_add_right _ _) (Nat.le_add_right _ _)
  rw[C39,C67,C34,C62,Nat.one_mul,Nat.add_comm];exact Nat.add_le_add a b
theorem XB(b:List Row)(k:Nat):((b.take k).map P9).sum<=(b.map P9).sum:=by
 conv=>rhs;rw[<-C70 k b,C50,C76]
 omega
theorem B66(hs:List CHunk)(k:Nat):eO (hs.take k)<=eO hs:=by
 unfold eO
 conv=>rhs;rw[<-C70 k hs,C50,C76]
 omega
theorem getI{l:List Int}{i:Nat}(h:i<l.length):l[i]?=some (l.getD i 0):=by simp[h]
theorem DQ(a:List Row)(n k:Nat):0<=N2 a n k/\N2 a n k<=a.length:=by
 have:=vR a (dQ n k);unfold N2;omega
theorem B67(a:List Row)(n k i:Nat)(h:i<a.length):N2 (a.take (i+1)) n k=N2 (a.take i) n k+if y3 a[i] (dQ n k)=true then 1 else 0:=by
 unfold N2 L9;rw[C48 h,C83,C50,C32];by_cases b:y3 a[i] (dQ n k)=true<;>simp[b]
def bQ(b:List Row)(n i p:Nat):List Int:=(List.range (n+1)).map fun k=>N2 (b.take (if k<p then i+1 else i)) n k
theorem A87(a:List Row)(n i p:Nat):(bQ a n i p).length=n+1:=by unfold bQ;simp
theorem XC(a:List Row)(n:Nat):bQ a n 0 0=List.replicate (n+1) 0:=by
 unfold bQ;refine List.ext_getElem (by simp) fun k b c=>?_;simp[N2,L9]
theorem A88(a:List Row)(n i p:Nat)(b:p<=n):(bQ a n i p)[p]?=some (N2 (a.take i) n p):=by
 unfold bQ;rw[C63,C79 (by omega)];simp
theorem DR(f:Nat->Int)(n p:Nat)(v:Int):((List.range n).map f).set p v=(List.range n).map (fun k=>if k=p then v else f k):=by
 refine List.ext_getElem (by simp) fun k b c=>?_;rw[List.getElem_set,List.getElem_map,List.getElem_map,List.getElem_range];by_cases e:p=k
 ·rw[A5 e,A5 e.symm]
 ·rw[A6 e,A6 (fun h=>e h.symm)]
theorem XD(a:List Row)(n i p:Nat)(d:i<a.length)(g:p<=n):bQ a n i (p+1)=if y3 a[i] (dQ n p)=true then (bQ a n i p).set p (N2 (a.take i) n p+1) else bQ a n i p:=by
 have hs:=B67 a n p i d;by_cases c:y3 a[i] (dQ n p)=true
 ·rw[A5 c]at hs ⊢;unfold bQ;rw[DR];refine List.map_congr_left fun k f=>?_;by_cases e:k=p
  ·subst e;rw[A5 rfl,A5 (by omega),hs]
  ·rw[A6 e];by_cases b:k<p
   ·rw[A5 (by omega),A5 b]
   ·rw[A6 (by omega),A6 b]
 ·rw[A6 c]at hs ⊢;unfold bQ;refine List.map_congr_left fun k f=>?_;by_cases e:k=p
  ·subst e;rw[A5 (by omega),A6 (by omega),hs];omega
  ·by_cases b:k<p
   ·rw[A5 (by omega),A5 b]
   ·rw[A6 (by omega),A6 b]
theorem XE(a:List Row)(n i:Nat):bQ a n i (n+1)=bQ a n (i+1) 0:=by
 unfold bQ;refine List.map_congr_left fun k b=>?_;rw[A5 (C40.1 b),A6 (by omega)]
theorem XF(a:List Row)(n:Nat):bQ a n a.length 0=F8 a n:=by
 unfold bQ F8;refine List.map_congr_left fun k b=>?_;rw[A6 (by omega),C44]
theorem DS(a:List Row)(n:Nat):(F8 a n).length=n+1:=by unfold F8;simp
theorem XG(a:List Row)(n k:Nat)(h:k<n+1):(F8 a n)[k]?=some (N2 a n k):=by
 unfold F8;rw[C63,C79 h];rfl
def dS(n:Nat)(h:CHunk)(k:Nat):List Int:=(List.range (n+1)).map fun j=>if j<k then h.At.getD j 0+N2 h.Rows n j else N2 h.Rows n j
theorem XH(n:Nat)(h:CHunk)(k:Nat):(dS n h k).length=n+1:=by unfold dS;simp
theorem RY(n:Nat)(h:CHunk):dS n h 0=F8 h.Rows n:=by
 unfold dS F8;refine List.map_congr_left fun k a=>?_;rw[A6 (by omega)]
theorem XI(n:Nat)(h:CHunk)(k:Nat)(a:k<n+1):(dS n h k)[k]?=some (N2 h.Rows n k):=by
 unfold dS;rw[C63,C79 a];simp
theorem XJ(n:Nat)(h:CHunk)(k:Nat):(dS n h k).set k (N2 h.Rows n k+h.At.getD k 0)=dS n h (k+1):=by
 unfold dS;rw[DR];refine List.map_congr_left fun j b=>?_;by_cases e:j=k
 ·subst e;rw[A5 rfl,A5 (by omega)];omega
 ·rw[A6 e];by_cases a:j<k
  ·rw[A5 a,A5 (by omega)]
  ·rw[A6 a,A6 (by omega)]
theorem RZ(n:Nat)(h:CHunk):dS n h (n+1)=X9 n h:=by
 unfold dS X9;refine List.map_congr_left fun k a=>?_;rw[A5 (C40.1 a)]
theorem yI(n:Nat)(a:List Int)(h:CHunk):p8 n a h=true↔(h.At.length=n+1/\h.Rows≠[])/\∀k,k<n+1->a.getD k 0<=h.At.getD k 0/\h.At.getD k 0<=4096:=by
 unfold p8;simp only[C30,decide_eq_true_eq,List.all_eq_true,C40]
theorem A89(n:Nat)(h:CHunk)(k:Nat):(nD n h k).length<=26:=by
 have:=mR (h.At.getD k 0) (N2 h.Rows n k);unfold nD;simp only[C32,C34,C43];omega
theorem nG(n:Nat)(h:CHunk)(k:Nat):Z5 n h (k+1)=Z5 n h k++nD n h k:=by
 unfold Z5;rw[C75,C50,C69];simp
theorem kU(n:Nat)(h:CHunk):∀k,(Z5 n h k).length<=26*k
 | 0=>by simp[Z5]
 | k+1=>by
  have:=kU n h k;have:=A89 n h k;rw[nG,C32];omega
theorem wG{n:Nat}(a:n<=32)(h:CHunk):(p7 n h).length<=925:=by
 have:=kU n h (n+1);unfold p7;simp only[C32,cT,C34,C43];omega
theorem IV{n:Nat}(c:n<=32)(r:Row):(dX n r).flatten.length<=P9 r:=by
 have b:markS.length=29:=rfl;unfold dX P9;split<;>simp only[C56,C89,C32,c8,C43]<;>omega
theorem DT{n:Nat}(c:n<=32)(b:List Row):((b.map (dX n)).flatten).flatten.length<=(b.map P9).sum:=by
 induction b with
 | nil=>simp
 | cons x r d =>
  have:=IV c x;simp only[C39,C56,C69,C32,C67];omega
theorem SA{n:Nat}(b:n<=32)(h:CHunk):(j9 n h).flatten.length<=uF h:=by
 have c:=wG b h;have d:=DT b h.Rows;unfold j9 uF;simp only[C56,C32,C34,C43];omega
theorem NF{n:Nat}(b:n<=32)(hs:List CHunk):((hs.map (j9 n)).flatten).flatten.length<=eO hs:=by
 unfold eO;induction hs with
 | nil=>simp
 | cons x r c =>
  have:=SA b x;simp only[C39,C56,C69,C32,C67];omega
def kV(c:Comb):Str:=uD c.Dense++I5 c.Path++[10]++(parS++J4 c.Parents++[10])
def SB(c:Comb)(k:Nat):Str:=kV c++(((c.Hunks.take k).map (j9 c.Parents.toNat)).flatten).flatten
theorem DU(c:Comb):SB c 0=kV c:=by simp[SB]
theorem SC(c:Comb)(k:Nat)(h:k<c.Hunks.length):SB c (k+1)=SB c k++(j9 c.Parents.toNat c.Hunks[k]).flatten:=by
 unfold SB;rw[C48 h];simp only[C50,C39,C77,C69,C56,C89,C60,C42]
theorem DV(c:Comb):SB c c.Hunks.length=P6 c:=by
 unfold SB kV P6 WW;rw[C44];simp
def IW(n:Nat)(b:List Row)(k:Nat):Str:=(((b.take k).map (dX n)).flatten).flatten
theorem SD(n:Nat)(a:List Row):IW n a 0=[]:=by simp[IW]
theorem SE(n:Nat)(b:List Row)(k:Nat)(h:k<b.length):IW n b (k+1)=IW n b k++(dX n b[k]).flatten:=by
 unfold IW;rw[C48 h];simp only[C50,C39,C77,C69,C56,C89,C60,C42]
theorem ZS{n:Nat}(b:n<=32)(a:List Row)(k:Nat):(IW n a k).length<=(a.map P9).sum:=by
 have:=DT b (a.take k);have:=XB a k;unfold IW;omega
theorem IX(n:Nat)(h:CHunk):(j9 n h).flatten=p7 n h++[10]++IW n h.Rows h.Rows.length:=by
 unfold j9 IW;rw[C44];simp
theorem DW(p:Str):(I5 p).length<=4*p.length+2:=xR p
theorem ZT(n:Int):(J4 n).length<=10:=X7 n
theorem DX(c:Comb):(kV c).length<=4*c.Path.length+48:=by
 have a:=DW c.Path;have b:=ZT c.Parents;have d:(uD c.Dense).length<=16:=by cases c.Dense<;>decide
 have f:parS.length=8:=rfl;unfold kV;simp only[C32,C34,C43];omega
theorem ZU(c:Comb)(a:c.Parents.toNat<=32)(k:Nat):(SB c k).length<=4*c.Path.length+48+eO c.Hunks:=by
 have b:=DX c;have d:=NF a (c.Hunks.take k);have f:=B66 c.Hunks k;unfold SB;rw[C32];omega
theorem SF(n:Nat)(r:Row):R8 (n+1) r=R8 n r++[gL r n]:=by
 unfold R8;rw[C75,C50];rfl
theorem DY(n:Nat)(r:Row):(dX n r).flatten=R8 n r++r.Text++(if ended r.Text=true then [] else markS):=by
 unfold dX;split<;>simp
def iX(s:Str)(n:Int):Option Row:=if n<1 then none else rowAt s n.toNat
theorem shl_nat(p:Nat)(h:p<32):IntKind.u32.wrap (1*2 ^ (min ((p:Int)).toNat IntKind.u32.bits))=((2 ^ p:Nat):Int):=by
 have b:2 ^ p<2 ^ 32:=Nat.pow_lt_pow_right (by decide) h;have e:(2:Int) ^ p=((2 ^ p:Nat):Int):=by simp
 rw[show min ((p:Int)).toNat IntKind.u32.bits=p by rw[C31];exact Nat.min_eq_left (by show p<=32;omega),Int.one_mul,e,eG _ (by omega)]
theorem or_bit{x p:Nat}(h:x<2 ^ p)(b:p<32):L1 (x:Int) ((2 ^ p:Nat):Int)=((x+2 ^ p:Nat):Int):=by
 have c:2 ^ p<2 ^ 32:=Nat.pow_lt_pow_right (by decide) b;rw[(dC x (2 ^ p) (by omega) (by omega)).1];have a:=Nat.two_pow_add_eq_or_of_lt h 1;rw[Nat.mul_one]at a;rw[Nat.or_comm,<-a,Nat.add_comm]
theorem or_zero{x:Nat}(h:x<4294967296):L1 (x:Int) 0=(x:Int):=by
 have:=(dC x 0 h (by omega)).1;simpa using this
theorem zero_or{x:Nat}(h:x<4294967296):L1 0 (x:Int)=(x:Int):=by
 have:=(dC 0 x (by omega) h).1;simpa using this
theorem IY{s:Str}{p:Nat}{c:UInt8}(a:s[p]?=some c)(d:UInt8):I3 d s (p+1)=I3 d s p+if c=d then 2 ^ p else 0:=by
 rw[I3,C33,a];rfl
theorem A90{s:Str}{p:Nat}{c:UInt8}(b:s[p]?=some c):(s.take (p+1)).all iW=((s.take p).all iW&&iW c):=by
 obtain⟨h,rfl⟩:=List.getElem?_eq_some_iff.1 b;rw[C48 h,C85];simp
theorem sign_no{s:Str}{p N:Nat}{c:UInt8}(d:p<N)(e:s[p]?=some c)(b:iW c=false):(s.take N).all iW=false:=by
 rw[Bool.eq_false_iff];intro h;have:=List.all_eq_true.1 h c (C53 (i:=p) (by rw[C59 d];exact e));rw[b]at this;cases this
theorem rowI_no{s:Str}{n:Int}(h:n<1\/32<n\/(s.length:Int)<n):iX s n=none:=by
 unfold iX;by_cases a:n<1
 ·rw[A5 a]
 ·rw[A6 a];unfold rowAt;rw[A5 (by omega)]
theorem A91{s:Str}{N:Nat}(h:(s.take N).all iW=false):iX s N=none:=by
 unfold iX;by_cases b:(N:Int)<1
 ·rw[A5 b]
 ·rw[A6 b];unfold rowAt;rw[A5 (.inr (.inr (.inr (.inl (by rw[C31];exact h)))))]
theorem A92{s:Str}{N:Nat}(h:I3 43 s N≠0/\I3 45 s N≠0):iX s N=none:=by
 unfold iX;by_cases a:(N:Int)<1
 ·rw[A5 a]
 ·rw[A6 a];unfold rowAt;rw[A5 (.inr (.inr (.inr (.inr (by rw[C31];exact h)))))]
theorem B68{s:Str}{N:Nat}(d:1<=N/\N<=32)(e:N<=s.length)(b:(s.take N).all iW=true)(c:¬(I3 43 s N≠0/\I3 45 s N≠0)) :
  iX s N=some ⟨decide (I3 45 s N≠0),((I3 43 s N+I3 45 s N:Nat):Int),s.drop N⟩:=by
 unfold iX;rw[A6 (by omega)];unfold rowAt;rw[C31,A6];simp only[not_or];exact⟨by omega,by omega,by omega,by rw[b];decide,c⟩
theorem IZ(c:UInt8)(s:Str){k:Nat}(h:k<=32):I3 c s k<4294967296:=by
 have a:=zT c s k;have b:2 ^ k<=2 ^ 32:=Nat.pow_le_pow_right (by decide) h;omega
theorem bits_or{s:Str}{N:Nat}(a:N<=32)(h:¬(I3 43 s N≠0/\I3 45 s N≠0)):L1 (I3 43 s N:Nat) (I3 45 s N:Nat)=((I3 43 s N+I3 45 s N:Nat):Int):=by
 have b:=IZ 43 s a;have c:=IZ 45 s a;by_cases d:I3 43 s N=0
 ·rw[d];have:=zero_or c;rw[Nat.zero_add];exact this
 ·have e:I3 45 s N=0:=by omega
  rw[e];have:=or_zero b;rw[Nat.add_zero];exact this
theorem A93{s:Str}{n:Int}{r:Row}(h:iX s n=some r):(1<=n/\n<=32)/\r.Text=s.drop n.toNat/\(0<=r.Marks/\r.Marks<4294967296)/\n.toNat<=s.length:=by
 unfold iX at h;split at h
 ·cases h
 ·rename_i e;unfold rowAt at h;split at h
  ·cases h
  ·rename_i a;simp only[not_or,Nat.not_lt]at a;obtain⟨b,a2,a3,a4,a5⟩:=a;have hb:=RT (c:=43) (d:=45) (by decide) s n.toNat
   have f:2 ^ n.toNat<=2 ^ 32:=Nat.pow_le_pow_right (by decide) a2;cases h;refine⟨by omega,rfl,?_,a3⟩;dsimp only;omega
theorem DZ{c:UInt8}:∀(s:Str) (v:Str),v∈O7 c s->v.length<=s.length
 | [],v,h=>by simp[O7]at h;simp[h]
 | x::r,v,h=>by
  have d:=DZ (c:=c) r;unfold O7 at h;split at h
  ·rcases C36.1 h with rfl | h
   ·simp
   ·have:=d v h;simp;omega
  ·split at h
   ·simp at h;simp[h]
   ·rename_i a b e;rw[e]at d;rcases C36.1 h with rfl | h
    ·have:=d a (by simp);simp;omega
    ·have:=d v (by simp[h]);simp;omega
abbrev l4:Bool->Nat->Cell:=fun b _=>.v (.bool b)
abbrev pBools(l:List Bool):PV:=.one (.list Bool 1 l4 l)
def bJ(n:Nat)(rows:List Row):Int->List CHunk->List Span->Option (List CHunk)
 | _,hs,[]=>some hs
 | e,hs,s::r=>if s.From<e\/s.To<=s.From\/(rows.length:Int)<s.To then none else bJ n rows s.To (hs++[⟨F8 (rows.take s.From.toNat) n,(rows.drop s.From.toNat).take (s.To.toNat-s.From.toNat)⟩]) r
def bR(path:Str)(t:Table)(sp:List Span)(d:Bool):Comb×Int :=
 if i7 path=false then (comb0,120) else if J2 t≠0 then (comb0,J2 t) else match bJ t.Parents.toNat t.Rows 0 [] sp with
  | none=>(comb0,3)
  | some hs=>if J7 ⟨path,d,t.Parents,hs⟩≠0 then (comb0,J7 ⟨path,d,t.Parents,hs⟩) else (⟨path,d,t.Parents,hs⟩,0)
theorem zV(f:Row->Nat)(c n:Nat)(b:List Row):∀(sp:List Span) (e:Int) (hs d:List CHunk),0<=e->bJ n b e hs sp=some d->(hs.map fun h=>c+(h.Rows.map f).sum).sum<=c*hs.length+((b.take e.toNat).map f).sum->hs.length<=e.toNat ->
  (d.map fun h=>c+(h.Rows.map f).sum).sum<=c*d.length+(b.map f).sum/\d.length<=max b.length hs.length
 | [],e,hs,d,he,h,hw,hl=>by
  cases h;refine⟨?_,by omega⟩;have:((b.take e.toNat).map f).sum<=(b.map f).sum:=by
   conv=>rhs;rw[<-C70 e.toNat b,C50,C76]
   omega
  omega
 | s :: r,e,hs,d,he,h,hw,hl=>by
  rw[bJ]at h;split at h
  ·cases h
  ·rename_i o;simp only[not_or,Int.not_lt,Int.not_le]at o;obtain⟨y,z,A⟩:=o;have x:=zV f c n b r s.To _ d (by omega) h;have q:((b.take e.toNat).map f).sum+(((b.drop s.From.toNat).take (s.To.toNat-s.From.toNat)).map f).sum<=((b.take s.To.toNat).map f).sum:=by
    have v:b.take s.To.toNat=b.take s.From.toNat++(b.drop s.From.toNat).take (s.To.toNat-s.From.toNat):=by
     have:=List.take_add (l:=b) (i:=s.From.toNat) (j:=s.To.toNat-s.From.toNat);rw[show s.From.toNat+(s.To.toNat-s.From.toNat)=s.To.toNat by omega]at this;exact this
    have w:b.take s.From.toNat=b.take e.toNat++(b.drop e.toNat).take (s.From.toNat-e.toNat):=by
     have:=List.take_add (l:=b) (i:=e.toNat) (j:=s.From.toNat-e.toNat);rw[show e.toNat+(s.From.toNat-e.toNat)=s.From.toNat by omega]at this;exact this
    rw[v,C50,C76]
    conv=>rhs;rw[w,C50,C76]
    omega
   have g:=x (by
    rw[C50,C76,C32];simp only[C39,C77,C67,C91,C34,C43,Nat.mul_add,Nat.mul_one,Nat.mul_zero]
    omega) (by rw[C32];simp;omega)
   refine⟨g.1,?_⟩;have:=g.2;rw[C32]at this;simp only[C34,C43]at this;have B:hs.length+1<=b.length:=by omega
   omega
def CInvA(n:Nat)(hs:List CHunk):Prop:=∀h∈hs,h.At.length=n+1/\K1 h.Rows
theorem EA{n:Nat}{b:List Row}(d:K1 b):∀(g:List Span) (e:Int) (hs a:List CHunk),bJ n b e hs g=some a->CInvA n hs->CInvA n a
 | [],e,hs,a,h,hi=>by cases h;exact hi
 | s::r,e,hs,a,h,hi=>by
  rw[bJ]at h;split at h
  ·cases h
  ·refine EA d r _ _ a h ?_;intro x c;rcases C37.1 c with c | c
   ·exact hi x c
   ·simp only[C36,C66,or_false]at c;rw[c];exact⟨DS _ _,fun y f=>d y (List.mem_of_mem_drop (List.mem_of_mem_take f))⟩
def rP(n:Nat)(r:Row):Nat:=r.Text.length+n+29
theorem headC_w(n:Nat)(h:CHunk):(p7 n h).length<=28*(n+1)+1:=by
 have:=kU n h (n+1);unfold p7;simp only[C32,cT,C34,C43];omega
theorem B69(n:Nat)(b:List Row):((b.map (dX n)).flatten).flatten.length<=(b.map (rP n)).sum:=by
 have c:markS.length=29:=rfl;induction b with
 | nil=>simp
 | cons x r d =>
  have:(dX n x).flatten.length<=rP n x:=by
   unfold dX rP;split<;>simp only[C56,C89,C32,c8,C43]<;>omega
  simp only[C39,C56,C69,C32,C67];omega
theorem XK(n:Nat)(hs:List CHunk):((hs.map (j9 n)).flatten).flatten.length<=(hs.map fun h=>(28*(n+1)+2)+(h.Rows.map (rP n)).sum).sum:=by
 induction hs with
 | nil=>simp
 | cons x r c =>
  have d:=headC_w n x;have i:=B69 n x.Rows;have b:(j9 n x).flatten.length<=(28*(n+1)+2)+(x.Rows.map (rP n)).sum:=by
   unfold j9;simp only[C56,C32,C34,C43];omega
  rw[C39,C56,C69,C32,C39,C67];exact Nat.add_le_add b c
theorem SG(c:Comb):(P6 c).length<=4*c.Path.length+48+(c.Hunks.map fun h=>(28*(c.Parents.toNat+1)+2)+(h.Rows.map (rP c.Parents.toNat)).sum).sum:=by
 have a:=DX c;have b:=XK c.Parents.toNat c.Hunks;rw[<-DV];unfold SB;rw[C44,C32];omega
theorem NG(c:Str)(a:List Str)(L B:Nat)(N:(B6 c).length<=L/\c.length<=B)(Q:∀b∈a,(B6 b).length<=L/\b.length<=B) :
  K1 (E7 c a).1.Rows/\(E7 c a).1.Rows.length<=(L+1)*(a.length*L+1)/\∀r∈(E7 c a).1.Rows,r.Text.length<=B:=by
 have z:K1 []/\([]:List Row).length<=(L+1)*(a.length*L+1)/\∀r∈([]:List Row),r.Text.length<=B:=⟨fun r j=>(by cases j),(by simp),fun r j=>(by cases j)⟩
 by_cases P:a.length<1\/32<a.length
 ·rw[E7,A5 P];exact z
 obtain⟨A,D⟩:∃A,A=B6 c::a.map B6:=⟨_,rfl⟩
 obtain⟨d,i⟩:∃d,d=J1 A:=⟨_,rfl⟩
 obtain⟨s,hs⟩:∃s,s=g9 (A.map (R4 d)) (B6 c).length a.length a.length:=⟨_,rfl⟩
 have U:E7 c a=if ∃k,k<(B6 c).length+1/\(H7 (s.2 k)).2≠0 then (⟨0,[]⟩,1) else (⟨a.length,i6 d (B6 c) s ((B6 c).length+1)⟩,0):=by
  rw[E7,A6 P,hs,i,D]
 rw[U];split
 ·exact z
 have C:∀f∈A,f.length<=L/\∀t∈f,t.length<=B:=by
  intro f u;rw[D]at u;rcases C36.1 u with rfl | u
  ·exact⟨N.1,fun t F=>by have:=QW _ _ F;omega⟩
  ·obtain⟨b,hb,rfl⟩:=C54.1 u;have:=Q b hb;exact⟨this.1,fun t F=>by have:=QW _ _ F;omega⟩
 have K:∀t∈d,t.length<=B:=by
  intro t F;rw[i]at F;obtain⟨f,u,G⟩:=List.mem_flatten.1 (xP A t F);exact (C f u).2 t G
 have J:∀x∈A.map (R4 d),x.length<=L/\∀v∈x,(fun _:Int=>True) v:=by
  intro x V;obtain⟨f,u,rfl⟩:=C54.1 V;exact⟨by rw[R4,C55];exact (C f u).1,fun _ _=>trivial⟩
 have E:LoomOk (fun _=>True) L (B6 c).length a.length s:=by rw[hs];exact iP J _
 have Y:(B6 c).length<=L:=N.1;have I:∀k,(H7 (s.2 k)).1.length<=a.length*L/\∀m∈(H7 (s.2 k)).1,0<=m.Parents/\m.Parents<4294967296:=fun k=>by
  have G:=E.gaps k;have H:=gZ (fun _=>True) L (s.2 k) G.2;rw[G.1]at H;exact⟨H.1,fun m q=>(H.2 m q).1⟩
 have p:∀(l:List Str) (k:Nat),(∀t∈l,t.length<=B)->(l.getD k []).length<=B:=by
  intro l k T;rw[C33];cases h:l[k]? with
  | none=>simp
  | some t=>exact T t (C53 h)
 have M:∀k,k<=(B6 c).length+1->K1 (i6 d (B6 c) s k)/\(i6 d (B6 c) s k).length<=k*(a.length*L+1)/\∀r∈i6 d (B6 c) s k,r.Text.length<=B:=by
  intro k;induction k with
  | zero=>intro _;simp only[i6,List.range_zero,C77,C89];exact⟨fun r j=>(by cases j),by simp,fun r j=>(by cases j)⟩
  | succ k X =>
   intro Z;obtain⟨W,i2,i3⟩:=X (by omega);have O:=I k;have y:∀r∈V6 d (B6 c) s k,(0<=r.Marks/\r.Marks<4294967296)/\r.Text.length<=B:=by
    intro r j;unfold V6 at j;rcases C37.1 j with h | h
    ·obtain⟨m,q,rfl⟩:=C54.1 h;exact⟨O.2 m q,p _ _ K⟩
    ·split at h
     ·rename_i hkl;simp only[List.mem_singleton]at h;subst h;refine⟨?_,p _ _ (C _ (by rw[D];simp)).2⟩;have:k<s.1.length:=by rw[E.len];exact hkl
      show 0<=s.1.getD k 0/\s.1.getD k 0<4294967296;rw[C33,C29 this];exact E.marks _ (C35 this)
     ·cases h
   have S:(V6 d (B6 c) s k).length<=a.length*L+1:=by
    unfold V6;rw[C32,C55];have:=O.1;split<;>simp<;>omega
   rw[xO];refine⟨fun r j=>?_,by rw[C32,C62,Nat.one_mul];omega,fun r j=>?_⟩
   ·rcases C37.1 j with h | h
    ·exact W r h
    ·exact (y r h).1
   ·rcases C37.1 j with h | h
    ·exact i3 r h
    ·exact (y r h).2
 obtain⟨k1,k2,k3⟩:=M _ (Nat.le_refl _);have:((B6 c).length+1)*(a.length*L+1)<=(L+1)*(a.length*L+1):=C47 _ (by omega);exact⟨k1,by simp only;omega,k3⟩
def dY(l:List Int)(i j:Nat):List Int:=(l.set i (N4 l j)).set j (N4 l i)
def upH(a:Int->Int->Bool):Nat->List Int->Nat->List Int
 | 0,l,_=>l
 | f+1,l,j=>if (j-1) / 2=j\/a (N4 l j) (N4 l ((j-1) / 2))=false then l else upH a f (dY l ((j-1) / 2) j) ((j-1) / 2)
def GB(bf:Int->Int->Bool)(n:Nat)(l:List Int)(i:Nat):Nat:=if 2*i+2<n/\bf (N4 l (2*i+2)) (N4 l (2*i+1))=true then 2*i+2 else 2*i+1
def EB(bf:Int->Int->Bool)(n:Nat):Nat->List Int->Nat->List Int
 | 0,l,_=>l
 | f+1,l,i=>if n<=2*i+1 then l else if bf (N4 l (GB bf n l i)) (N4 l i)=false then l else EB bf n f (dY l i (GB bf n l i)) (GB bf n l i)
def SH(a:Int->Int->Bool)(l:List Int)(x:Int):List Int:=upH a (l.length+1) (l++[x]) l.length
def SI(a:Int->Int->Bool)(l:List Int):List Int:=EB a (l.length-1) l.length (dY l 0 (l.length-1)) 0
theorem V8(l:List Int)(i j:Nat):(dY l i j).length=l.length:=by simp[dY]
theorem v8{l:List Int}{i j:Nat}(a:i<l.length)(b:j<l.length)(k:Nat):N4 (dY l i j) k=if k=j then N4 l i else if k=i then N4 l j else N4 l k:=by
 unfold dY;rw[gK (by rw[C73];exact b),gK a];simp only[@eq_comm Nat j k,@eq_comm Nat i k]
theorem t7{l:List Int}{k:Nat}(h:k<l.length):N4 l k=l[k]:=by unfold N4;rw[C29 h];rfl
theorem A94{l:List Int}{i j:Nat}(a:i<l.length)(b:j<l.length)(x:Int):x∈dY l i j↔x∈l:=by
 have sub:∀{l:List Int} {i j:Nat},i<l.length->j<l.length->∀x,x∈dY l i j->x∈l:=by
  intro l i j a b x g;obtain⟨k,d,e⟩:=List.getElem_of_mem g;rw[<-t7 d,v8 a b]at e;rw[V8]at d;split at e
  ·rw[<-e,t7 a];exact C35 a
  ·split at e
   ·rw[<-e,t7 b];exact C35 b
   ·rw[<-e,t7 d];exact C35 d
 refine⟨sub a b x,fun g=>?_⟩;have e:dY (dY l i j) i j=l:=by
  refine List.ext_getElem (by rw[V8,V8]) fun k h m=>?_;rw[<-t7 h,<-t7 m,v8 (by rw[V8];exact a) (by rw[V8];exact b),v8 a b,v8 a b,v8 a b];by_cases f:k=j
  ·subst f;rw[A5 rfl];by_cases c:i=k
   ·rw[A5 c,c]
   ·rw[A6 c,A5 rfl]
  ·rw[A6 f];by_cases c:k=i
   ·rw[A5 c,A5 rfl,c]
   ·rw[A6 c,A6 f,A6 c]
 exact sub (by rw[V8];exact a) (by rw[V8];exact b) x (by rw[e];exact g)
theorem B70{l:List Int}:l.Nodup↔∀i j,i<l.length->j<l.length->N4 l i=N4 l j->i=j:=by
 constructor
 ·intro h i j a b e;rw[t7 a,t7 b]at e;exact (List.getElem_inj h).1 e
 ·intro h;rw[List.Nodup,List.pairwise_iff_getElem];intro i j a b c e;have:=h i j a b (by rw[t7 a,t7 b];exact e);omega
theorem SJ{l:List Int}{i j:Nat}(f:i<l.length)(g:j<l.length)(h:l.Nodup):(dY l i j).Nodup:=by
 rw[B70]at h ⊢;intro a b ha hb e;rw[V8]at ha hb;rw[v8 f g,v8 f g]at e;by_cases k:a=j<;>by_cases m:b=j
 ·omega
 ·rw[A5 k,A6 m]at e;by_cases c:b=i
  ·rw[A5 c]at e;have:=h _ _ f g e;omega
  ·rw[A6 c]at e;have:=h _ _ f hb e;omega
 ·rw[A6 k,A5 m]at e;by_cases a2:a=i
  ·rw[A5 a2]at e;have:=h _ _ g f e;omega
  ·rw[A6 a2]at e;have:=h _ _ ha f e;omega
 ·rw[A6 k,A6 m]at e;by_cases a2:a=i<;>by_cases c:b=i
  ·omega
  ·rw[A5 a2,A6 c]at e;have:=h _ _ g hb e;omega
  ·rw[A6 a2,A5 c]at e;have:=h _ _ ha g e;omega
  ·rw[A6 a2,A6 c]at e;exact h _ _ ha hb e
structure SameL (l m:List Int):Prop where
 len:m.length=l.length
 mem:∀x,x∈m↔x∈l
 nodup:l.Nodup->m.Nodup
theorem SameL.refl(l:List Int):SameL l l:=⟨rfl,fun _=>Iff.rfl,id⟩
theorem SameL.trans{a b c:List Int}(h:SameL a b)(d:SameL b c):SameL a c:=⟨d.len.trans h.len,fun x=>(d.mem x).trans (h.mem x),fun e=>d.nodup (h.nodup e)⟩
theorem SameL.swap{l:List Int}{i j:Nat}(a:i<l.length)(b:j<l.length):SameL l (dY l i j):=⟨V8 l i j,A94 a b,SJ a b⟩
structure Weak (bf:Int->Int->Bool):Prop where
 irr:∀a,bf a a=false
 asy:∀{a b},bf a b=true->bf b a=false
 ntr:∀{a b c},bf a b=false->bf b c=false->bf a c=false
def uH(bf:Int->Int->Bool)(n:Nat)(l:List Int):Prop:=∀k,k<n->0<k->bf (N4 l k) (N4 l ((k-1) / 2))=false
theorem A95{a:Int->Int->Bool}(w:Weak a){n:Nat}{l:List Int}(h:uH a n l):∀k,k<n->a (N4 l k) (N4 l 0)=false:=by
 intro k;induction k using Nat.strongRecOn with
 | _ k d =>
  intro c;by_cases b:k=0
  ·subst b;exact w.irr _
  ·exact w.ntr (h k c (by omega)) (d ((k-1) / 2) (by omega) (by omega))
theorem SK{g:Int->Int->Bool}(w:Weak g){n:Nat}:∀(f j:Nat) (l:List Int),j<f->j<n->n<=l.length ->
  (∀k,k<n->0<k->k≠j->g (N4 l k) (N4 l ((k-1) / 2))=false)->(∀k,k<n->0<k->(k-1) / 2=j->0<j->g (N4 l k) (N4 l ((j-1) / 2))=false) ->
  uH g n (upH g f l j)/\SameL l (upH g f l j)
 | 0,j,l,hf,_,_,_,_=>by omega
 | f + 1,j,l,hf,hj,hl,h1,h2=>by
  unfold upH;split
  ·rename_i h;refine⟨fun k o m=>?_,SameL.refl l⟩;by_cases e:k=j
   ·subst e;rcases h with h | h
    ·omega
    ·exact h
   ·exact h1 k o m e
  ·rename_i h;have C:(j-1) / 2≠j:=fun e=>h (.inl e);have q:g (N4 l j) (N4 l ((j-1) / 2))=true:=by
    cases hb:g (N4 l j) (N4 l ((j-1) / 2))
    ·exact absurd (.inr hb) h
    ·rfl
   have B:(j-1) / 2<l.length:=by omega
   have p:j<l.length:=by omega
   have d:=v8 B p
   obtain⟨a,b⟩:=SK (n:=n) w f ((j-1) / 2) (dY l ((j-1) / 2) j) (by omega) (by omega) (by rw[V8];exact hl) (fun k o m u=>by
    rw[d,d];by_cases c:k=j
    ·rw[A5 c,c,A6 (by omega),A5 rfl];exact w.asy q
    ·rw[A6 c,A6 u];by_cases x:(k-1) / 2=j
     ·rw[A5 x];exact h2 k o m x (by omega)
     ·rw[A6 x];by_cases y:(k-1) / 2=(j-1) / 2
      ·rw[A5 y];have v:=h1 k o m c;rw[y]at v;exact w.ntr v (w.asy q)
      ·rw[A6 y];exact h1 k o m c) (fun k o m e v=>by
    rw[d,d,A6 (show ¬((j-1) / 2-1) / 2=j by omega),A6 (show ¬((j-1) / 2-1) / 2=(j-1) / 2 by omega)];have z:=h1 ((j-1) / 2) (by omega) v (by omega);by_cases c:k=j
    ·rw[A5 c];exact z
    ·rw[A6 c,A6 (by omega)];have A:=h1 k o m c;rw[e]at A
     exact w.ntr A z)
   exact⟨a,(SameL.swap B p).trans b⟩
theorem SL{a:Int->Int->Bool}(w:Weak a){l:List Int}(x:Int)(h:uH a l.length l):uH a (l.length+1) (SH a l x)/\SameL (l++[x]) (SH a l x):=by
 unfold SH;have b:∀k,k<l.length->N4 (l++[x]) k=N4 l k:=fun k c=>by unfold N4;rw[C46 c]
 refine SK w (n:=l.length+1) (l.length+1) l.length (l++[x]) (by omega) (by omega) (by simp) (fun k c d f=>?_) (fun k c d e g=>by omega);rw[b k (by omega),b _ (by omega)];exact h k (by omega) d
theorem lowC_is{bf:Int->Int->Bool}{n:Nat}{l:List Int}{i:Nat}(h:2*i+1<n):GB bf n l i<n/\(GB bf n l i-1) / 2=i/\i<GB bf n l i:=by
 unfold GB;split<;>omega
theorem B71{bf:Int->Int->Bool}(w:Weak bf){n:Nat}{l:List Int}{i k:Nat}(d:k<n)(c:0<k)(e:(k-1) / 2=i):bf (N4 l k) (N4 l (GB bf n l i))=false:=by
 unfold GB;split
 ·rename_i h;by_cases a:k=2*i+2
  ·rw[a];exact w.irr _
  ·rw[show k=2*i+1 by omega];exact w.asy h.2
 ·rename_i h;by_cases a:k=2*i+1
  ·rw[a];exact w.irr _
  ·have b:k=2*i+2:=by omega
   rw[b];cases hb:bf (N4 l (2*i+2)) (N4 l (2*i+1))
   ·rfl
   ·exact absurd ⟨by omega,hb⟩ h
theorem EC{bf:Int->Int->Bool}(w:Weak bf){n:Nat}:∀(f i:Nat) (l:List Int),n<=i+f->n<=l.length ->
  (∀k,k<n->0<k->(k-1) / 2≠i->bf (N4 l k) (N4 l ((k-1) / 2))=false)->(∀k,k<n->0<k->(k-1) / 2=i->0<i->bf (N4 l k) (N4 l ((i-1) / 2))=false) ->
  uH bf n (EB bf n f l i)/\SameL l (EB bf n f l i)/\∀k,n<=k->N4 (EB bf n f l i) k=N4 l k
 | 0,i,l,hf,_,h1,h2=>by
  unfold EB;exact⟨fun k d g=>h1 k d g (by omega),SameL.refl l,fun _ _=>rfl⟩
 | f + 1,i,l,hf,hl,h1,h2=>by
  unfold EB;split
  ·exact⟨fun k d g=>h1 k d g (by omega),SameL.refl l,fun _ _=>rfl⟩
  ·rename_i E;obtain⟨z,o,C⟩:=lowC_is (bf:=bf) (l:=l) (show 2*i+1<n by omega);have q:=fun k d g e=>B71 (bf:=bf) w (n:=n) (l:=l) (i:=i) (k:=k) d g e;generalize GB bf n l i=j at z o C q;split
   ·rename_i h;refine⟨fun k d g=>?_,SameL.refl l,fun _ _=>rfl⟩;by_cases e:(k-1) / 2=i
    ·rw[e];exact w.ntr (q k d g e) h
    ·exact h1 k d g e
   ·rename_i h;have x:bf (N4 l j) (N4 l i)=true:=by simpa using h
    have A:i<l.length:=by omega
    have B:j<l.length:=by omega
    have m:=v8 A B
    obtain⟨a,b,c⟩:=EC (n:=n) w f j (dY l i j) (by omega) (by rw[V8];exact hl) (fun k d g y=>by
     rw[m,m];rw[A6 (show ¬(k-1) / 2=j from y)];by_cases u:k=j
     ·rw[A5 u];rw[u,A5 o];exact w.asy x
     ·rw[A6 u];by_cases p:(k-1) / 2=i
      ·rw[A5 p,A6 (by omega)];exact q k d g p
      ·rw[A6 p];by_cases v:k=i
       ·rw[A5 v,v];exact h2 j z (by omega) o (by omega)
       ·rw[A6 v];exact h1 k d g p) (fun k d g e D=>by
     rw[m,m,A6 (by omega),A6 (by omega),o,A6 (by omega),A5 rfl];have:=h1 k d g (by omega)
     rw[e]at this;exact this)
    refine⟨a,(SameL.swap A B).trans b,fun k d=>?_⟩;rw[c k d,m,A6 (by omega),A6 (by omega)]
theorem popH_ok{f:Int->Int->Bool}(w:Weak f){l:List Int}(h:uH f l.length l)(p:0<l.length) :
  uH f (l.length-1) (SI f l)/\SameL l (SI f l)/\N4 (SI f l) (l.length-1)=N4 l 0:=by
 unfold SI;have j:0<l.length:=p;have m:l.length-1<l.length:=by omega
 have d:=v8 j m
 obtain⟨a,b,c⟩:=EC w (n:=l.length-1) l.length 0 (dY l 0 (l.length-1)) (by omega) (by rw[V8];omega) (fun k o g i=>by
  rw[d,d,A6 (by omega),A6 (by omega),A6 (by omega),A6 i]
  exact h k (by omega) g) (fun k o g e q=>by omega)
 refine⟨a,(SameL.swap j m).trans b,?_⟩;rw[c _ (Nat.le_refl _),d,A5 rfl]
def iB(g:Graph)(c:Nat):Int:=(g[c]?.map (·.Date)).getD 0
def oS(g:Graph)(a b:Int):Bool:=decide (iB g a.toNat>iB g b.toNat\/(iB g a.toNat=iB g b.toNat/\a<b))
theorem oJ(g:Graph):Weak (oS g) where
 irr:=fun a=>by unfold oS;rw[decide_eq_false_iff_not];omega
 asy:=fun {a b} h=>by unfold oS at h ⊢;rw[decide_eq_true_eq]at h;rw[decide_eq_false_iff_not];omega
 ntr:=fun {a b c} h d=>by unfold oS at h d ⊢;rw[decide_eq_false_iff_not]at h d ⊢;omega
def fK(g:Graph)(inn:List Bool)(L:List Int)(c:Nat):Bool:=F9 inn c&&decide ((c:Int)∉L)&&(List.range g.length).all fun k=>!(decide ((c:Int)∈D8 g k)&&F9 inn k&&decide ((k:Int)∉L))
def rQ(g:Graph)(b:List Bool)(L:List Int):Nat->Int
 | 0 => -1
 | m+1=>if fK g b L m=true/\(rQ g b L m<0\/iB g m>iB g (rQ g b L m).toNat) then m else rQ g b L m
def JA(g:Graph)(a:List Bool)(L:List Int):Int:=rQ g a L g.length
theorem wH(g:Graph)(d:List Bool)(L:List Int):∀m,(rQ g d L m = -1/\∀c,c<m->fK g d L c=false)\/∃b:Nat,b<m/\rQ g d L m=b/\fK g d L b=true/\∀c,c<m->fK g d L c=true->c≠b->oS g b c=true
 | 0=>.inl ⟨rfl,fun _ h=>by omega⟩
 | m + 1=>by
  rw[rQ];rcases wH g d L m with ⟨p,j⟩ | ⟨b,p,j,h3,h4⟩
  ·rw[p];cases q:fK g d L m
   ·rw[A6 (by simp)]
    exact .inl ⟨rfl,fun c k=>by
     by_cases e:c=m
     ·rw[e];exact q
     ·exact j c (by omega)⟩
   ·rw[A5 ⟨rfl,.inl (by omega)⟩];exact .inr ⟨m,by omega,rfl,q,fun c k a f=>by rw[j c (by omega)]at a;cases a⟩
  ·rw[j];split
   ·rename_i h;have o:iB g m>iB g b:=by
     rcases h.2 with h | h
     ·omega
     ·simpa using h
    refine .inr ⟨m,by omega,rfl,h.1,fun c k a f=>?_⟩;unfold oS;rw[decide_eq_true_eq,C31,C31];by_cases e:c=b
    ·subst e;exact .inl o
    ·have:=A0 (h4 c (by omega) a e);rw[C31,C31]at this;omega
   ·rename_i h;refine .inr ⟨b,by omega,rfl,h3,fun c k a f=>?_⟩;by_cases e:c=m
    ·subst e;unfold oS;rw[decide_eq_true_eq,C31,C31];have:¬iB g c>iB g b:=fun o=>h ⟨a,.inr (by simpa using o)⟩;omega
    ·exact h4 c (by omega) a f
theorem XL{g:Graph}{a:List Bool}{L:List Int}(h:∀c,c<g.length->fK g a L c=false):JA g a L = -1:=by
 rcases wH g a L g.length with d | ⟨b,d,_,h3,_⟩
 ·exact d.1
 ·rw[h b d]at h3;cases h3
theorem B72{g:Graph}{a:List Bool}{L:List Int}{b:Nat}(hb:b<g.length)(f:fK g a L b=true)(h:∀c,c<g.length->fK g a L c=true->oS g c b=false):JA g a L=b:=by
 rcases wH g a L g.length with d | ⟨b',d,h2,h3,h4⟩
 ·rw[d.2 b hb]at f;cases f
 ·unfold JA;rw[h2];by_cases e:b=b'
  ·rw[e]
  ·have:=h4 b hb f e;rw[h b' d h3]at this;cases this
def zB(g:Graph)(inn:List Bool)(ex:List Int)(p:Nat):Nat:=(List.range g.length).countP fun c:Nat=>F9 inn c&&decide ((c:Int)∉ex/\(p:Int)∈D8 g c)
theorem JB{g:Graph}{inn:List Bool}{ex:List Int}{x p:Nat}(h:(x:Int)∉ex)(a:x<g.length)(b:F9 inn x=true):zB g inn ex p=zB g inn (ex++[(x:Int)]) p+(if (p:Int)∈D8 g x then 1 else 0):=by
 unfold zB;rw[rG (q:=fun c=>F9 inn c&&decide ((c:Int)∉ex/\(p:Int)∈D8 g c)) (r:=fun c=>F9 inn c&&decide ((c:Int)∉ex++[(x:Int)]/\(p:Int)∈D8 g c)) x (fun y=>?_) List.nodup_range]
 ·congr 1
  simp only[C40,a,true_and,decide_eq_true_eq,h,not_false_eq_true,b,Bool.true_and]
 ·simp only[C37,List.mem_singleton];by_cases d:(y:Int)∈ex<;>by_cases e:y=x<;>by_cases f:(p:Int)∈D8 g y<;>cases F9 inn y<;>simp[d,e,f]<;>omega
theorem A96{g:Graph}{inn:List Bool}{ex:List Int}{p:Nat}:zB g inn ex p=0↔∀c,c<g.length->F9 inn c=true->(p:Int)∈D8 g c->(c:Int)∈ex:=by
 unfold zB;rw[List.countP_eq_zero];constructor
 ·intro h c b e f;have:=h c (C40.2 b);rw[e,Bool.true_and,decide_eq_true_eq]at this;apply Classical.byContradiction;exact fun d=>this ⟨d,f⟩
 ·intro h c b a;rw[C30,decide_eq_true_eq]at a;exact a.2.1 (h c (C40.1 b) a.1 a.2.2)
theorem cntI_le(g:Graph)(inn:List Bool)(ex:List Int)(p:Nat):zB g inn ex p<=g.length:=by
 unfold zB;have:=List.countP_le_length (p:=fun c=>F9 inn c&&decide ((c:Int)∉ex/\(p:Int)∈D8 g c)) (l:=List.range g.length)
 rwa[C72]at this
structure OInv (g:Graph) (inn:List Bool) (k i:Nat) (ch hp out:List Int):Prop where
 len:ch.length=g.length
 cnt:∀p,p<g.length->F9 inn p=true->N4 ch p+(if (p:Int)∈(D8 g (out.getD k 0).toNat).take i then 1 else 0)=zB g inn (out.take k) p
 off:∀p,p<g.length->F9 inn p=false->N4 ch p = -1
 hpm:∀p:Nat,(p:Int)∈hp↔p<g.length/\F9 inn p=true/\(p:Int)∉out/\N4 ch p=0
 hpr:∀x∈hp,0<=x/\x<g.length
 hpn:hp.Nodup
 heap:uH (oS g) hp.length hp
 outn:out.Nodup
 outr:∀x∈out,0<=x/\x<g.length/\F9 inn x.toNat=true/\N4 ch x.toNat=0
theorem OInv.ready{g:Graph}{inn:List Bool}{n b a:List Int}(h:OInv g inn a.length 0 n b a){c:Nat}(o:c<g.length):fK g inn a c=true↔(c:Int)∈b:=by
 rw[h.hpm];unfold fK;rw[C30,C30,decide_eq_true_eq,List.all_eq_true];have j:F9 inn c=true->((∀x∈List.range g.length,(!(decide ((c:Int)∈D8 g x)&&F9 inn x&&decide ((x:Int)∉a)))=true)↔N4 n c=0):=by
  intro q;have d:=h.cnt c o q;rw[C44,List.take_zero,A6 (by simp)]at d;have f:=A96 (g:=g) (inn:=inn) (ex:=a) (p:=c);constructor
  ·intro i;have:zB g inn a c=0:=f.2 fun k m e b=>by
    have:=i k (C40.2 m);simpa[b,e] using this
   omega
  ·intro r k m;cases e:F9 inn k
   ·simp
   ·by_cases b:(c:Int)∈D8 g k
    ·have:=f.1 (by omega) k (C40.1 m) e b;simp[b,this]
    ·simp[b]
 constructor
 ·rintro⟨⟨d,f⟩,l⟩;exact⟨o,d,f,(j d).1 l⟩
 ·rintro⟨_,d,f,l⟩;exact⟨⟨d,f⟩,(j d).2 l⟩
theorem OInv.fin{g:Graph}{b:List Bool}{d a:List Int}(h:OInv g b a.length 0 d [] a):JA g b a = -1 :=
 XL fun c e=>by
  cases f:fK g b a c
  ·rfl
  ·have:=(h.ready e).1 f;cases this
theorem OInv.le{g:Graph}{b:List Bool}{k i:Nat}{e c a:List Int}(h:OInv g b k i e c a):a.length<=g.length/\c.length<=g.length :=
 ⟨dG h.outn fun x d=>⟨(h.outr x d).1,(h.outr x d).2.1⟩,dG h.hpn h.hpr⟩
theorem A97{l m:List Int}{n:Nat}(s:n+1=l.length)(hs:SameL l m)(j:l.Nodup){x:Int}(q:N4 m n=x):(∀y,y∈m.take n↔y∈l/\y≠x)/\(m.take n).Nodup/\(m.take n).length=n:=by
 have r:m.length=n+1:=by rw[hs.len,s]
 have i:=hs.nodup j;have c:n<m.length:=by omega
 have e:m=m.take n++[x]:=by
  have f:m.take (n+1)=m:=C65 (by omega);rw[List.take_add_one,C29 c,Option.toList_some]at f;rw[t7 c]at q;rw[q]at f;exact f.symm
 have a:=i;rw[e,List.nodup_append]at a;refine⟨fun y=>?_,a.1,by rw[C41];omega⟩;rw[<-hs.mem y];constructor
 ·intro b;exact⟨List.mem_of_mem_take b,a.2.2 y b x (by simp)⟩
 ·rintro⟨b,k⟩;rw[e]at b;rcases C37.1 b with b | b
  ·exact b
  ·exact absurd (List.mem_singleton.1 b) k
theorem OInv.pop{g:Graph}{m:List Bool}{B b f:List Int}(h:OInv g m f.length 0 B b f)(u:0<b.length) :
  JA g m f=N4 b 0/\OInv g m f.length 0 B ((SI (oS g) b).take (b.length-1)) (f++[N4 b 0])/\N4 (SI (oS g) b) (b.length-1)=N4 b 0:=by
 have z:N4 b 0∈b:=by rw[t7 u];exact C35 u
 have K:=h.hpr _ z;obtain⟨c,q⟩:∃c:Nat,N4 b 0=c:=⟨(N4 b 0).toNat,by omega⟩
 have i:=(h.hpm c).1 (by rw[<-q];exact z);obtain⟨I,J,E⟩:=popH_ok (oJ g) h.heap u;obtain⟨A,t2,t3⟩:=A97 (n:=b.length-1) (by omega) J h.hpn E;have hb:JA g m f=c:=B72 i.1 ((h.ready i.1).2 (by rw[<-q];exact z)) fun d F v=>by
  obtain⟨j,r,e⟩:=List.getElem_of_mem ((h.ready F).1 v);have:=A95 (oJ g) h.heap j r;rw[t7 r,e,q]at this;exact this
 refine⟨by rw[hb,q],?_,E⟩;rw[q]at A ⊢;refine⟨h.len,fun p b G=>?_,h.off,fun p=>?_,fun x l=>h.hpr x ((A x).1 l).1,t2,?_,?_,?_⟩
 ·have C:=h.cnt p b G;rw[List.take_zero,A6 (by simp)]at C ⊢;rw[dJ (Nat.le_refl _)];exact C
 ·rw[A,h.hpm,C37,List.mem_singleton,not_or];constructor
  ·rintro⟨⟨s,a2,a3,a4⟩,a5⟩;exact⟨s,a2,⟨a3,a5⟩,a4⟩
  ·rintro⟨s,a2,⟨a3,a5⟩,a4⟩;exact⟨⟨s,a2,a3,a4⟩,a5⟩
 ·rw[t3];intro k D w;have e:∀j,j<b.length-1->N4 ((SI (oS g) b).take (b.length-1)) j=N4 (SI (oS g) b) j:=fun j r=>by
   unfold N4;rw[List.getElem?_take,A5 r]
  rw[e k D,e _ (by omega)];exact I k D w
 ·exact List.nodup_append.2 ⟨h.outn,by simp,fun x l y H e=>by rw[List.mem_singleton.1 H]at e;exact i.2.2.1 (e ▸ l)⟩
 ·intro x l;rcases C37.1 l with l | l
  ·exact h.outr x l
  ·rw[List.mem_singleton.1 l,C31];exact⟨by omega,by omega,i.2.1,i.2.2.2⟩
theorem OInv.step{g:Graph}{inn:List Bool}(T:related g=true)(K:gJ g inn){k i:Nat}{o D b:List Int}(h:OInv g inn k i o D b)(W:k+1=b.length){c p:Nat}(A:b[k]?=some (c:Int))(H:i<(D8 g c).length)(u:(D8 g c)[i]=(p:Int)) :
  p<g.length/\1<=N4 o p/\N4 o p<=g.length/\D.length<g.length/\OInv g inn k (i+1) (bB o p) (if N4 o p-1=0 then SH (oS g) D p else D) b:=by
 have hkl:k<b.length:=by omega
 have A:b[k]=(c:Int):=by rw[C29 hkl]at A;exact Option.some.inj A
 have hpr:=N3 T c;have hpm:(p:Int)∈D8 g c:=by rw[<-u];exact C35 H
 have f:p<g.length:=by have:=hpr.1 p hpm;omega
 have B:=h.outr b[k] (C35 hkl);rw[A,C31]at B;have E:c<g.length:=by omega
 have s:F9 inn p=true:=by have:=K c B.2.2.1 p hpm;rwa[C31]at this
 have C:b.getD k 0=(c:Int):=by rw[C33,C29 hkl];exact A
 have N:(c:Int)∉b.take k:=by rw[<-A];exact Z4 h.outn hkl
 have M:(p:Int)∉(D8 g c).take i:=by rw[<-u];exact Z4 hpr.2 H
 have P:=h.cnt p f s;rw[C,C31,A6 M]at P;have Q:=JB (g:=g) (inn:=inn) (ex:=b.take k) (x:=c) (p:=p) N E B.2.2.1;rw[A5 hpm]at Q;have S:=cntI_le g inn (b.take k) p;have L:1<=N4 o p:=by omega
 have m:(p:Int)∉b:=fun j=>by have:=(h.outr _ j).2.2.2;rw[C31]at this;omega
 have w:(p:Int)∉D:=fun j=>by have:=((h.hpm p).1 j).2.2.2;omega
 have v:∀q,N4 (bB o p) q=if p=q then N4 o p-1 else N4 o q:=fun q=>by
  unfold bB;rw[C31,gK (by rw[h.len];exact f)]
 have F:D.length<g.length:=by
  have:=dG (l:=(c:Int)::D) (n:=g.length) (List.nodup_cons.2 ⟨fun j=>((h.hpm c).1 j).2.2.1 (by rw[<-A];exact C35 hkl),h.hpn⟩) fun x d=>by
   rcases C36.1 d with rfl | d
   ·omega
   ·exact h.hpr x d
  rw[C34]at this;omega
 obtain⟨V,G⟩:=SL (oJ g) (p:Int) h.heap;refine⟨f,L,by omega,F,⟨by unfold bB;rw[C73];exact h.len,?_,?_,?_,?_,?_,?_,h.outn,?_⟩⟩
 ·intro q O I;rw[C,C31,v q];by_cases e:p=q
  ·subst e;rw[A5 rfl,A5 ((X1 H).2 (.inr u.symm))];omega
  ·rw[A6 e];have z:=h.cnt q O I;rw[C,C31]at z;have R:((q:Int)∈(D8 g c).take (i+1))↔(q:Int)∈(D8 g c).take i:=by
    rw[X1 H,u];exact⟨fun h=>h.resolve_right (by omega),.inl⟩
   simp only[R];exact z
 ·intro q O I;rw[v q,A6 (fun e=>by rw[e,I]at s;cases s)];exact h.off q O I
 ·intro q;rw[v q];by_cases e:p=q
  ·subst e;rw[A5 rfl];split
   ·rename_i J;rw[G.mem];exact⟨fun _=>⟨f,s,m,J⟩,fun _=>by simp⟩
   ·rename_i J;exact⟨fun j=>absurd j w,fun j=>absurd j.2.2.2 J⟩
  ·rw[A6 e,<-h.hpm q];split
   ·rw[G.mem,C37,List.mem_singleton];exact⟨fun j=>j.resolve_right (by omega),.inl⟩
   ·exact Iff.rfl
 ·intro x d;split at d
  ·rw[G.mem,C37,List.mem_singleton]at d;rcases d with d | rfl
   ·exact h.hpr x d
   ·omega
  ·exact h.hpr x d
 ·split
  ·exact G.nodup (List.nodup_append.2 ⟨h.hpn,by simp,fun x d y U e=>by rw[List.mem_singleton.1 U]at e;exact w (e ▸ d)⟩)
  ·exact h.hpn
 ·split
  ·rw[G.len,C32,List.length_singleton];exact V
  ·exact h.heap
 ·intro x d;have z:=h.outr x d;refine⟨z.1,z.2.1,z.2.2.1,?_⟩;rw[v,A6 (fun e=>m (by rw[show ((p:Nat):Int)=x by omega];exact d))];exact z.2.2.2
theorem OInv.next{g:Graph}{inn:List Bool}{k:Nat}{m f a:List Int}(r:k+1=a.length){c:Nat}(b:a[k]?=some (c:Int))(h:OInv g inn k (D8 g c).length m f a):OInv g inn a.length 0 m f a:=by
 refine { h with cnt:=fun p f s=>?_ };have hkl:k<a.length:=by omega
 have b:a[k]=(c:Int):=by rw[C29 hkl]at b;exact Option.some.inj b
 have o:=h.cnt p f s;have i:a.getD k 0=(c:Int):=by rw[C33,C29 hkl];exact b
 have d:=h.outr a[k] (C35 hkl);rw[b,C31]at d;rw[i,C31,C44]at o;have q:=JB (g:=g) (inn:=inn) (ex:=a.take k) (x:=c) (p:=p) (by rw[<-b];exact Z4 h.outn hkl) (by omega) d.2.2.1;have e:a.take (k+1)=a.take k++[(c:Int)]:=by rw[List.take_add_one,C29 hkl,Option.toList_some,b]
 rw[<-r,e,List.take_zero,A6 (by simp)];split at o
 ·rename_i j;rw[A5 j]at q;omega
 ·rename_i j;rw[A6 j]at q;omega
structure HInv (g:Graph) (ch hp:List Int) (i:Nat):Prop where
 mem:∀p:Nat,(p:Int)∈hp↔p<i/\N4 ch p=0
 rng:∀x∈hp,0<=x/\x<i
 nodup:hp.Nodup
 heap:uH (oS g) hp.length hp
theorem HInv.nil(g:Graph)(a:List Int):HInv g a [] 0:=⟨fun p=>by simp,(fun _ h=>by cases h),List.nodup_nil,fun k b=>by simp at b⟩
theorem HInv.le{g:Graph}{b a:List Int}{i:Nat}(h:HInv g b a i):a.length<=i:=dG h.nodup h.rng
theorem HInv.step{g:Graph}{f k:List Int}{i:Nat}(h:HInv g f k i):HInv g f (if N4 f i=0 then SH (oS g) k (i:Int) else k) (i+1):=by
 obtain⟨o,d⟩:=SL (oJ g) (i:Int) h.heap;split
 ·rename_i j;refine⟨fun p=>?_,fun x c=>?_,d.nodup (List.nodup_append.2 ⟨h.nodup,by simp,fun x c y m e=>by rw[List.mem_singleton.1 m]at e;have:=h.rng x c;omega⟩),by rw[d.len,C32,List.length_singleton];exact o⟩
  ·rw[d.mem,C37,List.mem_singleton,h.mem];constructor
   ·rintro (⟨a,b⟩ | e)
    ·exact⟨by omega,b⟩
    ·have e:p=i:=by omega
     subst e;exact⟨by omega,j⟩
   ·rintro⟨a,b⟩;by_cases e:p=i
    ·right;omega
    ·exact .inl ⟨by omega,b⟩
  ·rw[d.mem,C37,List.mem_singleton]at c;rcases c with c | rfl
   ·have:=h.rng x c;omega
   ·omega
 ·rename_i j;refine⟨fun p=>?_,fun x c=>by have:=h.rng x c;omega,h.nodup,h.heap⟩;rw[h.mem];constructor
  ·rintro⟨a,b⟩;exact⟨by omega,b⟩
  ·rintro⟨a,b⟩;refine⟨?_,b⟩;apply Classical.byContradiction;intro q;have:p=i:=by omega
   subst this;exact j b
def XM(g:Graph)(D:List Int)(p:Nat):Nat:=D.countP fun x=>decide ((p:Int)∈D8 g x.toNat)
structure DInv (g:Graph) (inn:List Bool) (st:List Int) (k i:Nat) (ch opn D:List Int):Prop where
 len:ch.length=g.length
 nodup:(D++opn).Nodup
 on:∀x∈D++opn,0<=x/\x<g.length/\F9 inn x.toNat=true
 cnt:∀p:Nat,(p:Int)∈D++opn->N4 ch p=XM g (D.take k) p+(if (p:Int)∈(D8 g (D.getD k 0).toNat).take i then 1 else 0)
 off:∀p,p<g.length->(p:Int)∉D++opn->N4 ch p = -1
 clo:∀x∈D.take k,∀p∈D8 g x.toNat,p∈D++opn
 clo2:∀p∈(D8 g (D.getD k 0).toNat).take i,p∈D++opn
 sts:∀f∈st,f∈D++opn
theorem DInv.start(g:Graph)(a:List Bool):DInv g a [] 0 0 (List.replicate g.length (-1)) [] [] where
 len:=by simp
 nodup:=List.nodup_nil
 on:=fun _ h=>by cases h
 cnt:=fun _ h=>by cases h
 off:=fun p b _=>by unfold N4;rw[List.getElem?_replicate,A5 b];rfl
 clo:=fun _ h=>by cases h
 clo2:=fun _ h=>by simp at h
 sts:=fun _ h=>by cases h
theorem DInv.le{g:Graph}{b:List Bool}{st:List Int}{k i:Nat}{d a D:List Int}(h:DInv g b st k i d a D):D.length+a.length<=g.length:=by
 have:=dG h.nodup fun x c=>⟨(h.on x c).1,(h.on x c).2.1⟩
 rwa[C32]at this
theorem DInv.mem{g:Graph}{inn:List Bool}{st:List Int}{k i:Nat}{c a D:List Int}(h:DInv g inn st k i c a D){p:Nat}(e:p<g.length):N4 c p<0↔(p:Int)∉D++a:=by
 by_cases b:(p:Int)∈D++a
 ·have:=h.cnt p b;constructor
  ·intro f;split at this<;>omega
  ·exact fun d=>absurd b d
 ·have:=h.off p e b;exact⟨fun _=>b,fun _=>by omega⟩
theorem DInv.reach{g:Graph}{l:List Bool}{st:List Int}{k i:Nat}{m a D:List Int}(h:DInv g l st k i m a D)(_hk:k<=D.length){p:Nat}(s:p<g.length)(u:F9 l p=true)(st':List Int)(o:∀f∈st',f∈st\/f=p) :
  DInv g l st' k i (if N4 m p<0 then m.set p 0 else m) (if N4 m p<0 then a++[(p:Int)] else a) D/\(p:Int)∈D++(if N4 m p<0 then a++[(p:Int)] else a):=by
 split
 ·rename_i t;have j:=(h.mem s).1 t;refine⟨⟨by rw[C73];exact h.len,?_,?_,?_,?_,?_,?_,?_⟩,by simp⟩
  ·rw[<-C42];exact List.nodup_append.2 ⟨h.nodup,by simp,fun x c y v e=>by rw[List.mem_singleton.1 v]at e;exact j (e ▸ c)⟩
  ·intro x c;rw[<-C42]at c;rcases C37.1 c with c | c
   ·exact h.on x c
   ·rw[List.mem_singleton.1 c,C31];exact⟨by omega,by omega,u⟩
  ·intro q b;rw[gK (by rw[h.len];exact s)];by_cases e:p=q
   ·subst e;rw[A5 rfl,A6 (fun n=>j (h.clo2 _ n))];have:XM g (D.take k) p=0:=by
     unfold XM;rw[List.countP_eq_zero];intro x c n;exact j (h.clo x c _ (A0 n))
    rw[this];rfl
   ·rw[A6 e];rw[<-C42]at b;rcases C37.1 b with b | b
    ·exact h.cnt q b
    ·exact absurd (List.mem_singleton.1 b) (by omega)
  ·intro q b r;rw[<-C42,C37,not_or,List.mem_singleton]at r;rw[gK (by rw[h.len];exact s),A6 (by omega)];exact h.off q b r.1
  ·intro x c q b;rw[<-C42];exact List.mem_append_left _ (h.clo x c q b)
  ·intro q b;rw[<-C42];exact List.mem_append_left _ (h.clo2 q b)
  ·intro f d;rw[<-C42];rcases o f d with d | rfl
   ·exact List.mem_append_left _ (h.sts f d)
   ·simp
 ·rename_i t;have n:(p:Int)∈D++a:=by
   apply Classical.byContradiction;intro r;exact t ((h.mem s).2 r)
  refine⟨{ h with sts:=fun f d=>?_ },n⟩;rcases o f d with d | rfl
  ·exact h.sts f d
  ·exact n
theorem DInv.count{g:Graph}{v:List Bool}{st:List Int}{k i:Nat}{f j D:List Int}(h:DInv g v st k i f j D){c p:Nat}(G:related g=true)(m:D.getD k 0=(c:Int))(o:i<(D8 g c).length)(b:(D8 g c)[i]=(p:Int))(w:(p:Int)∈D++j) :
  0<=N4 f p/\N4 f p<=g.length/\DInv g v st k (i+1) (bump f p) j D:=by
 have hpr:=N3 G c;have s:p<g.length:=by have:=hpr.1 p (by rw[<-b];exact C35 o);omega
 have B:=h.cnt p w;have y:(p:Int)∉(D8 g c).take i:=by rw[<-b];exact Z4 hpr.2 o
 rw[m,C31,A6 y]at B;have F:XM g (D.take k) p<=g.length:=by
  unfold XM;have C:=List.countP_le_length (p:=fun x:Int=>decide ((p:Int)∈D8 g x.toNat)) (l:=D.take k);rw[C41]at C;have:=h.le;omega
 have u:∀q,N4 (bump f p) q=if p=q then N4 f p+1 else N4 f q:=fun q=>by
  unfold bump;rw[C31,gK (by rw[h.len];exact s)]
 refine⟨by omega,by omega,{ h with len:=by unfold bump;rw[C73];exact h.len,cnt:=fun q d=>?_,off:=fun q d A=>?_,clo2:=fun q d=>?_ }⟩
 ·rw[u q,m,C31];by_cases e:p=q
  ·subst e;rw[A5 rfl,A5 ((X1 o).2 (.inr b.symm))];omega
  ·rw[A6 e];have z:=h.cnt q d;rw[m,C31]at z;have E:((q:Int)∈(D8 g c).take (i+1))↔(q:Int)∈(D8 g c).take i:=by
    rw[X1 o,b];exact⟨fun h=>h.resolve_right (by omega),.inl⟩
   simp only[E];exact z
 ·rw[u q,A6 (show ¬p=q from fun e=>A (by rw[<-e];exact w))];exact h.off q d A
 ·rw[m,C31]at d;rcases (X1 o).1 d with d | rfl
  ·exact h.clo2 q (by rw[m,C31];exact d)
  ·rw[b];exact w
theorem DInv.pop{g:Graph}{s:List Bool}{st:List Int}{u d D:List Int}{c:Int}(h:DInv g s st D.length 0 u (d++[c]) D):DInv g s st D.length 0 u d (D++[c]):=by
 have b:∀x,x∈(D++[c])++d↔x∈D++(d++[c]):=fun x=>by
  simp only[C37,List.mem_singleton];constructor
  ·rintro ((h | h) | h)
   ·exact .inl h
   ·exact .inr (.inr h)
   ·exact .inr (.inl h)
  ·rintro (h | h | h)
   ·exact .inl (.inl h)
   ·exact .inr h
   ·exact .inl (.inr h)
 have v:(D++[c]).take D.length=D:=by rw[dJ (Nat.le_refl _),C44]
 refine⟨h.len,?_,fun x m=>h.on x ((b x).1 m),fun p o=>?_,fun p o A=>h.off p o fun z=>A ((b _).2 z),fun x m p o=>?_,fun p o=>by simp at o,fun f w=>(b f).2 (h.sts f w)⟩
 ·have j:=h.nodup;rw[List.nodup_append,List.nodup_append]at j;rw[C42,List.nodup_append,List.nodup_append];refine⟨j.1,⟨by simp,j.2.1.1,fun x m y q e=>?_⟩,fun x m y q=>?_⟩
  ·exact j.2.1.2.2 y q x m e.symm
  ·refine j.2.2 x m y ?_;rcases C37.1 q with q | q
   ·exact List.mem_append_right _ q
   ·exact List.mem_append_left _ q
 ·have j:=h.cnt p ((b _).1 o);rw[List.take_zero,A6 (by simp),C44]at j;rw[v,List.take_zero,A6 (by simp)];exact j
 ·rw[v]at m;exact (b p).2 (h.clo x (by rw[C44];exact m) p o)
theorem DInv.next{g:Graph}{inn:List Bool}{st:List Int}{k:Nat}{j d D:List Int}{c:Nat}(o:k+1=D.length)(f:D.getD k 0=(c:Int))(h:DInv g inn st k (D8 g c).length j d D):DInv g inn st D.length 0 j d D:=by
 have hkl:k<D.length:=by omega
 have i:D[k]?=some (c:Int):=by
  rw[C33,C29 hkl]at f;rw[C29 hkl];exact congrArg some f
 have e:D.take D.length=D.take k++[(c:Int)]:=by rw[<-o,List.take_add_one,i,Option.toList_some]
 refine { h with cnt:=fun p a=>?_,clo:=fun x b p a=>?_,clo2:=fun p a=>by simp at a }
 ·have m:=h.cnt p a;rw[f,C31,C44]at m;rw[List.take_zero,A6 (show ¬(p:Int)∈([]:List Int) by simp),m,e];unfold XM;rw[List.countP_append,List.countP_singleton,C31];by_cases q:(p:Int)∈D8 g c<;>simp[q]
 ·rw[e]at b;rcases C37.1 b with b | b
  ·exact h.clo x b p a
  ·rw[List.mem_singleton.1 b,C31]at a;exact h.clo2 p (by rw[f,C31,C44];exact a)
theorem SM{q:Int->Bool}{l m:List Int}(b:l.Nodup)(d:m.Nodup)(h:∀x,x∈l↔x∈m):l.countP q=m.countP q:=by
 rw[List.countP_eq_length_filter,List.countP_eq_length_filter];have a:∀{l m:List Int},l.Nodup->(∀x,x∈l↔x∈m)->(l.filter q).length<=(m.filter q).length:=fun b h =>
  oG (b.filter _) fun x c=>by
   rw[List.mem_filter]at c ⊢;exact⟨(h x).1 c.1,c.2⟩
 have f:=a b h;have i:=a d fun x=>(h x).symm;omega
theorem DInv.fin{g:Graph}{s z D:List Int}(I:related g=true)(hs:∀f∈s,0<=f/\f<g.length)(h:DInv g (N0 g s) s D.length 0 z [] D) :
  ∀p,p<g.length->N4 z p=if F9 (N0 g s) p=true then (zB g (N0 g s) [] p:Int) else -1:=by
 have b:∀p:Nat,F9 (N0 g s) p=true↔(p:Int)∈D:=by
  intro p;constructor
  ·intro j;obtain⟨f,F,d⟩:=(oI I hs p).1 j;clear j;have A:(f:Int)∈D:=by simpa using h.sts f F
   have v:∀x:Nat,(x:Int)∈D->∀q:Nat,(q:Int)∈D8 g x->(q:Int)∈D:=fun x k q H=>by
    have:=h.clo x (by rw[C44];exact k) q (by rw[C31];exact H);simpa using this
   rcases d with rfl | d
   ·exact A
   ·induction d with
    | one h=>exact v _ A _ h
    | more _ d J=>exact v _ J _ d
  ·intro w;have:=(h.on p (by simpa using w)).2.2
   rwa[C31]at this
 intro p G;split
 ·rename_i j;have B:=h.cnt p (by simpa using (b p).1 j);rw[C44,List.take_zero,A6 (by simp)]at B;rw[B,Int.add_zero]
  congr 1
  have C:D.Nodup:=by have:=h.nodup;rwa[C60]at this
  have d:∀x∈D,0<=x/\x<g.length:=fun x k=>by
   have:=h.on x (by simpa using k);exact⟨this.1,this.2.1⟩
  unfold XM zB;have e:(List.range g.length).countP (fun c=>F9 (N0 g s) c&&decide ((c:Int)∉([]:List Int)/\(p:Int)∈D8 g c))=(((List.range g.length).filter fun c=>F9 (N0 g s) c).map fun c:Nat=>(c:Int)).countP fun x=>decide ((p:Int)∈D8 g x.toNat):=by
   rw[List.countP_map,List.countP_filter];refine List.countP_congr fun c _=>?_;simp only[C66,not_false_eq_true,true_and,Function.comp_def,C31,C30,decide_eq_true_eq];exact And.comm
  rw[e];refine SM C ((List.nodup_range.filter _).map (fun i:Nat=>(i:Int)) fun _ _ y e=>y (Int.ofNat.inj e)) fun x=>?_;rw[C54];constructor
  ·intro k;have:=d x k;refine⟨x.toNat,List.mem_filter.2 ⟨C40.2 (by omega),(b _).2 (by rw[Int.toNat_of_nonneg this.1];exact k)⟩,by omega⟩
  ·rintro⟨c,E,rfl⟩;exact (b c).1 (List.mem_filter.1 E).2
 ·rename_i j;exact h.off p G fun w=>j ((b p).2 (by simpa using w))
theorem OInv.start{g:Graph}{c:List Bool}{f d:List Int}(j:f.length=g.length)(_hin:c.length=g.length)(i:∀p,p<g.length->N4 f p=if F9 c p=true then (zB g c [] p:Int) else -1)(h:HInv g f d g.length):OInv g c 0 0 f d [] where
 len:=j
 cnt:=fun p d e=>by rw[i p d,A5 e,List.take_zero,List.take_zero];simp
 off:=fun p d e=>by rw[i p d,e];rfl
 hpm:=fun p=>by
  rw[h.mem];constructor
  ·rintro⟨a,b⟩;refine⟨a,?_,by simp,b⟩;cases e:F9 c p
   ·rw[i p a,e]at b;simp at b
   ·rfl
  ·rintro⟨a,_,_,b⟩;exact⟨a,b⟩
 hpr:=h.rng
 hpn:=h.nodup
 heap:=h.heap
 outn:=List.nodup_nil
 outr:=fun _ h=>by cases h
def O8(g:Graph)(c:Nat):List File:=(g[c]?.map (·.Files)).getD []
def oK(g:Graph)(c:Nat):List (List File):=if D8 g c=[] then [[]] else (D8 g c).map fun p=>O8 g p.toNat
def cU(l:List File)(p:Str):Str:=(U8 l p).getD []
def iY(g:Graph)(c:Int):Prop:=0<=c/\c<g.length
instance (g:Graph) (c:Int):Decidable (iY g c):=inferInstanceAs (Decidable (_/\_))
section
structure Set4 where
 a:Int
 b:Int
 c:Int
 d:Int
 deriving DecidableEq
def orI(x y:Int):Int:=((x.toNat ||| y.toNat:Nat):Int)
def set0:Set4:=⟨0,0,0,0⟩
def Set4.with_(s:Set4)(c:Nat):Set4:=match c / 64 with
 | 0=>{ s with a:=orI s.a (2 ^ (c % 64)) }
 | 1=>{ s with b:=orI s.b (2 ^ (c % 64)) }
 | 2=>{ s with c:=orI s.c (2 ^ (c % 64)) }
 | _=>{ s with d:=orI s.d (2 ^ (c % 64)) }
def JC:Nat->Nat->Set4->Set4
 | 0,_,s=>s
 | n+1,c,s=>JC n (c+1) (s.with_ c)
def Set4.through(s:Set4)(a b:Nat):Set4:=JC (b+1-a) a s
def Set4.compl(s:Set4):Set4:=⟨18446744073709551615-s.a,18446744073709551615-s.b,18446744073709551615-s.c,18446744073709551615-s.d⟩
def namedS(s:Set4)(name:Str):Option Set4 :=
 if name=[97,108,112,104,97] then some ((s.through 97 122).through 65 90)
 else if name=[100,105,103,105,116] then some (s.through 48 57)
 else if name=[97,108,110,117,109] then some (((s.through 97 122).through 65 90).through 48 57)
 else if name=[117,112,112,101,114] then some (s.through 65 90)
 else if name=[108,111,119,101,114] then some (s.through 97 122)
 else if name=[115,112,97,99,101] then some ((s.through 9 13).with_ 32)
 else if name=[112,117,110,99,116] then some ((((s.through 33 47).through 58 64).through 91 96).through 123 126)
 else none
structure Node where
 Kind:Int
 Set:Set4
 Min:Int
 Max:Int
 Kids:List Int
 deriving DecidableEq
def JD:Node:=⟨0,set0,0,0,[]⟩
structure PSt where
 at_:Nat
 depth:Nat
 nodes:List Node
abbrev Ps(α:Type):=Except Int (PSt×α)
section
variable (s:Str)
def ED(c:UInt8)(st:PSt):Bool:=decide (s[st.at_]?=some c)
def PSt.skip(st:PSt)(n:Nat):PSt:={ st with at_:=st.at_+n }
def hasSt(c:UInt8)(st:PSt):PSt:=if ED s c st=true then st.skip 1 else st
def takeP(st:PSt):Ps UInt8:=match s[st.at_]? with
 | none=>.error 40
 | some c=>.ok (st.skip 1,c)
def addP(n:Node)(st:PSt):PSt×Int:=({ st with nodes:=st.nodes++[n] },st.nodes.length)
def XN(a:Int)(kids:List Int)(st:PSt):PSt×Int:=match kids with
 | []=>addP JD st
 | [k]=>(st,k)
 | _=>addP { JD with Kind:=a,Kids:=kids } st
def setP(t:Set4)(st:PSt):PSt×Int:=addP { JD with Kind:=1,Set:=t } st
def starts2(a b:UInt8)(l:Str):Bool:=decide (l[0]?=some a/\l[1]?=some b)
def itemP(t:Set4)(st:PSt):Ps Set4 :=
 let rest:=s.drop st.at_
 if starts2 91 58 rest=true then
  let r:=rest.drop 2
  if Lib.index r [58,93]<0 then .error 40
  else match namedS t (r.take (Lib.index r [58,93]).toNat) with
   | none=>.error 40
   | some b=>.ok (st.skip (4+(Lib.index r [58,93]).toNat),b)
 else match s[st.at_]? with
  | none=>.error 40
  | some c =>
   let r:=s.drop (st.at_+1)
   if r.length<2\/r[0]?≠some 45\/r[1]?=some 93 then .ok (st.skip 1,t.with_ c.toNat)
   else if (r.getD 1 0).toNat<c.toNat then .error 40
   else .ok (st.skip 3,t.through c.toNat (r.getD 1 0).toNat)
def itemsP:Nat->Set4->PSt->Ps Set4
 | 0,_,_=>.error 0
 | f+1,t,st=>if ED s 93 st=true then .ok (st.skip 1,t) else match itemP s t st with
  | .error e=>.error e
  | .ok (st',t')=>itemsP f t' st'
def classP(f:Nat)(st:PSt):Ps Int :=
 let a:=st.skip 1;let b:=hasSt s 94 a
 match itemP s set0 b with
 | .error e=>.error e
 | .ok (st3,t)=>match itemsP s f t st3 with
  | .error e=>.error e
  | .ok (st4,t')=>.ok (setP (if ED s 94 a=true then t'.compl else t') st4)
def ZV(a:Int)(st:PSt):Ps Int :=
 let r:=addP { JD with Kind:=a } (st.skip 1)
 match s[r.1.at_]? with
 | some c=>if c∈([42,43,63,123]:Str) then .error 40 else .ok r
 | none=>.ok r
def numP(a:Str->Nat->Option (Int×Nat))(st:PSt):Ps Int:=match a s st.at_ with
 | none=>.error 40
 | some (n,e)=>if n>100 then .error 40 else .ok ({ st with at_:=e },n)
def boundsP(d:Str->Nat->Option (Int×Nat))(st:PSt):Ps (Int×Int):=match numP s d st with
 | .error e=>.error e
 | .ok (st1,least) =>
  let fin:=fun (st:PSt) (a:Int)=>(if ED s 125 st=false\/(0<=a/\a<least) then .error 40 else .ok (st.skip 1,(least,a)):Ps (Int×Int))
  if ED s 44 st1=true then
   let b:=st1.skip 1
   match s[b.at_]? with
   | none=>fin b (-1)
   | some c=>if c=125 then fin b (-1) else match numP s d b with
    | .error e=>.error e
    | .ok (st3,a)=>fin st3 a
  else fin st1 least
def quantP(a:Str->Nat->Option (Int×Nat))(st:PSt):Ps (Option (Int×Int)) :=
 if ED s 42 st=true then .ok (st.skip 1,some (0,-1))
 else if ED s 43 st=true then .ok (st.skip 1,some (1,-1))
 else if ED s 63 st=true then .ok (st.skip 1,some (0,1))
 else if ED s 123 st=true then match boundsP s a (st.skip 1) with
  | .error e=>.error e
  | .ok (st',b)=>.ok (st',some b)
 else .ok (st,none)
def ZW(st:PSt):Ps Int:=match takeP s st with
 | .error e=>.error e
 | .ok (st',c)=>.ok (setP (set0.with_ c.toNat) st')
def escapeP(st:PSt):Ps Int:=ZW s (st.skip 1)
def anyP(st:PSt):PSt×Int:=setP set0.compl (st.skip 1)
def uI(a:Str->Nat->Option (Int×Nat))(r:Ps Int):Ps Int:=match r with
 | .error e=>.error e
 | .ok (st,atom)=>match quantP s a st with
  | .error e=>.error e
  | .ok (st',none)=>.ok (st',atom)
  | .ok (st',some (least,most))=>.ok (addP { JD with Kind:=6,Min:=least,Max:=most,Kids:=[atom] } st')
mutual
def patP(a:Str->Nat->Option (Int×Nat)):Nat->PSt->Ps Int
 | 0,_=>.error 0
 | f+1,st=>match altP a f st [] with
  | .error e=>.error e
  | .ok (st',k)=>NH a f st' [k]
def NH(a:Str->Nat->Option (Int×Nat)):Nat->PSt->List Int->Ps Int
 | 0,_,_=>.error 0
 | f+1,st,kids=>if ED s 124 st=true then match altP a f (st.skip 1) [] with
   | .error e=>.error e
   | .ok (st',k)=>NH a f st' (kids++[k])
  else .ok (XN 5 kids st)
def altP(a:Str->Nat->Option (Int×Nat)):Nat->PSt->List Int->Ps Int
 | 0,_,_=>.error 0
 | f+1,st,kids=>match s[st.at_]? with
  | none=>.ok (XN 4 kids st)
  | some c=>if c=124\/c=41 then .ok (XN 4 kids st) else match pieceP a f st c with
   | .error e=>.error e
   | .ok (st',k)=>altP a f st' (kids++[k])
def pieceP(a:Str->Nat->Option (Int×Nat)):Nat->PSt->UInt8->Ps Int
 | 0,_,_=>.error 0
 | f+1,st,c =>
  if c=94 then ZV s 2 st
  else if c=36 then ZV s 3 st
  else if c=40 then uI s a (parenP a f st)
  else if c=91 then uI s a (classP s (s.length+2) st)
  else if c=46 then uI s a (.ok (anyP st))
  else if c=92 then uI s a (escapeP s st)
  else if c∈([42,43,63,123]:Str) then .error 40
  else uI s a (ZW s st)
def parenP(a:Str->Nat->Option (Int×Nat)):Nat->PSt->Ps Int
 | 0,_=>.error 0
 | f+1,st=>if st.depth=50 then .error 1 else match patP a f { st with at_:=st.at_+1,depth:=st.depth+1 } with
  | .error e=>.error e
  | .ok (st',n)=>if ED s 41 st'=true then .ok ({ st' with at_:=st'.at_+1,depth:=st'.depth-1 },n) else .error 40
end
end
def fitsN(n:Node)(i:Int):Bool:=n.Kids.all (fun k=>decide (0<=k/\k<i)) &&
 (if n.Kind=0\/n.Kind=1\/n.Kind=2\/n.Kind=3 then decide (n.Kids.length=0)
 else if n.Kind=4\/n.Kind=5 then decide (2<=n.Kids.length)
 else if n.Kind=6 then decide (n.Kids.length=1/\0<=n.Min/\n.Min<=100/\(n.Max = -1\/n.Min<=n.Max/\n.Max<=100)) else false)
structure State where
 Kind:Int
 Set:Set4
 Next:Int
 Other:Int
 deriving DecidableEq
structure Auto where
 States:List State
 Start:Int
 deriving DecidableEq
def kW:State:=⟨0,set0,0,0⟩
abbrev Bld:=List State×Int
def addS(q:State)(st:List State):Bld:=(st++[q],st.length)
section
variable (ns:List Node) (w:List Int)
mutual
def wI:Nat->Int->Int->List State->Option Bld
 | 0,_,_,_=>none
 | f + 1,i,next,st =>
  if N4 w i.toNat=0 then some (st,next)
  else
   let n:=ns.getD i.toNat JD
   if n.Kind=1 then some (addS { kW with Kind:=0,Set:=n.Set,Next:=next } st)
   else if n.Kind=2 then some (addS { kW with Kind:=2,Next:=next } st)
   else if n.Kind=3 then some (addS { kW with Kind:=3,Next:=next } st)
   else if n.Kind=4 then catB f n.Kids.reverse next st
   else if n.Kind=5 then match n.Kids.reverse with
    | []=>none
    | k::r=>match wI f k next st with
     | none=>none
     | some (st',start)=>altB f r next start st'
   else if n.Kind=6 then
    let c:=n.Kids.getD 0 0
    if n.Max<0 then
     let b:Int:=st.length
     match wI f c b (st++[{ kW with Kind:=1,Other:=next }]) with
     | none=>none
     | some (st',start)=>minB f c n.Min.toNat b (st'.set b.toNat { (st'.getD b.toNat kW) with Next:=start })
    else match maxB f c (n.Max-n.Min).toNat next next st with
     | none=>none
     | some (st',next')=>minB f c n.Min.toNat next' st'
   else some (st,next)
def catB:Nat->List Int->Int->List State->Option Bld
 | 0,_,_,_=>none
 | _+1,[],next,st=>some (st,next)
 | f+1,k::r,next,st=>match wI f k next st with
  | none=>none
  | some (st',next')=>catB f r next' st'
def altB:Nat->List Int->Int->Int->List State->Option Bld
 | 0,_,_,_,_=>none
 | _+1,[],_,start,st=>some (st,start)
 | f+1,k::r,next,start,st=>match wI f k next st with
  | none=>none
  | some (st',b)=>altB f r next st'.length (st'++[{ kW with Kind:=1,Next:=b,Other:=start }])
def maxB:Nat->Int->Nat->Int->Int->List State->Option Bld
 | 0,_,_,_,_,_=>none
 | _+1,_,0,_,next,st=>some (st,next)
 | f+1,kid,m+1,last,next,st=>match wI f kid next st with
  | none=>none
  | some (st',b)=>maxB f kid m last st'.length (st'++[{ kW with Kind:=1,Next:=b,Other:=last }])
def minB:Nat->Int->Nat->Int->List State->Option Bld
 | 0,_,_,_,_=>none
 | _+1,_,0,next,st=>some (st,next)
 | f+1,kid,m+1,next,st=>match wI f kid next st with
  | none=>none
  | some (st',next')=>minB f kid m next' st'
end
end
end
def ZX(q:State)(start fin:Bool):List Int :=
 if q.Kind=1 then [q.Next,q.Other] else if q.Kind=2 then (if start=true then [q.Next] else []) else if q.Kind=3 then (if fin=true then [q.Next] else []) else []
def JE(n:Int)(q:State):Bool :=
 if q.Kind=0\/q.Kind=2\/q.Kind=3 then decide (0<=q.Next/\q.Next<n)
 else if q.Kind=1 then decide (0<=q.Next/\q.Next<n/\0<=q.Other/\q.Other<n)
 else decide (q.Kind=4)
def checkA(a:Auto):Int:=if a.States.length<1\/a.States.length>8000\/a.Start<0\/a.Start>=a.States.length then 2 else if a.States.all (JE a.States.length)=true then 0 else 2
structure Thread where
 state:Int
 from_:Int
 deriving DecidableEq
abbrev Mach:=List Thread×List Bool
section
variable (a:Auto) (s:Str)
def oT(i:Int):State:=a.States.getD i.toNat kW
def bitSet(q:Set4)(c:Nat):Int:=match c / 64 with
 | 0=>q.a.fdiv (2 ^ (c % 64)) % 2
 | 1=>q.b.fdiv (2 ^ (c % 64)) % 2
 | 2=>q.c.fdiv (2 ^ (c % 64)) % 2
 | _=>q.d.fdiv (2 ^ (c % 64)) % 2
def SN(fr:Int):List Thread->List Thread
 | []=>[]
 | t::r=>if t.from_>fr then [] else t::SN fr r
end
def nH(s:Str):Str:=Lib.trimSuffix s [10]
def EE(s:Str):List Str×Int:=if 65536<s.length then ([],1) else if (X4 s).2≠0\/100<(X4 s).1.length then ([],1) else ((X4 s).1.map nH,0)
def gM(P:List Str)(i:Nat):List Str:=(P.take i).map nH++P.drop i
theorem A98(P:List Str)(i:Nat):(gM P i).length=P.length:=by
 unfold gM;rw[C32,C55,<-C32,C70]
theorem A99{P:List Str}{i:Nat}(h:i<P.length):(gM P i)[i]?=some P[i]:=by
 unfold gM;rw[C52 (by rw[C55,C41];omega),C55,C41,Nat.min_eq_left (by omega),C86,C61,Nat.add_zero];exact C29 h
theorem B00{P:List Str}{i:Nat}(h:i<P.length):(gM P i).set i (nH P[i])=gM P (i+1):=by
 unfold gM;rw[List.set_append_right _ _ (by rw[C55,C41];omega),C55,C41,Nat.min_eq_left (by omega),C86,C38 h,List.set_cons_zero,List.take_add_one,C29 h,Option.toList_some,C50,C42];rfl
theorem B01(P:List Str):gM P P.length=P.map nH:=by
 unfold gM;rw[C44,List.drop_length,C60]
theorem XO(P:List Str):gM P 0=P:=by simp[gM]
end Go.AL
