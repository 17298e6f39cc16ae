/- Plain facts about data; no project text. -/
import Derived.Test.YtbflhoahmmfkmaaGreatDoorD
import Derived.Lib.Strings
import Derived.Lib.Bytealg
import Derived.Lib.Join
import Derived.Lib.ItoaNum
import Derived.Test.YtbflhoahmmfkmaaGreatDoorAn
import Derived.Lib.IndexMore
set_option linter.all false
namespace Go.AL
open Go
theorem KU(c:UInt8):((c.toNat:Int)=10)↔c=10:=by
 constructor
 ·intro h;have:c.toNat=10:=by omega
  exact UInt8.toNat_inj.1 (by simpa using this)
 ·rintro rfl;rfl
def F8(a:Str):Str->List Str
 | []=>if a=[] then [] else [a]
 | c::r=>if c=10 then (a++[c])::F8 [] r else F8 (a++[c]) r
def D8(b:Str):List Str:=F8 [] b
theorem bY(a:Str)(s:Str):(F8 a s).length<=s.length+1:=by
 induction s generalizing a with
 | nil=>unfold F8;split<;>simp
 | cons c r b=>unfold F8;split<;>simp<;>(have:=b [];have:=b (a++[c]);omega)
theorem eH(s:Str):(F8 [] s).length<=s.length:=by
 have b:∀(s a:Str),a≠[]->(F8 a s).length<=s.length+1:=fun s a _=>bY a s;induction s with
 | nil=>simp[F8]
 | cons c r d=>unfold F8;split<;>simp<;>(have:=bY ([]++[c]) r;simp at this;omega)
theorem s7(b:Str):(D8 b).length<=b.length:=eH b
theorem d9(a r:Str)(c:UInt8):F8 a (c::r)=if c=10 then (a++[c])::F8 [] r else F8 (a++[c]) r:=rfl
theorem tY(a:Str)(h:a≠[]):F8 a []=[a]:=by simp[F8,h]
theorem or_pick{p q:Prop}[Decidable p][Decidable q]:(if decide p=true then true else decide q)=decide (p\/q):=by by_cases p<;>simp[*]
theorem and_pick{p q:Prop}[Decidable p][Decidable q]:(if decide p=true then decide q else false)=decide (p/\q):=by by_cases p<;>simp[*]
theorem w7{α:Type}(l:List (List α))(i:Nat)(h:i<l.length):(l.take (i+1)).flatten=(l.take i).flatten++l[i]:=by
 rw[List.take_add_one,RG h,Option.toList_some,SZ];simp
theorem bZ{α:Type}(l:List (List α))(i:Nat):(l.take i).flatten.length<=l.flatten.length:=by
 conv=>rhs;rw[<-SW i l,SZ,RK]
 omega
theorem AD(i:Nat):((i:Int)+1).toNat=i+1:=by omega
theorem rT{α:Type}(b:List α)(f i:Nat)(d:f<=i)(c:i<b.length):(b.drop f).take (i-f)++[b[i]]=(b.drop f).take (i+1-f):=by
 rw[show i+1-f=(i-f)+1 by omega,List.take_add_one,SO,show f+(i-f)=i by omega,RG c];rfl
def ended(s:Str):Bool:=s.getLast? == some 10
theorem HL(s:Str):ended s=(if decide (s≠[])=true then decide (((s.getLastD 0).toNat:Int)=10) else false):=by
 unfold ended;by_cases h:s=[]
 ·simp[h]
 ·rw[List.getLast?_eq_some_getLast h,List.getLastD_eq_getLast?,List.getLast?_eq_some_getLast h];simp only[ne_eq,h,not_false_eq_true,decide_true,if_true,Option.getD_some,KU];rfl
def J6:List Str->Str->Int->Int
 | [],_,_ => -1
 | x::r,s,i=>if x=s then i else J6 r s (i+1)
def V1(s:Str):Bool:=s.dropLast.all (·≠10)&&s != []
def AE:List Str->Bool
 | []=>true
 | s::r=>V1 s&&(r.isEmpty||ended s)&&AE r
def U4(b:Str):Int:=if b.length>1048576\/(D8 b).length>4096 then 1 else 0
def LP(l:List Str):Str×Int:=if AE l=false then ([],2) else if l.flatten.length>1048576\/l.length>4096 then ([],1) else (l.flatten,0)
def J8(a:List Str)(s:Str):List Str:=if s∈a then a else a++[s]
def F2(files:List (List Str)):List Str:=files.flatten.foldl J8 []
def J7(a:List Str)(b:List Str):List Int:=b.map (fun s=>J6 a s 0)
theorem kB(a:List Str)(s:Str):(J8 a s).length<=a.length+1:=by unfold J8;split<;>simp
theorem fV(l a:List Str):(l.foldl J8 a).length<=a.length+l.length:=by
 induction l generalizing a with
 | nil=>simp
 | cons s r b=>have c:=b (J8 a s);have d:=kB a s;simp only[SI,RJ];omega
theorem oN(a:List (List Str)):(F2 a).length<=a.flatten.length:=by have:=fV a.flatten [];simpa[F2] using this
def R8(i j:Int):List Span->Int->Int->List Change
 | [],m,n=>if m>i\/n>j then [⟨i,m-i,j,n-j⟩] else []
 | x::r,m,n=>(if x.From>i\/x.To>j then [⟨i,x.From-i,j,x.To-j⟩] else [])++R8 (x.From+1) (x.To+1) r m n
def dA(p:List Span)(m n:Int):List Change:=R8 0 0 p m n
theorem qI(p:List Span)(i j m n:Int):(R8 i j p m n).length<=p.length+1:=by
 induction p generalizing i j with
 | nil=>unfold R8;split<;>simp
 | cons x r a=>unfold R8;have:=a (x.From+1) (x.To+1);split<;>simp<;>omega
def K5(i j:Int)(n:Nat):List Span:=(List.range n).map fun (t:Nat)=>⟨i+(t:Int),j+(t:Int)⟩
theorem T7(i j:Int)(n:Nat):(K5 i j n).length=n:=by simp[K5]
theorem tZ(i j:Int)(n:Nat):K5 i j (n+1)=⟨i,j⟩::K5 (i+1) (j+1) n:=by
 unfold K5;rw[List.range_succ_eq_map,RW,SX]
 congr 1
 ·simp
 ·refine List.map_congr_left fun t _=>?_;simp only[Function.comp,Span.mk.injEq];omega
def Q0(i j:Int):List Change->Int->List Span
 | [],m=>K5 i j (m-i).toNat
 | c::r,m=>K5 i j (c.Old-i).toNat++Q0 (max i c.Old+c.OldLen) (j+(c.Old-i).toNat+c.NewLen) r m
def R5(l:List Change)(m:Int):List Span:=Q0 0 0 l m
def dist:List Int->List Int->Nat
 | [],b=>b.length
 | x::a,[]=>(x::a).length
 | x::a,y::b=>if x=y then dist a b else 1+min (dist a (y::b)) (dist (x::a) b)
theorem iK(a:List Int):dist a []=a.length:=by cases a<;>simp[dist]
theorem uA(a b:List Int):dist a b<=a.length+b.length:=by
 induction a generalizing b with
 | nil=>simp[dist]
 | cons x a c =>
  induction b with
  | nil=>simp[dist]
  | cons y b d =>
   unfold dist;split
   ·have:=c b;simp;omega
   ·have:=c (y::b);have:=d;simp only[RJ]at *;omega
def I3(i j:Int):List Int->List Int->List Span
 | [],_=>[]
 | _::_,[]=>[]
 | x::a,y::b=>if x=y then ⟨i,j⟩::I3 (i+1) (j+1) a b else if dist a (y::b)+1=dist (x::a) (y::b) then I3 (i+1) j a (y::b) else I3 i (j+1) (x::a) b
def kC(a b:List Int):List Change:=dA (I3 0 0 a b) a.length b.length
theorem DX(a b:List Int)(i j:Nat)(c:i<a.length)(d:j<b.length) :
  dist (a.drop i) (b.drop j)=if a[i]=b[j] then dist (a.drop (i+1)) (b.drop (j+1)) else 1+min (dist (a.drop (i+1)) (b.drop j)) (dist (a.drop i) (b.drop (j+1))):=by
 rw[RO c,RO d]
 conv=>lhs;rw[dist]
theorem lG(a b:List Int)(i j:Nat)(c:i<a.length)(d:j<b.length)(p q:Int) :
  I3 p q (a.drop i) (b.drop j)=if a[i]=b[j] then ⟨p,q⟩::I3 (p+1) (q+1) (a.drop (i+1)) (b.drop (j+1)) else
   if dist (a.drop (i+1)) (b.drop j)+1=dist (a.drop i) (b.drop j) then I3 (p+1) q (a.drop (i+1)) (b.drop j) else I3 p (q+1) (a.drop i) (b.drop (j+1)):=by
 rw[RO c,RO d]
 conv=>lhs;rw[I3]
theorem V9(p q:Int)(b:List Int):I3 p q [] b=[]:=by simp[I3]
theorem c6(p q:Int)(a:List Int):I3 p q a []=[]:=by cases a<;>simp[I3]
theorem eY(p q:Int)(a b:List Int):(I3 p q a b).length<=a.length:=by
 induction a generalizing p q b with
 | nil=>simp[I3]
 | cons x a c =>
  induction b generalizing p q with
  | nil=>simp[I3]
  | cons y b d =>
   unfold I3;split
   ·have:=c (p+1) (q+1) b;simp;omega
   ·split
    ·have:=c (p+1) q (y::b);simp;omega
    ·exact d p (q+1)
universe u
theorem rU{α:Type u}(n k:Nat)(f g:Nat->α)(v:α)(i:k<n->g k=v)(h:∀q,q<n->q≠k->g q=f q):((List.range n).map f).set k v=(List.range n).map g:=by
 refine List.ext_getElem (by simp) fun q j d=>?_;have c:q<n:=by simpa using d
 rw[List.getElem_set];by_cases b:k=q
 ·subst b;simp[i c]
 ·rw[A5 b];simp[h q c (Ne.symm b)]
theorem DY{α:Type u}(n k:Nat)(f:Nat->α)(h:k<n):((List.range n).map f)[k]?=some (f k):=by simp[h]
theorem kD(l:List Change)(i j m:Int)(q:0<=i)(B:Nat)(s:m<=B)(b:∀c∈l,c.Old<=B/\0<=c.OldLen):((Q0 i j l m).length:Int)<=max 0 (B-i):=by
 induction l generalizing i j with
 | nil=>simp only[Q0,T7];omega
 | cons c r k =>
  have p:=b c (List.mem_cons_self ..);have:=k (max i c.Old+c.OldLen) (j+(c.Old-i).toNat+c.NewLen) (by omega) (fun d f=>b d (List.mem_cons_of_mem _ f));simp only[Q0,RK,T7];omega
theorem o4(i j:Int):K5 i j 0=[]:=rfl
theorem iL(i j:Int)(n:Nat):K5 i j (n+1)=K5 i j n++[⟨i+n,j+n⟩]:=by simp[K5,TH]
def Asc(m n:Int):Int->Int->List Span->Prop
 | i,j,[]=>i<=m/\j<=n
 | i,j,x::r=>i<=x.From/\j<=x.To/\Asc m n (x.From+1) (x.To+1) r
theorem Asc.le{m n:Int}:∀{p:List Span} {i j:Int},Asc m n i j p->i<=m/\j<=n
 | [],i,j,h=>h
 | x::r,i,j,h=>by have:=Asc.le h.2.2;have:=h.1;have:=h.2.1;omega
theorem Asc.weaken{m n:Int}{p:List Span}{i j i' j':Int}(h:Asc m n i j p)(a:i'<=i)(b:j'<=j):Asc m n i' j' p:=by
 cases p with
 | nil=>exact⟨by have:=h.1;omega,by have:=h.2;omega⟩
 | cons x r=>exact⟨by have:=h.1;omega,by have:=h.2.1;omega,h.2.2⟩
theorem oO(a b:List Int):∀(p q:Int),Asc (p+a.length) (q+b.length) p q (I3 p q a b):=by
 induction a generalizing b with
 | nil=>intro p q;rw[V9];simp only[Asc,RP];omega
 | cons x a c =>
  induction b with
  | nil=>intro p q;rw[c6];simp only[Asc,RP];omega
  | cons y b d =>
   intro p q;rw[I3];split
   ·have:=c b (p+1) (q+1);refine⟨Int.le_refl _,Int.le_refl _,?_⟩;simp only[RJ]
    rwa[show p+((a.length+1:Nat):Int)=p+1+a.length by omega,show q+((b.length+1:Nat):Int)=q+1+b.length by omega]
   ·split
    ·have:=(c (y::b) (p+1) q).weaken (i':=p) (j':=q) (by omega) (Int.le_refl _)
     rwa[show p+((x::a).length:Int)=p+1+a.length by simp;omega]
    ·have:=(d p (q+1)).weaken (i':=p) (j':=q) (Int.le_refl _) (by omega)
     rwa[show q+((y::b).length:Int)=q+1+b.length by simp;omega]
theorem Asc.made{m n:Int}:∀{p:List Span} {i j:Int},Asc m n i j p->∀c∈R8 i j p m n,i<=c.Old/\j<=c.New/\0<=c.OldLen/\0<=c.NewLen/\c.Old+c.OldLen<=m/\c.New+c.NewLen<=n
 | [],i,j,h,c,a=>by
  unfold R8 at a;split at a
  ·simp only[List.mem_singleton]at a;subst a;have:=h.1;have:=h.2;simp only;omega
  ·cases a
 | x::r,i,j,h,c,a=>by
  unfold R8 at a;obtain⟨d,e,b⟩:=h;have f:=b.le;rcases RL.1 a with a | a
  ·split at a
   ·simp only[List.mem_singleton]at a;subst a;simp only;omega
   ·cases a
  ·have:=Asc.made b c a;omega
def OC(m:Int)(c:Nat):Bool:=m / 2 ^ c % 2 == 1
def PQ(r:Row)(c:Int):Bool:=if c = -1 then !r.Lost else if c < -1\/32<=c then false else OC r.Marks c.toNat == r.Lost
def OD(b:List Row)(c:Int):List Str:=(b.filter (PQ · c)).map (·.Text)
def LQ(n:Nat)(r:Row):Bool:=r.Marks / 2 ^ n == 0&&!(r.Lost&&r.Marks == 0)
theorem LR(m c:Int)(b:Nat)(a:0<=c/\c<=b):m.fdiv (2 ^ (min c.toNat b))=m / 2 ^ c.toNat:=by
 rw[show min c.toNat b=c.toNat by omega,Int.fdiv_eq_ediv_of_nonneg _ (Int.pow_nonneg (by decide))]
abbrev Loom:=List Int×(Nat->List (List Int))
structure LoomOk (Q:Int->Prop) (B lines n:Nat) (s:Loom):Prop where
 len:s.1.length=lines
 marks:∀m∈s.1,0<=m/\m<4294967296
 gaps:∀k,(s.2 k).length=n/\∀x∈s.2 k,x.length<=B/\∀v∈x,Q v
theorem oP(l:List Str)(s:Str):∀k:Int,0<=k->s∈l->k<=J6 l s k/\J6 l s k<k+l.length:=by
 induction l with
 | nil=>intro k _ h;cases h
 | cons x r b =>
  intro k c h;unfold J6;by_cases a:x=s
  ·rw[A4 a];simp;omega
  ·rw[A5 a];have:=b (k+1) (by omega) (by rcases RN.1 h with rfl | h;exact absurd rfl a;exact h);simp only[RJ];omega
theorem mB(l:List Str):∀(a:List Str) (s:Str),s∈a\/s∈l->s∈l.foldl J8 a:=by
 induction l with
 | nil=>intro a s h;rcases h with h | h;exact h;cases h
 | cons x r b =>
  intro a s h;apply b;rcases h with h | h
  ·left;unfold J8;split;exact h;exact List.mem_append_left _ h
  ·rcases RN.1 h with rfl | h
   ·left;unfold J8;split;assumption;simp
   ·exact .inr h
theorem lH(a:List (List Str))(s:Str)(f:List Str)(b:f∈a)(c:s∈f):s∈F2 a:=mB _ _ _ (.inr (List.mem_flatten.2 ⟨f,b,c⟩))
theorem uB(s:Str):Lib.hasSuffix s [10]=ended s:=by
 unfold Lib.hasSuffix ended;rw[Bool.eq_iff_iff,List.isSuffixOf_iff_suffix,beq_iff_eq];constructor
 ·rintro⟨t,rfl⟩;simp
 ·intro h;obtain⟨a,b⟩:=List.getLast?_eq_some_iff.1 h;exact⟨a,b.symm⟩
def kE(s:Str):Str:=if ended s then s.dropLast else s
theorem W4(c:UInt8):∀l:Str,(c∉l/\Lib.indexByte l c = -1)\/∃a b,l=a++c::b/\c∉a/\Lib.indexByte l c=a.length
 | []=>.inl ⟨by simp,rfl⟩
 | x::l=>by
  unfold Lib.indexByte;by_cases d:x=c
  ·exact .inr ⟨[],l,by rw[d];rfl,by simp,by simp[d]⟩
  ·rcases W4 c l with ⟨e,f⟩ | ⟨a,b,e,f,h3⟩
   ·exact .inl ⟨by simp[e,Ne.symm d],by simp[d,f]⟩
   ·refine .inr ⟨x::a,b,by rw[e];rfl,by simp[f,Ne.symm d],?_⟩;have g:¬((a.length:Int) = -1):=by omega
    simp[d,h3,g]
theorem qJ(c:UInt8)(l:Str):0<=Lib.indexByte l c↔c∈l:=by
 rcases W4 c l with ⟨d,e⟩ | ⟨a,b,d,e,h3⟩
 ·rw[e];simp[d]
 ·rw[h3,d];simp
def OE(a b:Int):Int:=IntKind.u32.wrap ((BitVec.ofInt IntKind.u32.bits a &&& BitVec.ofInt IntKind.u32.bits b).toNat:Int)
def OF(a:Int):Int:=IntKind.u32.wrap ((BitVec.ofInt IntKind.u32.bits IntKind.u32.max ^^^ BitVec.ofInt IntKind.u32.bits a).toNat:Int)
def PR(r:Row):Int:=if r.Lost then r.Marks else OF r.Marks
def addOk(b:Bool)(a:Int)(r:Row):Bool:=decide (OE a (PR r)=0)&&(r.Lost||!b)
structure EndsAt (res:Bool) (par:Int) (bad:Int->Bool):Prop where
 res:res=bad (-1)
 par:∃p:Nat,p<4294967296/\par=p/\∀c:Nat,c<32->p.testBit c=bad c
def N1(c:UInt8):Bool:=decide (33<=c.toNat/\c.toNat<=126/\c.toNat≠34/\c.toNat≠92)
def digs8:Str:=[48,49,50,51,52,53,54,55]
def digs10:Str:=[48,49,50,51,52,53,54,55,56,57]
def wP(c:UInt8):Str:=(digs8.drop (c.toNat / 64)).take 1++(digs8.drop (c.toNat / 8 % 8)).take 1++(digs8.drop (c.toNat % 8)).take 1
def aH(c:UInt8):Str:=if c.toNat=34\/c.toNat=92 then [92,c] else if c.toNat=10 then [92,110] else if c.toNat=9 then [92,116] else if c.toNat<32\/126<c.toNat then 92::wP c else [c]
def W5(s:Str):Str:=if s≠[]/\s.all N1=true then s else 34::((s.map aH).flatten++[34])
theorem DZ(c:UInt8):(wP c).length<=3:=by unfold wP;simp only[RK,RV];omega
theorem rV(c:UInt8):(aH c).length<=4:=by
 have:=DZ c;unfold aH;split
 ·simp
 ·split
  ·simp
  ·split
   ·simp
   ·split
    ·simp only[RJ];omega
    ·simp
theorem iM(s:Str):((s.map aH).flatten).length<=4*s.length:=by
 induction s with
 | nil=>simp
 | cons c r b=>have:=rV c;simp only[RW,SY,RK,RJ];omega
theorem wQ(s:Str):(W5 s).length<=4*s.length+2:=by
 unfold W5;have:=iM s;split
 ·omega
 ·simp only[RJ,RK,RP];omega
def M4(n:Int):Str:=if n<0\/2147483647<n then [] else Lib.itoa n
def BV(a n:Int):Str:=if a<0\/n<0\/2147483647<a\/2147483647-a<n then [] else if n=0 then M4 a++[44,48] else if n=1 then M4 (a+1) else M4 (a+1)++[44]++M4 n
theorem eZ:∀(k u:Nat),u<10 ^ (k+1)->(Lib.decDigits u).length<=k+1
 | 0,u,h=>by rw[Lib.decDigits,dif_pos (by omega)];simp
 | k+1,u,h=>by
  rw[Lib.decDigits];split
  ·simp
  ·have:=eZ k (u / 10) (by rw[Nat.div_lt_iff_lt_mul (by omega)];rw[Nat.pow_succ]at h;omega);simp only[RK,RJ,RP];omega
theorem p8(n:Int):(M4 n).length<=10:=by
 unfold M4;split
 ·simp
 ·unfold Lib.itoa;rw[A5 (by omega)];exact eZ 9 n.toNat (by omega)
theorem OG(k:Nat)(h:k<10):(digs10.drop k).take 1=[UInt8.ofNat (48+k)]:=by
 have:∀k:Fin 10,(digs10.drop k.1).take 1=[UInt8.ofNat (48+k.1)]:=by decide
 exact this ⟨k,h⟩
theorem EA(n:Int)(b:0<=n)(h:n<10):M4 n=(digs10.drop n.toNat).take 1:=by
 unfold M4 Lib.itoa;rw[A5 (by omega),A5 (by omega),OG _ (by omega),Lib.decDigits,dif_pos (by omega)]
theorem LU(k:Nat)(h:k<8):(digs8.drop k).take 1=[UInt8.ofNat (48+k)]:=by
 have:∀k:Fin 8,(digs8.drop k.1).take 1=[UInt8.ofNat (48+k.1)]:=by decide
 exact this ⟨k,h⟩
theorem wS(c:UInt8):wP c=[UInt8.ofNat (48+c.toNat / 64),UInt8.ofNat (48+c.toNat / 8 % 8),UInt8.ofNat (48+c.toNat % 8)]:=by
 have:=c.toNat_lt;unfold wP;rw[LU _ (by omega),LU _ (by omega),LU _ (by omega)];rfl
def escs(s:Str)(i:Nat):Str:=((s.take i).map aH).flatten
theorem EB(s:Str)(i:Nat)(h:i<s.length):escs s (i+1)=escs s i++aH s[i]:=by
 unfold escs;rw[SK h,SN,SZ];simp only[RW,List.map_nil,SY,List.flatten_nil,SJ]
theorem HM(s:Str)(i:Nat)(h:i<=s.length):(escs s i).length<=4*i:=by
 have:=iM (s.take i);unfold escs;rw[RV]at this;omega
def plains(s:Str)(i:Nat):Bool:=decide (s≠[])&&(s.take i).all N1
theorem wT(s:Str):plains s 0=decide (s≠[]):=by simp[plains]
theorem wU(s:Str)(i:Nat)(h:i<s.length):plains s (i+1)=(plains s i&&N1 s[i]):=by
 unfold plains;rw[SK h,TJ];simp only[List.all_cons,List.all_nil,Bool.and_true,Bool.and_assoc]
theorem oQ(s:Str):W5 s=if plains s s.length=true then s else (34::escs s s.length)++[34]:=by
 unfold W5 plains escs;rw[RS];simp only[RH,decide_eq_true_eq,SD]
structure File where
 Path:Str
 Blob:Str
 deriving DecidableEq
structure Delta where
 Path:Str
 Kind:Int
 deriving DecidableEq
structure Commit where
 Parents:List Int
 Date:Int
 Files:List File
 deriving DecidableEq
def V6:File->Nat->Cell:=fun f j=>match j with
 | 0=>.v (.string ⟨f.Path.toArray⟩)
 | _=>.v (.string ⟨f.Blob.toArray⟩)
def I0:Commit->Nat->Cell:=fun c j=>match j with
 | 0=>.list Int 1 G4 c.Parents
 | 1=>.v (.int .i64 c.Date)
 | _=>.list File 2 V6 c.Files
abbrev BW(f:File):PV:=.agg [.v (.string ⟨f.Path.toArray⟩),.v (.string ⟨f.Blob.toArray⟩)]
abbrev iN(c:Commit):PV:=.agg [.list Int 1 G4 c.Parents,.v (.int .i64 c.Date),.list File 2 V6 c.Files]
abbrev l6(l:List File):PV:=.one (.list File 2 V6 l)
abbrev G7(l:List Commit):PV:=.one (.list Commit 3 I0 l)
theorem rW(a b:Bool):(if a=true then b else false)=(a&&b):=by cases a<;>rfl
theorem OH(a b:Bool):(if a=true then true else b)=(a||b):=by cases a<;>rfl
abbrev mC(a b:Str):Bool:=Op.bytesLess a b
theorem BX(a:Str):mC a []=false:=by cases a<;>rfl
theorem iO(a b:UInt8)(x y:Str):mC (a::x) (b::y)=(decide (a<b)||(a == b&&mC x y)):=rfl
theorem fW:∀a:Str,mC a a=false
 | []=>rfl
 | c::r=>by
  rw[iO,fW r];have:¬c<c:=by rw[UInt8.lt_iff_toNat_lt];omega
  simp[this]
theorem kF:∀{a b c:Str},mC a b=true->mC b c=true->mC a c=true
 | _,[],_,h,_=>by rw[BX]at h;cases h
 | _,_::_,[],_,h=>by rw[BX]at h;cases h
 | [],_::_,_::_,_,_=>rfl
 | a::x,b::y,c::z,e,d=>by
  rw[iO,SB,RH,decide_eq_true_eq,UInt8.lt_iff_toNat_lt,beq_iff_eq]at e d;rw[iO,SB,RH,decide_eq_true_eq,UInt8.lt_iff_toNat_lt,beq_iff_eq];rcases e with e | ⟨rfl,e⟩
  ·rcases d with d | ⟨rfl,d⟩
   ·left;omega
   ·left;omega
  ·rcases d with d | ⟨rfl,d⟩
   ·left;omega
   ·right;exact⟨rfl,kF e d⟩
theorem EC{a b:Str}(h:mC a b=true):mC b a=false:=by
 cases c:mC b a
 ·rfl
 ·have:=kF h c;rw[fW]at this;cases this
theorem BY:∀(a:Str) (c:UInt8) (t:Str),mC a (a++c::t)=true
 | [],_,_=>rfl
 | x::r,c,t=>by rw[SD,iO,BY r c t];simp
def O8(s:Str):Bool:=decide (s≠[]/\s≠[46]/\s≠[46,46])
def H8(a:Str):Str->List Str
 | []=>[a]
 | c::r=>if c=47 then a::H8 [] r else H8 (a++[c]) r
def ED(a:Str):Str->Bool
 | []=>O8 a
 | c::r=>if c=0 then false else if c=47 then O8 a&&ED [] r else ED (a++[c]) r
def X7(p:Str):Int:=if p.length<1\/p.length>200\/ED [] p=false then 210 else 0
theorem fX:∀(s b:Str),ED b s=(!s.contains 0&&(H8 b s).all O8)
 | [],b=>by simp[ED,H8]
 | c::r,b=>by
  rw[ED,H8];by_cases d:c=0
  ·subst d;simp
  ·rw[A5 d];have f:(c::r).contains 0=r.contains 0:=by
    rw[List.contains_cons];have:((0:UInt8) == c)=false:=by simpa using fun e=>d e.symm
    rw[this,Bool.false_or]
   rw[f];split
   ·rw[fX r [],List.all_cons];cases O8 b<;>cases r.contains 0<;>rfl
   ·rw[fX r]
theorem uC(p:Str):X7 p=if p.length>200\/p.contains 0=true then 210 else if (H8 [] p).all O8=true then 0 else 210:=by
 unfold X7;rw[fX];by_cases b:p.length>200
 ·rw[A4 (.inr (.inl b)),A4 (.inl b)]
 ·cases d:p.contains 0
  ·rw[A5 (show ¬(p.length>200\/false=true) by simp[b])];cases c:(H8 [] p).all O8
   ·simp
   ·have:¬p.length<1:=by
     intro h;have:p=[]:=List.length_eq_zero_iff.1 (by omega);subst this;simp[H8,O8]at c
    rw[A5 (fun h=>by
     rcases h with h | h | h
     ·exact this h
     ·exact b h
     ·cases h)];rfl
  ·rw[A4 (show p.length>200\/true=true from .inr rfl),A4 (.inr (.inr (by simp)))]
def above(a b:Str):Bool:=decide (b.length>a.length/\b.take a.length=a/\b[a.length]?=some 47)
theorem HN{a b:Str}(h:above a b=true):mC a b=true:=by
 obtain⟨c,f,d⟩:=A0 h;have e:b=a++47::b.drop (a.length+1):=by
  conv=>lhs;rw[<-SW a.length b,f]
  rw[RO c];rw[RG c]at d;rw[Option.some.inj d]
 rw[e];exact BY _ _ _
def U5:List File->Bool
 | []=>true
 | f::r=>r.all (fun x=>mC f.Path x.Path&&!above f.Path x.Path)&&U5 r
def I1(l:List File):Int:=if l.length>200 then 1 else if l.any (fun f=>decide (X7 f.Path≠0))=true then 210 else if U5 l=false then 211 else if l.any (fun f=>decide (U4 f.Blob≠0))=true then 1 else 0
def N3(p:Str)(ps:List Str):Bool:=(List.range p.length).any fun i=>decide (p.take i∈ps)&&decide (p[i]?=some 47)
def ascend:List File->Bool
 | []=>true
 | [_]=>true
 | f::g::r=>mC f.Path g.Path&&ascend (g::r)
def j3(l:List File):Bool:=ascend l&&l.all fun f=>!N3 f.Path (l.map (·.Path))
theorem oR(p:Str)(ps:List Str):N3 p ps=true↔∃a∈ps,above a p=true:=by
 unfold N3;rw[List.any_eq_true];constructor
 ·rintro⟨i,k,h⟩;rw[RH,decide_eq_true_eq,decide_eq_true_eq]at h;have c:i<p.length:=RQ.1 k;have b:(p.take i).length=i:=by rw[RV];omega
  exact⟨_,h.1,A2 ⟨by rw[b];exact c,by rw[b],by rw[b];exact h.2⟩⟩
 ·rintro⟨a,ha,h⟩;obtain⟨d,f,j⟩:=A0 h;exact⟨a.length,RQ.2 d,by rw[RH,decide_eq_true_eq,decide_eq_true_eq,f];exact⟨ha,j⟩⟩
theorem w8:∀{f:File} {r:List File},ascend (f::r)=true->∀x∈r,mC f.Path x.Path=true
 | _,[],_,_,hx=>by cases hx
 | f,g::r,h,x,hx=>by
  unfold ascend at h;rw[RH]at h;rcases RN.1 hx with rfl | hx
  ·exact h.1
  ·exact kF h.1 (w8 h.2 x hx)
theorem lI{f:File}{r:List File}(h:ascend (f::r)=true):ascend r=true:=by
 cases r with
 | nil=>rfl
 | cons g r=>unfold ascend at h;rw[RH]at h;exact h.2
theorem Y9:∀{l:List File},U5 l=true->ascend l=true
 | [],_=>rfl
 | [_],_=>rfl
 | f::g::r,h=>by
  unfold U5 at h;rw[RH,List.all_eq_true]at h;have a:=h.1 g (by simp);rw[RH]at a;unfold ascend;rw[a.1,Y9 h.2];rfl
theorem fA:∀{l:List File},U5 l=true->∀x∈l,∀y∈l,above x.Path y.Path=false
 | [],_,x,hx,_,_=>by cases hx
 | f::r,h,x,hx,y,hy=>by
  have ha:=Y9 h;unfold U5 at h;rw[RH,List.all_eq_true]at h;cases a:above x.Path y.Path
  ·rfl
  have b:=HN a;rcases RN.1 hx with rfl | hx0
  ·rcases RN.1 hy with rfl | hy
   ·rw[fW]at b;cases b
   ·have:=h.1 y hy;rw[a,Bool.not_true,Bool.and_false]at this;cases this
  ·have c:=hx0;rcases RN.1 hy with d | hy2
   ·have:=w8 ha x c;rw[<-d,EC b]at this;cases this
   ·rw[fA h.2 x c y hy2]at a;cases a
theorem fY:∀{l:List File},ascend l=true->(∀x∈l,∀y∈l,above x.Path y.Path=false)->U5 l=true
 | [],_,_=>rfl
 | f::r,h,ha=>by
  unfold U5;rw[RH,List.all_eq_true];refine⟨fun x a=>?_,fY (lI h) fun x a y b=>ha x (by simp[a]) y (by simp[b])⟩;rw[w8 h x a,ha f (by simp) x (by simp[a])];rfl
theorem AF(l:List File):j3 l=U5 l:=by
 cases h:U5 l
 ·cases c:j3 l
  ·rfl
  unfold j3 at c;rw[RH,List.all_eq_true]at c;have:U5 l=true:=fY c.1 fun x d y e=>by
   cases b:above x.Path y.Path
   ·rfl
   have f:=c.2 y e;rw[(oR _ _).2 ⟨x.Path,List.mem_map_of_mem d,b⟩]at f;cases f
  rw[this]at h;cases h
 ·unfold j3;rw[RH,List.all_eq_true];refine⟨Y9 h,fun y e=>?_⟩;cases g:N3 y.Path (l.map (·.Path))
  ·rfl
  obtain⟨a,ha,b⟩:=(oR _ _).1 g;obtain⟨x,d,rfl⟩:=SF.1 ha;rw[fA h x d y e]at b;cases b
def H1:List File->Str->Option Str
 | [],_=>none
 | f::r,p=>if f.Path=p then some f.Blob else H1 r p
abbrev PS(l:List Str):Prop:=l.Pairwise fun x y=>mC x y=true
theorem oS:∀{l:List File} {p x:Str},H1 l p=some x->∃f∈l,f.Path=p/\f.Blob=x
 | [],_,_,h=>by cases h
 | f::r,p,x,h=>by
  unfold H1 at h;split at h
  ·rename_i e;exact⟨f,by simp,e,Option.some.inj h⟩
  ·obtain⟨g,b,a⟩:=oS h;exact⟨g,by simp[b],a⟩
theorem AH{p:Str}:∀{l:List File},H1 l p=none↔p∉l.map (·.Path)
 | []=>by simp[H1]
 | f::r=>by
  unfold H1;split
  ·rename_i e;simp[e]
  ·rename_i e;rw[AH (l:=r),RW,RN,not_or];exact⟨fun h=>⟨fun b=>e b.symm,h⟩,fun h=>h.2⟩
theorem qK{l:List File}(h:I1 l=0):ascend l=true/\l.length<=200/\(∀f∈l,U4 f.Blob=0)/\∀f∈l,X7 f.Path=0:=by
 unfold I1 at h;split at h
 ·cases h
 ·rename_i g;split at h
  ·cases h
  ·rename_i b;split at h
   ·cases h
   ·rename_i c;split at h
    ·cases h
    ·rename_i d;refine⟨Y9 (by simpa using c),by omega,fun f a=>?_,fun f a=>?_⟩
     ·have:=fun e=>d (List.any_eq_true.2 ⟨f,a,e⟩);simpa using this
     ·have:=fun e=>b (List.any_eq_true.2 ⟨f,a,e⟩);simpa using this
def L0(a:Str):Str->List Str
 | []=>[a]
 | c::r=>if c=10 then (a++[c])::L0 [] r else L0 (a++[c]) r
def N5(b:Str):List Str:=L0 [] b
theorem qL(a b:Str)(h:(10:UInt8)∉a):L0 b a=[b++a]:=by
 induction a generalizing b with
 | nil=>simp[L0]
 | cons c r d =>
  simp only[RN,not_or]at h;rw[L0,A5 (fun e=>h.1 e.symm),d _ h.2];simp
theorem uD(a b d:Str)(h:(10:UInt8)∉a):L0 d (a++10::b)=(d++a++[10])::L0 [] b:=by
 induction a generalizing d with
 | nil=>simp[L0]
 | cons c r f =>
  simp only[RN,not_or]at h;rw[SD,L0,A5 (fun e=>h.1 e.symm),f _ h.2];simp
theorem T8(s a:Str):(L0 a s).length=s.count 10+1:=by
 induction s generalizing a with
 | nil=>rfl
 | cons c r d =>
  by_cases b:c=10
  ·subst b;rw[L0,A4 rfl,RJ,d,List.count_cons_self]
  ·rw[L0,A5 b,d,List.count_cons_of_ne b]
theorem wV(s b:Str):F8 b s=if (L0 b s).getLastD []=[] then (L0 b s).dropLast else L0 b s:=by
 induction s generalizing b with
 | nil=>by_cases h:b=[]<;>simp[F8,L0,h]
 | cons c r j =>
  rw[F8,L0];by_cases f:c=10
  ·rw[A4 f,A4 f,j];have l:L0 [] r≠[]:=fun e=>by have:=T8 r [];rw[e]at this;simp at this
   obtain⟨x,y,i⟩:=List.exists_cons_of_ne_nil l;rw[i];have k:((b++[c])::x::y).getLastD []=(x::y).getLastD []:=by cases y<;>simp[List.getLastD]
   rw[k];split
   ·rfl
   ·rfl
  ·rw[A5 f,A5 f,j]
theorem oT(s a:Str):(F8 a s).length=s.count 10+if s=[] then (if a=[] then 0 else 1) else if ended s=true then 0 else 1:=by
 induction s generalizing a with
 | nil=>by_cases h:a=[]<;>simp[F8,h]
 | cons c r i =>
  have j:ended (c::r)=if r=[] then c == 10 else ended r:=by
   cases r with
   | nil=>simp[ended]
   | cons d t=>simp[ended,List.getLast?_cons_cons]
  rw[F8,A5 (List.cons_ne_nil _ _),j];by_cases b:c=10
  ·subst b;rw[A4 rfl,RJ,i,List.count_cons_self];by_cases f:r=[]<;>simp[f];omega
  ·rw[A5 b,i,List.count_cons_of_ne b];by_cases f:r=[]<;>simp[f,b]
theorem y6(s:Str):(D8 s).length=s.count 10+if s≠[]/\ended s=false then 1 else 0:=by
 unfold D8;rw[oT];by_cases a:s=[]<;>simp[a];cases ended s<;>simp
theorem AI{P:List Str}{i:Nat}{r a b:Str}(h:P.drop i=N5 r)(c:r=a++10::b)(ha:(10:UInt8)∉a):P[i]?=some (a++[10])/\P.drop (i+1)=N5 b:=by
 have e:N5 r=(a++[10])::N5 b:=by rw[c];unfold N5;rw[uD _ _ _ ha];rfl
 rw[e]at h;refine⟨by rw[<-List.head?_drop,h];rfl,?_⟩;rw[<-List.tail_drop,h];rfl
theorem rX{α:Type}(P:List α)(z x:α)(i:Nat)(h:P[i]?=some x):(P.take i++List.replicate (P.length-i) z).set i x=P.take (i+1)++List.replicate (P.length-(i+1)) z:=by
 obtain⟨a,c⟩:=List.getElem?_eq_some_iff.1 h;have b:(P.take i).length=i:=by rw[RV];omega
 rw[List.set_append_right _ _ (by omega),b,TE,show P.length-i=(P.length-(i+1))+1 by omega,List.replicate_succ,List.set_cons_zero,SK a,c,RT];rfl
def N6(b:Str):List Str×Int:=if b.length>1048576\/(D8 b).length>4096 then ([],1) else (D8 b,0)
def H5(n:Int):Prop:=0<=n/\n<=4096
instance (n:Int):Decidable (H5 n):=by unfold H5;exact inferInstance
def oU(k:Nat)(i j:Int)(c:Change):Prop:=((((((¬H5 c.Old\/¬H5 c.OldLen)\/¬H5 c.New)\/¬H5 c.NewLen)\/c.OldLen+c.NewLen=0)\/c.Old-i≠c.New-j)\/c.Old<i)\/(0<(k:Int)/\c.Old=i)
instance (k:Nat) (i j:Int) (c:Change):Decidable (oU k i j c):=by unfold oU;exact inferInstance
def I4(k:Nat)(i j:Int):List Change->Int->Int->Bool
 | [],m,n=>decide (¬(m-i≠n-j\/m<i))
 | c::r,m,n=>decide (¬oU k i j c)&&I4 (k+1) (c.Old+c.OldLen) (c.New+c.NewLen) r m n
def y7(l:List Change)(m n:Int):Int:=if ¬H5 m\/¬H5 n then 80 else if I4 0 0 0 l m n=true then 0 else 80
def ScOk(i j:Int):List Change->Int->Int->Prop
 | [],m,n=>i<=m/\j<=n
 | c::r,m,n=>H5 c.Old/\H5 c.OldLen/\H5 c.New/\H5 c.NewLen/\i<=c.Old/\j<=c.New/\ScOk (c.Old+c.OldLen) (c.New+c.NewLen) r m n
theorem w9:∀(l:List Change) (k:Nat) (i j m n:Int),I4 k i j l m n=true->ScOk i j l m n
 | [],k,i,j,m,n,h=>by simp only[I4,decide_eq_true_eq]at h;simp only[ScOk];omega
 | c::r,k,i,j,m,n,h=>by
  simp only[I4,RH,decide_eq_true_eq]at h;obtain⟨a,d⟩:=h;unfold oU at a;refine⟨?_,?_,?_,?_,?_,?_,w9 r _ _ _ m n d⟩
  all_goals (by_cases b:H5 c.Old<;>by_cases a2:H5 c.OldLen<;>by_cases a3:H5 c.New<;>by_cases a4:H5 c.NewLen<;>simp[b,a2,a3,a4]at a ⊢<;>omega)
theorem rY{l:List Change}{m n:Int}(h:y7 l m n=0):H5 m/\H5 n/\ScOk 0 0 l m n:=by
 unfold y7 at h;split at h
 ·omega
 ·rename_i b;split at h
  ·rename_i c;by_cases a:H5 m<;>by_cases a2:H5 n<;>simp[a,a2]at b;exact⟨a,a2,w9 _ _ _ _ _ _ c⟩
  ·omega
def H9(l:List Change)(k:Nat):Change:=l.getD k ⟨0,0,0,0⟩
theorem ScOk.end_le:∀{l:List Change} {i j m n:Int},ScOk i j l m n->i<=m/\j<=n
 | [],_,_,_,_,h=>h
 | c::r,i,j,m,n,⟨h1,h2,h3,h4,h5,h6,h7⟩=>by have:=h7.end_le;unfold H5 at *;omega
theorem ScOk.get:∀{l:List Change} {i j m n:Int} (k:Nat),ScOk i j l m n->k<l.length->H5 (H9 l k).Old/\H5 (H9 l k).OldLen/\H5 (H9 l k).New/\H5 (H9 l k).NewLen/\(H9 l k).Old+(H9 l k).OldLen<=m/\(H9 l k).New+(H9 l k).NewLen<=n
 | c::r,i,j,m,n,0,⟨h1,h2,h3,h4,h5,h6,h7⟩,_=>by have:=h7.end_le;exact⟨h1,h2,h3,h4,this.1,this.2⟩
 | c::r,i,j,m,n,k+1,⟨h1,h2,h3,h4,h5,h6,h7⟩,hk=>by
  have:=h7.get k (by simpa using hk);simpa[H9] using this
theorem ScOk.next:∀{l:List Change} {i j m n:Int} (k:Nat),ScOk i j l m n->k+1<l.length->(H9 l k).Old+(H9 l k).OldLen<=(H9 l (k+1)).Old
 | [c],_,_,_,_,_,_,hk=>by simp at hk
 | c::c2::r,i,j,m,n,0,⟨_,_,_,_,_,_,h7⟩,_=>by simpa[H9] using h7.2.2.2.2.1
 | c::c2::r,i,j,m,n,k+1,⟨_,_,_,_,_,_,h7⟩,hk=>by
  have:=h7.next k (by simpa using hk);simpa[H9] using this
theorem ScOk.mono{l:List Change}{m n:Int}(h:ScOk 0 0 l m n):∀(a b:Nat),a<=b->b<l.length->(H9 l a).Old<=(H9 l b).Old/\(H9 l a).Old+(H9 l a).OldLen<=(H9 l b).Old+(H9 l b).OldLen
 | a,0,h1,h2=>by rw[show a=0 by omega];omega
 | a,b+1,h1,h2=>by
  by_cases c:a=b+1
  ·subst c;omega
  ·have f:=h.mono a b (by omega) (by omega);have g:=h.next b h2;have i:=h.get b (by omega);have j:=h.get (b+1) h2;unfold H5 at *;omega
def uE(a b:Int):Int:=if b<a then b else a
def opens(l:List Change)(a:Int)(k:Nat):Prop:=k=0\/2*a<(H9 l k).Old-(H9 l (k-1)).Old-(H9 l (k-1)).OldLen
instance (l:List Change) (ctx:Int) (k:Nat):Decidable (opens l ctx k):=by unfold opens;exact inferInstance
def BZ:Hunk:=⟨0,0,⟨0,0⟩,⟨0,0⟩⟩
def aI(l:List Change)(a:Int)(k:Nat):Hunk:=⟨k,0,⟨(H9 l k).Old-uE a (H9 l k).Old,0⟩,⟨(H9 l k).New-uE a (H9 l k).Old,0⟩⟩
def iP(l:List Change)(m b:Int)(k:Nat)(h:Hunk):Hunk :=
 let c:=H9 l k;let a:=uE b (m-(c.Old+c.OldLen))
 ⟨h.First,k+1,⟨h.Old.From,c.Old+c.OldLen+a⟩,⟨h.New.From,c.New+c.NewLen+a⟩⟩
def kG(l:List Change)(a:Int)(k:Nat)(b:List Hunk):List Hunk:=if opens l a k then b++[aI l a k] else b
def S4(l:List Change)(m b:Int):Nat->List Hunk
 | 0=>[]
 | k+1=>let a:=kG l b k (S4 l m b k);a.set (a.length-1) (iP l m b k (a.getD (a.length-1) BZ))
theorem lJ(l:List Change)(m a:Int):∀k,(S4 l m a k).length<=k/\(0<k->0<(S4 l m a k).length)
 | 0=>by simp[S4]
 | k+1=>by
  have h:=lJ l m a k;simp only[S4,SU,kG];split
  ·simp only[RK,RJ,RP];omega
  ·rename_i b;have:k≠0:=fun e=>b (.inl e);omega
def HO(s:Str):Bool:=decide (1<=s.length/\s.length<=200)
def E9(b:List PatchLine)(k:UInt8):List Str:=(b.filter (fun x=>decide (x.Kind≠k))).map (·.Text)
def HP(x:PatchLine):Prop:=((x.Kind≠32/\x.Kind≠45)/\x.Kind≠43)\/V1 x.Text=false
instance (x:PatchLine):Decidable (HP x):=by unfold HP;exact inferInstance
def fZ(x:PatchLine):Bool:=decide (¬HP x)
def y8(a:List PatchLine):Bool:=a.any (fun x=>decide (x.Kind≠32))
def iQ(some:Bool)(i j:Int)(h:PatchHunk):Prop:=((((some=false\/h.Old<i)\/h.New<j)\/4096<h.Old)\/4096<h.New)\/h.Old-i≠h.New-j
instance (s:Bool) (i j:Int) (h:PatchHunk):Decidable (iQ s i j h):=by unfold iQ;exact inferInstance
def t7(h:PatchHunk):Int:=(E9 h.Lines 43).length
def aJ(h:PatchHunk):Int:=(E9 h.Lines 45).length
def kH(i j:Int):List PatchHunk->Bool
 | []=>true
 | h::r=>h.Lines.all fZ&&(decide (¬iQ (y8 h.Lines) i j h)&&(decide (¬(4096<h.Old+t7 h\/4096<h.New+aJ h))&&kH (h.Old+t7 h) (h.New+aJ h) r))
def K3(b:List PatchHunk)(k:UInt8):List Str:=(b.map (fun h=>E9 h.Lines k)).flatten
def j4:List Str->Bool
 | []=>true
 | x::r=>(r.isEmpty||ended x)&&j4 r
def AJ(a:List PatchHunk)(k:UInt8):Bool:=j4 (K3 a k)
def kI(a:List PatchHunk):Bool:=kH 0 0 a&&(AJ a 43&&AJ a 45)
def OI:Str:=[10,92,32,78,111,32,110,101,119,108,105,110,101,32,97,116,32,101,110,100,32,111,102,32,102,105,108,101,10]
def LV(x:PatchLine):List Str:=if ended x.Text then [[x.Kind]++x.Text] else [[x.Kind]++x.Text,OI]
def OJ(h:PatchHunk):Str:=[64,64,32,45]++BV h.Old (t7 h)++[32,43]++BV h.New (aJ h)++[32,64,64,10]
def LW(h:PatchHunk):List Str:=OJ h::(h.Lines.map LV).flatten
def LX(p:Patch):List Str:=[[45,45,45,32]++W5 p.OldName++[10],[43,43,43,32]++W5 p.NewName++[10]]
def JQ(p:Patch):List Str:=LX p++(p.Hunks.map LW).flatten
def CA(p:Patch):Str:=(JQ p).flatten
def aZ(p:Patch):Int:=if HO p.OldName=false\/HO p.NewName=false then 120 else if kI p.Hunks=false then 121 else if 16777216<(CA p).length then 1 else 0
def LY(x:PatchLine):Nat:=x.Text.length+64
def PT(h:PatchHunk):Nat:=64+(h.Lines.map LY).sum
def IM(a:List PatchHunk):Nat:=(a.map PT).sum
structure PFit (p:Patch):Prop where
 old:p.OldName.length<=4194304
 new:p.NewName.length<=4194304
 hunks:IM p.Hunks<=268435456
theorem JR(a:List PatchLine):64*a.length<=(a.map LY).sum:=by
 induction a with
 | nil=>simp
 | cons x r b=>simp only[RW,List.sum_cons,RJ,LY];omega
def x3(k:UInt8)(a:List Str):List PatchLine:=a.map fun t=>⟨k,t⟩
def sub(x:List Str)(a b:Int):List Str:=(x.drop a.toNat).take (b.toNat-a.toNat)
def cA(c:Change):Int:=c.Old+c.OldLen
def x4(l:List Change)(i0:Int)(a t:Nat):Int:=if t=0 then i0 else cA (H9 l (a+t-1))
theorem AK(l:List Change)(i0:Int)(a t:Nat):x4 l i0 a (t+1)=cA (H9 l (a+t)):=by
 unfold x4;rw[A5 (by omega)];congr 2
def l7(l:List Change)(x y:List Str)(i0:Int)(a:Nat):Nat->List PatchLine
 | 0=>[]
 | t+1=>l7 l x y i0 a t++x3 32 (sub x (x4 l i0 a t) (H9 l (a+t)).Old)++x3 45 (sub x (H9 l (a+t)).Old (cA (H9 l (a+t))))++x3 43 (sub y (H9 l (a+t)).New ((H9 l (a+t)).New+(H9 l (a+t)).NewLen))
def S5(l:List Change)(x y:List Str)(h:Hunk):PatchHunk :=
 ⟨h.Old.From,h.New.From,l7 l x y h.Old.From h.First.toNat (h.Last.toNat-h.First.toNat)++x3 32 (sub x (x4 l h.Old.From h.First.toNat (h.Last.toNat-h.First.toNat)) h.Old.To)⟩
def Z0(x y:List Str):List Change:=kC (J7 (F2 [x,y]) x) (J7 (F2 [x,y]) y)
theorem uF(x y:List Str):(Z0 x y).length<=x.length+1:=by
 unfold Z0 kC dA;have a:=qI (I3 0 0 (J7 (F2 [x,y]) x) (J7 (F2 [x,y]) y)) 0 0 ((J7 (F2 [x,y]) x).length) ((J7 (F2 [x,y]) y).length);have b:=eY 0 0 (J7 (F2 [x,y]) x) (J7 (F2 [x,y]) y);have c:(J7 (F2 [x,y]) x).length=x.length:=by simp[J7]
 omega
def LZ(h:PatchHunk)(b:List Str):Bool:=if (b.length:Int)<h.Old+t7 h then false else decide ((b.drop h.Old.toNat).take (E9 h.Lines 43).length=E9 h.Lines 43)
def OK:List PatchHunk->List Str->Nat
 | [],_=>0
 | h::r,x=>if LZ h x=true then OK r x+1 else 0
def AM(p:Patch)(a:Str):Int×Int:=if aZ p≠0 then (0,aZ p) else if (N6 a).2≠0 then (0,(N6 a).2) else (OK p.Hunks (N6 a).1,0)
def PG(a:List PatchHunk)(k:Nat):PatchHunk:=a.getD k ⟨0,0,[]⟩
def OM(a:List PatchHunk)(k:Nat):Int:=if k=0 then 0 else (PG a (k-1)).Old+t7 (PG a (k-1))
def KV(a:List PatchHunk)(x:List Str):Nat->List Str
 | 0=>[]
 | k+1=>KV a x k++sub x (OM a k) (PG a k).Old++E9 (PG a k).Lines 45
def JS(c:List PatchHunk)(x:List Str):Str×Int :=
 let b:=KV c x c.length++x.drop (OM c c.length).toNat
 if AE b=false then ([],140) else LP b
def CB(p:Patch)(a:Str):Str×Int:=if (AM p a).2≠0 then ([],(AM p a).2) else if (AM p a).1<p.Hunks.length then ([],140) else JS p.Hunks (D8 a)
def wW(i j:Int)(h:PatchHunk):Prop:=((((h.Old<0\/h.New<0)\/4096<h.Old)\/4096<h.New)\/h.Old<i)\/h.Old-i≠h.New-j
instance (i j:Int) (h:PatchHunk):Decidable (wW i j h):=by unfold wW;exact inferInstance
theorem mL{x:List Str}{a b:Int}{s:Str}(h:s∈sub x a b):s∈x:=by
 unfold sub at h;exact List.mem_of_mem_drop (List.mem_of_mem_take h)
def uG(c:Change):Int:=c.New+c.NewLen
def o5(i:Int)(l:List Change)(k:Nat):Int:=if k=0 then i else cA (H9 l (k-1))
def cB(j:Int)(l:List Change)(k:Nat):Int:=if k=0 then j else uG (H9 l (k-1))
theorem j5(i:Int)(c:Change)(r:List Change)(k:Nat):o5 i (c::r) (k+1)=o5 (cA c) r k:=by
 cases k<;>rfl
theorem j6(j:Int)(c:Change)(r:List Change)(k:Nat):cB j (c::r) (k+1)=cB (uG c) r k:=by
 cases k<;>rfl
theorem dB(i:Int)(l:List Change)(k:Nat):o5 i l (k+1)=cA (H9 l k):=rfl
theorem dC(j:Int)(l:List Change)(k:Nat):cB j l (k+1)=uG (H9 l k):=rfl
theorem iR(c:Change)(r:List Change)(k:Nat):H9 (c::r) (k+1)=H9 r k:=rfl
def dD(x y:List Str)(i j:Int):List Change->Prop
 | []=>sub x i x.length=sub y j y.length
 | c::r=>sub x i c.Old=sub y j c.New/\dD x y (cA c) (uG c) r
theorem l8(m n:Int):∀(l:List Change) (b:Nat) (i j:Int),I4 b i j l m n=true->∀k,k<l.length ->
  H5 (H9 l k).Old/\H5 (H9 l k).OldLen/\H5 (H9 l k).New/\H5 (H9 l k).NewLen/\(H9 l k).OldLen+(H9 l k).NewLen≠0/\(H9 l k).Old-o5 i l k=(H9 l k).New-cB j l k/\o5 i l k<=(H9 l k).Old/\(0<b+k->o5 i l k<(H9 l k).Old)
 | [],_,_,_,_,k,hk=>by simp at hk
 | c :: r,b,i,j,h,k,hk=>by
  simp only[I4,RH,decide_eq_true_eq]at h;obtain⟨a,C⟩:=h;cases k with
  | zero =>
   unfold oU at a;show H5 c.Old/\H5 c.OldLen/\H5 c.New/\H5 c.NewLen/\c.OldLen+c.NewLen≠0/\c.Old-i=c.New-j/\i<=c.Old/\(0<b+0->i<c.Old)
   have f:H5 c.Old:=by by_cases q:H5 c.Old;exact q;exact absurd (.inl (.inl (.inl (.inl (.inl (.inl (.inl q))))))) a
   have g:H5 c.OldLen:=by by_cases q:H5 c.OldLen;exact q;exact absurd (.inl (.inl (.inl (.inl (.inl (.inl (.inr q))))))) a
   have o:H5 c.New:=by by_cases q:H5 c.New;exact q;exact absurd (.inl (.inl (.inl (.inl (.inl (.inr q)))))) a
   have p:H5 c.NewLen:=by by_cases q:H5 c.NewLen;exact q;exact absurd (.inl (.inl (.inl (.inl (.inr q))))) a
   refine⟨f,g,o,p,fun q=>a (.inl (.inl (.inl (.inr q)))),?_,?_,fun B=>?_⟩
   ·by_cases q:c.Old-i=c.New-j
    ·exact q
    ·exact absurd (.inl (.inl (.inr q))) a
   ·by_cases q:c.Old<i
    ·exact absurd (.inl (.inr q)) a
    ·omega
   ·by_cases q:c.Old<i
    ·exact absurd (.inl (.inr q)) a
    ·by_cases D:c.Old=i
     ·exact absurd (.inr ⟨by omega,D⟩) a
     ·omega
  | succ k =>
   have:=l8 m n r (b+1) _ _ C k (by simpa using hk);rw[iR,j5,j6];obtain⟨s,t,u,v,x,y,z,A⟩:=this;exact⟨s,t,u,v,x,y,z,fun B=>A (by omega)⟩
theorem uH(m n:Int):∀(l:List Change) (a:Nat) (i j:Int),I4 a i j l m n=true->m-o5 i l l.length=n-cB j l l.length/\o5 i l l.length<=m
 | [],_,i,j,h=>by
  simp only[I4,decide_eq_true_eq]at h;show m-i=n-j/\i<=m;omega
 | c::r,a,i,j,h=>by
  simp only[I4,RH,decide_eq_true_eq]at h;rw[RJ,j5,j6];exact uH m n r _ _ _ h.2
theorem oV(x y:List Str):∀(l:List Change) (i j:Int),dD x y i j l->∀k,k<l.length->sub x (o5 i l k) (H9 l k).Old=sub y (cB j l k) (H9 l k).New
 | [],_,_,_,k,hk=>by simp at hk
 | c::r,i,j,h,k,hk=>by
  cases k with
  | zero=>exact h.1
  | succ k=>rw[j5,j6,iR];exact oV x y r _ _ h.2 k (by simpa using hk)
theorem uI(x y:List Str):∀(l:List Change) (i j:Int),dD x y i j l->sub x (o5 i l l.length) x.length=sub y (cB j l l.length) y.length
 | [],_,_,h=>h
 | c::r,i,j,h=>by rw[RJ,j5,j6];exact uI x y r _ _ h.2
def rZ(l:List Change)(m c:Int)(a b:Nat):Hunk:=iP l m c (b-1) (aI l c a)
def GrOk(l:List Change)(m c:Int):Nat->List Hunk->Nat->Prop
 | a,[],k=>a=k
 | a,h::r,k=>∃b,a<b/\opens l c a/\h=rZ l m c a b/\GrOk l m c b r k
theorem GrOk.le{l:List Change}{m c:Int}:∀{d:List Hunk} {a k:Nat},GrOk l m c a d k->a<=k
 | [],a,k,h=>Nat.le_of_eq h
 | _::_,a,k,⟨b,h1,_,_,h2⟩=>by have:=GrOk.le h2;omega
theorem GrOk.snoc{l:List Change}{m c:Int}{k:Nat}(d:opens l c k):∀{e:List Hunk} {a:Nat},GrOk l m c a e k->GrOk l m c a (e++[rZ l m c k (k+1)]) (k+1)
 | [],a,h=>by
  obtain rfl:a=k:=h;exact⟨a+1,by omega,d,rfl,rfl⟩
 | _::_,a,⟨b,h1,h2,h3,h4⟩=>⟨b,h1,h2,h3,GrOk.snoc d h4⟩
theorem GrOk.last{l:List Change}{m c:Int}{k:Nat}:∀{d:List Hunk} {a:Nat},GrOk l m c a d k->d≠[]->GrOk l m c a (d.set (d.length-1) (iP l m c k (d.getD (d.length-1) BZ))) (k+1)
 | [],_,_,h0=>absurd rfl h0
 | [h],a,⟨b,h1,h2,h3,h4⟩,_=>by
  obtain rfl:b=k:=h4;subst h3;exact⟨b+1,by omega,h2,rfl,rfl⟩
 | h::h'::r,a,⟨b,h1,h2,h3,h4⟩,_=>by
  have e:=GrOk.last h4 (by simp);refine⟨b,h1,h2,h3,?_⟩;simpa using e
theorem bA(l:List Change)(m a:Int):∀k,GrOk l m a 0 (S4 l m a k) k
 | 0=>rfl
 | k+1=>by
  have d:=bA l m a k;have c:=(lJ l m a k).2;simp only[S4,kG];by_cases b:opens l a k
  ·rw[A4 b];have e:(S4 l m a k++[aI l a k]).set ((S4 l m a k++[aI l a k]).length-1) (iP l m a k ((S4 l m a k++[aI l a k]).getD ((S4 l m a k++[aI l a k]).length-1) BZ))=S4 l m a k++[rZ l m a k (k+1)]:=by
    simp[rZ]
   rw[e];exact d.snoc b
  ·rw[A5 b];refine d.last ?_;have:k≠0:=fun e=>b (.inl e);have:=c (by omega);intro e;rw[e]at this;simp at this
theorem bB(x:List Str){a b c:Int}(f:0<=a)(g:a<=b)(h:b<=c):sub x a b++sub x b c=sub x a c:=by
 unfold sub;obtain⟨u,rfl⟩:∃u:Nat,(u:Int)=a:=⟨a.toNat,by omega⟩
 obtain⟨v,rfl⟩:∃v:Nat,(v:Int)=b:=⟨b.toNat,by omega⟩
 obtain⟨w,rfl⟩:∃w:Nat,(w:Int)=c:=⟨c.toNat,by omega⟩
 simp only[RI];have e:x.drop v=(x.drop u).drop (v-u):=by rw[List.drop_drop];congr 1;omega
 rw[e,show w-u=(v-u)+(w-v) by omega,List.take_add]
theorem x5(x:List Str)(a:Int):sub x a a=[]:=by simp[sub]
theorem bC(x:List Str){a b:Int}(c:0<=a)(d:a<=b)(f:b<=x.length):((sub x a b).length:Int)=b-a:=by
 unfold sub;rw[RV,SH];omega
theorem dE{x y:List Str}{p q g f e:Int}(h:sub x p q=sub y g f)(j:0<=p)(i:0<=g)(m:0<=e)(k:e<=q-p)(l:q-p=f-g):sub x (q-e) q=sub y (f-e) f:=by
 have c:∀(z:List Str) (a b:Int),0<=a->e<=b-a->sub z (b-e) b=(sub z a b).drop (b-a-e).toNat:=by
  intro z a b ha hb;unfold sub;rw[List.drop_take,List.drop_drop]
  congr 1
  ·omega
  ·congr 1;omega
 rw[c x p q j k,c y g f i (by omega),h,l]
theorem oW{x y:List Str}{p q c g e:Int}(h:sub x p q=sub y c g)(i:0<=p)(f:0<=c)(m:0<=e)(j:e<=q-p)(l:q-p=g-c):sub x p (p+e)=sub y c (c+e):=by
 have d:∀(z:List Str) (a b:Int),0<=a->e<=b-a->sub z a (a+e)=(sub z a b).take e.toNat:=by
  intro z a b ha hb;unfold sub;rw[List.take_take]
  congr 1
  omega
 rw[d x p q i j,d y c g f (by omega),h]
theorem bD(p q:List PatchLine)(k:UInt8):E9 (p++q) k=E9 p k++E9 q k:=by simp[E9]
theorem bE(k a:UInt8)(b:List Str):E9 (x3 k b) a=if k=a then [] else b:=by
 unfold E9 x3;by_cases h:k=a
 ·rw[A4 h];subst h;simp[List.filter_eq_nil_iff]
 ·rw[A5 h];rw[List.filter_eq_self.2 (by simp[h])];simp[Function.comp_def]
structure ScFit (x y:List Str) (l:List Change):Prop where
 lx:(x.length:Int)<=4096
 ly:(y.length:Int)<=4096
 sc:I4 0 0 0 l x.length y.length=true
 eq:dD x y 0 0 l
variable {x y:List Str}{l:List Change}
theorem ScFit.ok(h:ScFit x y l):ScOk 0 0 l x.length y.length:=w9 _ _ _ _ _ _ h.sc
theorem ScFit.check(h:ScFit x y l):y7 l x.length y.length=0:=by
 have a:=h.lx;have b:=h.ly;unfold y7;rw[A5 (by unfold H5;omega),A4 h.sc]
theorem ScFit.nn(h:ScFit x y l)(k:Nat)(m:k<=l.length):0<=o5 0 l k/\0<=cB 0 l k/\o5 0 l k<=x.length/\cB 0 l k<=y.length:=by
 cases k with
 | zero=>exact⟨Int.le_refl _,Int.le_refl _,Int.natCast_nonneg _,Int.natCast_nonneg _⟩
 | succ k =>
  obtain⟨⟨a,a2⟩,⟨b,c⟩,⟨d,e⟩,⟨f,g⟩,i,j⟩:=h.ok.get k (by omega);rw[dB,dC];unfold cA uG;omega
def eA(l:List Change)(b:Int)(a:Nat):Int:=uE b (H9 l a).Old
def eB(l:List Change)(m a:Int)(b:Nat):Int:=uE a (m-o5 0 l b)
theorem CC{a b:Int}(h:0<=a)(c:0<=b):0<=uE a b/\uE a b<=a/\uE a b<=b:=by unfold uE;split<;>omega
theorem dV{b:Int}{a:Nat}(c:opens l b a)(ha:a≠0):2*b<(H9 l a).Old-o5 0 l a:=by
 rcases c with h | h
 ·exact absurd h ha
 ·unfold o5;rw[A5 ha];unfold cA;omega
theorem ScFit.before(h:ScFit x y l){b:Int}(f:0<=b){a:Nat}(ha:a<l.length)(g:opens l b a) :
  0<=eA l b a/\eA l b a<=b/\eA l b a<=(H9 l a).Old-o5 0 l a:=by
 obtain⟨⟨e,a2⟩,_⟩:=h.ok.get a ha;have i:=CC f e;unfold eA;by_cases c:a=0
 ·subst c;show _/\_/\_<=(H9 l 0).Old-0;omega
 ·have:=dV g c;omega
theorem ScFit.after(h:ScFit x y l){a:Int}(k:0<=a){b:Nat}(hb:b<=l.length)(m:b<l.length->opens l a b)(f:b≠0) :
  0<=eB l x.length a b/\eB l x.length a b<=a/\o5 0 l b+eB l x.length a b<=x.length/\cB 0 l b+eB l x.length a b<=y.length /\
   sub x (o5 0 l b) (o5 0 l b+eB l x.length a b)=sub y (cB 0 l b) (cB 0 l b+eB l x.length a b):=by
 obtain⟨g,i,C,D⟩:=h.nn b hb;have d:=CC k (show 0<=(x.length:Int)-o5 0 l b by omega);unfold eB;rcases Nat.lt_or_ge b l.length with c | hge
 ·obtain⟨g1,j,u,v,w,z,A,B⟩:=l8 _ _ _ _ _ _ h.sc b c;obtain⟨⟨n,a2⟩,⟨o,p⟩,⟨q,r⟩,⟨s,t⟩,k5,k6⟩:=h.ok.get b c;have E:=dV (m c) f;refine⟨d.1,d.2.1,by omega,by omega,oW (oV x y l 0 0 h.eq b c) g i d.1 (by omega) (by omega)⟩
 ·have e:b=l.length:=by omega
  subst e;obtain⟨g1,j⟩:=uH _ _ _ _ _ _ h.sc;refine⟨d.1,d.2.1,by omega,by omega,oW (uI x y l 0 0 h.eq) g i d.1 (by omega) (by omega)⟩
def uJ(l:List Change)(b:Int)(a t:Nat):Int:=if t=0 then b else uG (H9 l (a+t-1))
theorem oX(i0:Int)(a t:Nat)(b:t≠0):x4 l i0 a t=o5 0 l (a+t):=by
 unfold x4 o5;rw[A5 b,A5 (by omega)]
theorem CD(c:Int)(a t:Nat)(b:t≠0):uJ l c a t=cB 0 l (a+t):=by
 unfold uJ cB;rw[A5 b,A5 (by omega)]
theorem ScFit.made(h:ScFit x y l){b:Int}(H:0<=b){a:Nat}(I:opens l b a):∀t,a+t<=l.length->(t=0->a<l.length) ->
  E9 (l7 l x y ((H9 l a).Old-eA l b a) a t) 43=sub x ((H9 l a).Old-eA l b a) (x4 l ((H9 l a).Old-eA l b a) a t) /\
  E9 (l7 l x y ((H9 l a).Old-eA l b a) a t) 45=sub y ((H9 l a).New-eA l b a) (uJ l ((H9 l a).New-eA l b a) a t)
 | 0,_,_=>by
  unfold x4 uJ;rw[A4 rfl,A4 rfl,x5,x5];exact⟨rfl,rfl⟩
 | t + 1,hl,_=>by
  have j:a+t<l.length:=by omega
  have f:a<l.length:=by omega
  obtain⟨B,C⟩:=ScFit.made h H I t (by omega) (fun _=>f);obtain⟨U,q2,q3⟩:=h.before H f I;obtain⟨p1,p2,p3,p4⟩:=h.nn (a+t) (by omega);obtain⟨V,W,r3,r4⟩:=h.nn a (by omega);obtain⟨g1,g2,g3,g4,g5,g6,g7,g8⟩:=l8 _ _ _ _ _ _ h.sc (a+t) j;obtain⟨k1,⟨k2,R⟩,k3,⟨k4,S⟩,k5,k6,k7,k8⟩:=l8 _ _ _ _ _ _ h.sc a f;obtain⟨⟨X,a2⟩,⟨Y,Z⟩,⟨c1,c2⟩,⟨d1,d2⟩,w5,w6⟩:=h.ok.get (a+t) j
  have c:sub x (x4 l ((H9 l a).Old-eA l b a) a t) (H9 l (a+t)).Old=sub y (uJ l ((H9 l a).New-eA l b a) a t) (H9 l (a+t)).New /\
    (H9 l a).Old-eA l b a<=x4 l ((H9 l a).Old-eA l b a) a t/\x4 l ((H9 l a).Old-eA l b a) a t<=(H9 l (a+t)).Old /\
    (H9 l a).New-eA l b a<=uJ l ((H9 l a).New-eA l b a) a t/\uJ l ((H9 l a).New-eA l b a) a t<=(H9 l (a+t)).New:=by
   have c:=oV x y l 0 0 h.eq (a+t) j;by_cases k:t=0
   ·subst k;unfold x4 uJ;rw[A4 rfl,A4 rfl];rw[show a+0=a from rfl]at *;exact⟨dE c V W U (by omega) (by omega),by omega,by omega,by omega,by omega⟩
   ·rw[oX _ _ _ k,CD _ _ _ k];have m1:=h.ok.mono a (a+t-1) (by omega) (by omega);have m2:o5 0 l (a+t)=(H9 l (a+t-1)).Old+(H9 l (a+t-1)).OldLen:=by unfold o5;rw[A5 (by omega)];rfl
    have T:∀u,u<=t->(H9 l a).New<=cB 0 l (a+u)\/u=0:=by
     intro u;induction u with
     | zero=>exact fun _=>.inr rfl
     | succ u D =>
      intro hu;obtain⟨E,F,⟨e3,K⟩,⟨M,P⟩,e5,e6,e7,e8⟩:=l8 _ _ _ _ _ _ h.sc (a+u) (by omega);have Q:cB 0 l (a+(u+1))=(H9 l (a+u)).New+(H9 l (a+u)).NewLen:=rfl;rcases D (by omega) with G | G
      ·left;omega
      ·left;subst G;rw[Q];show (H9 l a).New<=(H9 l a).New+(H9 l a).NewLen;exact Int.le_add_of_nonneg_right M
    have m5:=(T t (Nat.le_refl _)).resolve_right k;refine⟨c,by omega,by omega,by omega,by omega⟩
  obtain⟨m,p,q,z,A⟩:=c;simp (decide:=true) only [l7,bD,bE,B,C,if_true,if_false,SJ];have E:x4 l ((H9 l a).Old-eA l b a) a (t+1)=cA (H9 l (a+t)):=AK _ _ _ _;have F:uJ l ((H9 l a).New-eA l b a) a (t+1)=uG (H9 l (a+t)):=rfl;rw[E,F];have J:0<=(H9 l a).Old-eA l b a:=by omega
  have s1:0<=(H9 l a).New-eA l b a:=by omega
  refine⟨?_,?_⟩
  ·rw[bB x J p q,bB x J (by omega) (by unfold cA;omega)]
  ·rw[m,bB y s1 z A];exact bB y s1 (by omega) (by omega)
structure HunkIs (x y:List Str) (l:List Change) (ctx:Int) (a b:Nat) (h:PatchHunk):Prop where
 old:h.Old=(H9 l a).Old-eA l ctx a
 new:h.New=(H9 l a).New-eA l ctx a
 o0:0<=h.Old
 n0:0<=h.New
 oe:h.Old+t7 h=o5 0 l b+eB l x.length ctx b
 ne:h.New+aJ h=cB 0 l b+eB l x.length ctx b
 ox:h.Old+t7 h<=x.length
 ny:h.New+aJ h<=y.length
 ol:E9 h.Lines 43=sub x h.Old (h.Old+t7 h)
 nl:E9 h.Lines 45=sub y h.New (h.New+aJ h)
 ch:y8 h.Lines=true
 gl:(∀s∈x,V1 s=true)->(∀s∈y,V1 s=true)->h.Lines.all fZ=true
theorem oY(p q:List PatchLine):y8 (p++q)=(y8 p||y8 q):=by simp[y8]
theorem oZ{k:UInt8}{a:List Str}(b:k≠32)(h:a≠[]):y8 (x3 k a)=true:=by
 cases a with
 | nil=>exact absurd rfl h
 | cons t a=>simp[y8,x3,b]
theorem bF{k:UInt8}{d:List Str}(i:k=32\/k=45\/k=43)(h:∀t∈d,V1 t=true):(x3 k d).all fZ=true:=by
 rw[List.all_eq_true];intro q c;unfold x3 at c;obtain⟨t,j,rfl⟩:=SF.1 c;unfold fZ;refine A2 ?_;rintro (⟨⟨b,f⟩,g⟩ | b)
 ·rcases i with e | e | e
  ·exact b e
  ·exact f e
  ·exact g e
 ·rw[show (PatchLine.mk k t).Text=t from rfl,h t j]at b;cases b
theorem lK(c:∀s∈x,V1 s=true)(d:∀s∈y,V1 s=true)(i0:Int)(a:Nat):∀t,(l7 l x y i0 a t).all fZ=true
 | 0=>rfl
 | t+1=>by
  simp only[l7,TJ,lK c d i0 a t,Bool.true_and,RH];exact⟨⟨bF (.inl rfl) (fun s b=>c s (mL b)),bF (.inr (.inl rfl)) (fun s b=>c s (mL b))⟩,bF (.inr (.inr rfl)) (fun s b=>d s (mL b))⟩
theorem ScFit.hunk(h:ScFit x y l){c:Int}(I:0<=c){a b:Nat}(ag:a<b)(hb:b<=l.length)(V:opens l c a)(K:b<l.length->opens l c b) :
  HunkIs x y l c a b (S5 l x y (rZ l x.length c a b)):=by
 have z:a<l.length:=by omega
 obtain⟨q1,q2,q3⟩:=h.before I z V;obtain⟨w1,w2,w3,w4,w5⟩:=h.after I hb K (by omega);obtain⟨R,S⟩:=h.made I V (b-a) (by omega) (fun e=>by omega);rw[oX _ _ _ (by omega)]at R;rw[CD _ _ _ (by omega)]at S;rw[show a+(b-a)=b by omega]at R S;obtain⟨r1,r2,r3,r4⟩:=h.nn a (by omega);obtain⟨s1,s2,s3,s4⟩:=h.nn b hb;obtain⟨k1,⟨k2,aj⟩,k3,⟨k4,ak⟩,k5,k6,k7,k8⟩:=l8 _ _ _ _ _ _ h.sc a z;have J:b-1<l.length:=by omega
 obtain⟨g1,⟨g2,ac⟩,g3,⟨g4,ae⟩,g5,g6,g7,g8⟩:=l8 _ _ _ _ _ _ h.sc (b-1) J;have eo:o5 0 l b=(H9 l (b-1)).Old+(H9 l (b-1)).OldLen:=by unfold o5;rw[A5 (by omega)];rfl
 have en:cB 0 l b=(H9 l (b-1)).New+(H9 l (b-1)).NewLen:=by unfold cB;rw[A5 (by omega)];rfl
 have mo:=h.ok.mono a (b-1) (by omega) (by omega);have mn:(H9 l a).New<=cB 0 l b:=by
  have m4:∀u,a+u<=l.length->(H9 l a).New<=cB 0 l (a+u)\/u=0:=by
   intro u;induction u with
   | zero=>exact fun _=>.inr rfl
   | succ u M =>
    intro hu;obtain⟨C,e2,⟨e3,X⟩,⟨Y,Z⟩,e5,e6,e7,e8⟩:=l8 _ _ _ _ _ _ h.sc (a+u) (by omega);have e9:cB 0 l (a+(u+1))=(H9 l (a+u)).New+(H9 l (a+u)).NewLen:=rfl;rcases M (by omega) with U | U
    ·left;omega
    ·left;subst U;rw[e9];show (H9 l a).New<=(H9 l a).New+(H9 l a).NewLen;exact Int.le_add_of_nonneg_right Y
  have:=(m4 (b-a) (by omega)).resolve_right (by omega)
  rwa[show a+(b-a)=b by omega]at this
 have hF:(rZ l x.length c a b).First.toNat=a:=by show ((a:Int)).toNat=a;omega
 have hL:(rZ l x.length c a b).Last.toNat-(rZ l x.length c a b).First.toNat=b-a:=by
  show (((b-1:Nat):Int)+1).toNat-((a:Int)).toNat=b-a;omega
 have G:(rZ l x.length c a b).Old.From=(H9 l a).Old-eA l c a:=rfl;have af:(rZ l x.length c a b).New.From=(H9 l a).New-eA l c a:=rfl;have H:(rZ l x.length c a b).Old.To=o5 0 l b+eB l x.length c b:=by
  unfold eB;rw[eo];rfl
 obtain⟨P,A⟩:∃P,P=S5 l x y (rZ l x.length c a b):=⟨_,rfl⟩
 have f:P.Lines=l7 l x y ((H9 l a).Old-eA l c a) a (b-a)++x3 32 (sub x (o5 0 l b) (o5 0 l b+eB l x.length c b)):=by
  rw[A];unfold S5;show l7 l x y _ (rZ l x.length c a b).First.toNat ((rZ l x.length c a b).Last.toNat-(rZ l x.length c a b).First.toNat)++x3 32 (sub x (x4 l _ (rZ l x.length c a b).First.toNat ((rZ l x.length c a b).Last.toNat-(rZ l x.length c a b).First.toNat)) _)=_;rw[hL,hF,G,H,oX _ _ _ (by omega),show a+(b-a)=b by omega]
 have q:P.Old=(H9 l a).Old-eA l c a:=by rw[A];rfl
 have p:P.New=(H9 l a).New-eA l c a:=by rw[A];rfl
 have j:E9 P.Lines 43=sub x ((H9 l a).Old-eA l c a) (o5 0 l b+eB l x.length c b):=by
  rw[f,bD,bE,A5 (by decide),R];exact bB x (by omega) (by omega) (by omega)
 have k:E9 P.Lines 45=sub y ((H9 l a).New-eA l c a) (cB 0 l b+eB l x.length c b):=by
  rw[f,bD,bE,A5 (by decide),S,w5];exact bB y (by omega) (by omega) (by omega)
 have ai:t7 P=o5 0 l b+eB l x.length c b-((H9 l a).Old-eA l c a):=by
  unfold t7;rw[j];exact bC x (by omega) (by omega) (by omega)
 have ah:aJ P=cB 0 l b+eB l x.length c b-((H9 l a).New-eA l c a):=by
  unfold aJ;rw[k];exact bC y (by omega) (by omega) (by omega)
 rw[<-A];refine⟨q,p,by omega,by omega,by omega,by omega,by omega,by omega,?_,?_,?_,?_⟩
 ·rw[j];congr 1
  ·exact q.symm
  ·omega
 ·rw[k];congr 1
  ·exact p.symm
  ·omega
 ·rw[f,oY];have e:l7 l x y ((H9 l a).Old-eA l c a) a (b-a)=l7 l x y ((H9 l a).Old-eA l c a) a (b-1-a+1):=by congr 1;omega
  rw[e];simp only[l7,oY];rw[show a+(b-1-a)=b-1 by omega];have Q:y8 (x3 45 (sub x (H9 l (b-1)).Old (cA (H9 l (b-1)))))=true\/y8 (x3 43 (sub y (H9 l (b-1)).New ((H9 l (b-1)).New+(H9 l (b-1)).NewLen)))=true:=by
   obtain⟨E,ad⟩:=g3;obtain⟨D,ab⟩:=g1;by_cases h0:(H9 l (b-1)).OldLen=0
   ·right;refine oZ (by decide) fun B=>?_;have:=bC y (a:=(H9 l (b-1)).New) (b:=(H9 l (b-1)).New+(H9 l (b-1)).NewLen) E (by omega) (by omega);rw[B]at this;simp at this;omega
   ·left;refine oZ (by decide) fun B=>?_;have:=bC x (a:=(H9 l (b-1)).Old) (b:=cA (H9 l (b-1))) D (by unfold cA;omega) (by unfold cA;omega);rw[B]at this;unfold cA at this;simp at this;omega
  rcases Q with C | C<;>rw[C]<;>simp
 ·intro W hy;rw[f,TJ,lK W hy,Bool.true_and];exact bF (.inl rfl) (fun s hs=>W s (mL hs))
theorem ScFit.hunks(h:ScFit x y l){c:Int}(D:0<=c)(L:∀s∈x,V1 s=true)(M:∀s∈y,V1 s=true):∀(g:List Hunk) (a:Nat),GrOk l x.length c a g l.length ->
  ∀(i j e:Int),i=o5 0 l a+e->j=cB 0 l a+e->0<=e->e<=c->(a=0->e=0) ->
  kH i j (g.map (S5 l x y))=true/\(K3 (g.map (S5 l x y)) 43).Sublist (x.drop i.toNat)/\(K3 (g.map (S5 l x y)) 45).Sublist (y.drop j.toNat) /\
   ∀p∈g.map (S5 l x y),(p.Old+t7 p<=x.length/\p.New+aJ p<=y.length/\0<=p.Old/\0<=p.New)/\E9 p.Lines 43=sub x p.Old (p.Old+t7 p)/\E9 p.Lines 45=sub y p.New (p.New+aJ p)
 | [],a,_,i,j,e,_,_,_,_,_=>⟨rfl,by simp[K3],by simp[K3],by simp⟩
 | K::g,a,⟨b,hab,ho,hE,w⟩,i,j,e,hi,hj,he,hec,he0=>by
  have hb:=w.le;have A:b<l.length->opens l c b:=by
   intro X;cases g with
   | nil=>exact absurd w (by show ¬b=l.length;omega)
   | cons I Y=>obtain⟨_,_,F,_⟩:=w;exact F
  obtain⟨w1,w2,w3,w4,w5⟩:=h.after D hb A (by omega);obtain⟨q1,q2,q3⟩:=h.before D (show a<l.length by omega) ho;have H:=h.hunk D hab hb ho A;rw[<-hE]at H;obtain⟨P,C⟩:∃P,P=S5 l x y K:=⟨_,rfl⟩
  rw[<-C]at H;obtain⟨Z,i2,i3,i4⟩:=ScFit.hunks h D L M g b w (P.Old+t7 P) (P.New+aJ P) (eB l x.length c b) H.oe H.ne w1 w2 (by omega);obtain⟨k1,⟨k2,ab⟩,k3,⟨k4,ac⟩,k5,k6,k7,k8⟩:=l8 _ _ _ _ _ _ h.sc a (show a<l.length by omega);have R:=H.old;have I:=H.new;have T:=H.o0;have U:=H.n0;have V:=H.ox;have W:=H.ny;have h7:=h.lx;have h8:=h.ly;have n1:0<=t7 P:=by unfold t7;omega
  have n2:0<=aJ P:=by unfold aJ;omega
  have J:e+eA l c a<=(H9 l a).Old-o5 0 l a:=by
   by_cases E:a=0
   ·have:=he0 E;omega
   ·have:=dV ho E;omega
  obtain⟨r1,r2,r3,r4⟩:=h.nn a (by omega);have n:i<=P.Old/\j<=P.New/\P.Old-i=P.New-j/\0<=i/\0<=j:=by omega
  have q:∀(z:List Str) (i f t:Int),0<=i->i<=f->f<=t->∀r:List Str,r.Sublist (z.drop t.toNat)->(sub z f t++r).Sublist (z.drop i.toNat):=by
   intro z i f t E R I r w;have N:z.drop f.toNat=sub z f t++z.drop t.toNat:=by
    unfold sub;rw[show t.toNat=f.toNat+(t.toNat-f.toNat) by omega,<-List.drop_drop,show f.toNat+(t.toNat-f.toNat)-f.toNat=t.toNat-f.toNat by omega,SW]
   have Q:z.drop f.toNat=(z.drop i.toNat).drop (f.toNat-i.toNat):=by rw[List.drop_drop];congr 1;omega
   refine List.Sublist.trans ?_ (List.drop_sublist (f.toNat-i.toNat) (z.drop i.toNat));rw[<-Q,N];exact List.Sublist.append_left w _
  have B:∀(k:UInt8),K3 ((K::g).map (S5 l x y)) k=E9 P.Lines k++K3 (g.map (S5 l x y)) k:=by
   intro k;rw[C];simp[K3]
  refine⟨?_,?_,?_,?_⟩
  ·rw[RW,<-C];simp only[kH,H.gl L M,Z,Bool.and_true,Bool.true_and,RH,decide_eq_true_eq];refine⟨?_,by omega⟩;unfold iQ;rw[H.ch];rintro (((((v | v) | v) | v) | v) | v)
   ·cases v
   all_goals omega
  ·rw[B,H.ol];exact q x i P.Old (P.Old+t7 P) n.2.2.2.1 n.1 (by omega) _ i2
  ·rw[B,H.nl];exact q y j P.New (P.New+aJ P) n.2.2.2.2 n.2.1 (by omega) _ i3
  ·rw[RW,<-C];intro p G;rcases RN.1 G with rfl | G
   ·exact⟨⟨V,W,T,U⟩,H.ol,H.nl⟩
   ·exact i4 p G
theorem iS:∀{s z:List Str},s.Sublist z->j4 z=true->j4 s=true:=by
 intro s z e;induction e with
 | slnil=>exact fun h=>h
 | cons a _ d =>
  intro h;simp only[j4,RH]at h;exact d h.2
 | cons_cons a b d =>
  intro h;simp only[j4,RH,SB]at h ⊢;refine⟨?_,d h.2⟩;rcases h.1 with c | c
  ·left;rw[List.isEmpty_iff]at c ⊢;rw[c]at b;exact List.sublist_nil.1 b
  ·exact .inr c
def W6(l:List Change)(x y:List Str)(b:Int):List PatchHunk:=(S4 l x.length b l.length).map (S5 l x y)
theorem ScFit.good(h:ScFit x y l){a:Int}(b:0<=a)(i:∀s∈x,V1 s=true)(j:∀s∈y,V1 s=true)(c:j4 x=true)(d:j4 y=true):kI (W6 l x y a)=true:=by
 obtain⟨e,f,g,_⟩:=h.hunks b i j _ 0 (bA l x.length a l.length) 0 0 0 rfl rfl (Int.le_refl _) b (fun _=>rfl);unfold kI AJ W6;rw[e,iS f (by simpa using c),iS g (by simpa using d)];rfl
theorem ScFit.texts(h:ScFit x y l){a:Int}(b:0<=a)(c:∀s∈x,V1 s=true)(d:∀s∈y,V1 s=true):∀p∈W6 l x y a,(p.Old+t7 p<=x.length/\p.New+aJ p<=y.length/\0<=p.Old/\0<=p.New)/\E9 p.Lines 43=sub x p.Old (p.Old+t7 p)/\E9 p.Lines 45=sub y p.New (p.New+aJ p) :=
 (h.hunks b c d _ 0 (bA l x.length a l.length) 0 0 0 rfl rfl (Int.le_refl _) b (fun _=>rfl)).2.2.2
theorem kJ{m n:Int}(c:H5 m)(d:H5 n):∀(p:List Span) (i j i0 a:Int) (b:Nat),Asc m n i j p->0<=i0->0<=a->i0<=i->i-i0=j-a->(0<b->i0<i)->I4 b i0 a (R8 i j p m n) m n=true
 | [],i,j,i0,a,b,ha,h1,h2,h3,h4,h5=>by
  obtain⟨e,a2⟩:i<=m/\j<=n:=ha;obtain⟨k,l⟩:=c;obtain⟨o,q⟩:=d;unfold R8;split
  ·rename_i f;simp only[I4,RH,decide_eq_true_eq];refine⟨?_,by omega⟩;unfold oU H5;show ¬(((((((¬(0<=i/\i<=4096)\/¬(0<=m-i/\m-i<=4096))\/¬(0<=j/\j<=4096))\/¬(0<=n-j/\n-j<=4096))\/m-i+(n-j)=0)\/i-i0≠j-a)\/i<i0)\/(0<(b:Int)/\i=i0));omega
  ·simp only[I4,decide_eq_true_eq];omega
 | x::r,i,j,i0,a,b,ha,h1,h2,h3,h4,h5=>by
  obtain⟨e,a2,a3⟩:=ha;have g:=a3.le;unfold R8;split
  ·rename_i f;simp only[SD,SP,I4,RH,decide_eq_true_eq];refine⟨?_,?_⟩
   ·obtain⟨k,l⟩:=c;obtain⟨o,q⟩:=d;unfold oU H5;show ¬(((((((¬(0<=i/\i<=4096)\/¬(0<=x.From-i/\x.From-i<=4096))\/¬(0<=j/\j<=4096))\/¬(0<=x.To-j/\x.To-j<=4096))\/x.From-i+(x.To-j)=0)\/i-i0≠j-a)\/i<i0)\/(0<(b:Int)/\i=i0));omega
   ·exact kJ c d r _ _ _ _ _ a3 (by omega) (by omega) (by omega) (by omega) (fun _=>by omega)
  ·rw[SP];exact kJ c d r _ _ _ _ _ a3 h1 h2 (by omega) (by omega) (fun h=>by omega)
def JT(X Y:List Str)(s:Span):Prop:=0<=s.From/\0<=s.To/\∃v,X[s.From.toNat]?=some v/\Y[s.To.toNat]?=some v
theorem aK{X:List Str}{a b:Int}{v:Str}(c:0<=a)(d:a<=b)(g:X[b.toNat]?=some v):sub X a (b+1)=sub X a b++[v]:=by
 rw[<-bB X c d (by omega:b<=b+1)]
 congr 1
 unfold sub;obtain⟨f,e⟩:=List.getElem?_eq_some_iff.1 g;rw[RO f,e,show (b+1).toNat-b.toNat=1 by omega];rfl
theorem kK{X Y:List Str}:∀(p:List Span) (i j i0 b:Int),Asc X.length Y.length i j p->0<=i0->0<=b->i0<=i->b<=j->(∀s∈p,JT X Y s)->sub X i0 i=sub Y b j->dD X Y i0 b (R8 i j p X.length Y.length)
 | [],i,j,i0,b,ha,h1,h2,h3,h4,he,a=>by
  obtain⟨g,a2⟩:i<=(X.length:Int)/\j<=(Y.length:Int):=ha;unfold R8;split
  ·refine⟨a,?_⟩;show sub X (i+(X.length-i)) X.length=sub Y (j+(Y.length-j)) Y.length;rw[show i+((X.length:Int)-i)=X.length by omega,show j+((Y.length:Int)-j)=Y.length by omega,x5,x5]
  ·have c:(X.length:Int)=i:=by omega
   have d:(Y.length:Int)=j:=by omega
   show sub X i0 X.length=sub Y b Y.length;rw[c,d];exact a
 | x::r,i,j,i0,b,ha,h1,h2,h3,h4,he,a=>by
  obtain⟨g,a2,a3⟩:=ha;obtain⟨_,_,v,f,v2⟩:=he x (by simp);have e:∀s∈r,JT X Y s:=fun s a=>he s (by simp[a]);unfold R8;split
  ·refine⟨a,?_⟩;show dD X Y (i+(x.From-i)) (j+(x.To-j)) (R8 (x.From+1) (x.To+1) r X.length Y.length);rw[show i+(x.From-i)=x.From by omega,show j+(x.To-j)=x.To by omega];refine kK r _ _ _ _ a3 (by omega) (by omega) (by omega) (by omega) e ?_;rw[aK (by omega) (Int.le_refl _) f,aK (by omega) (Int.le_refl _) v2,x5,x5]
  ·have c:x.From=i:=by omega
   have d:x.To=j:=by omega
   rw[SP];refine kK r _ _ _ _ a3 h1 h2 (by omega) (by omega) e ?_;rw[aK h1 (by omega) f,aK h2 (by omega) v2,c,d,a]
theorem EE:∀(a b:List Int) (p q:Int),∀s∈I3 p q a b,p<=s.From/\q<=s.To/\∃v,a[(s.From-p).toNat]?=some v/\b[(s.To-q).toNat]?=some v:=by
 intro a;induction a with
 | nil=>intro b p q s c;simp[I3]at c
 | cons x a g =>
  intro b;induction b with
  | nil=>intro p q s c;simp[I3]at c
  | cons y b h =>
   intro p q s c;unfold I3 at c;split at c
   ·rename_i e;rcases RN.1 c with rfl | c
    ·exact⟨Int.le_refl _,Int.le_refl _,x,by simp,by simp[e]⟩
    ·obtain⟨i,j,v,d,f⟩:=g b (p+1) (q+1) s c;refine⟨by omega,by omega,v,?_,?_⟩
     ·rw[show (s.From-p).toNat=(s.From-(p+1)).toNat+1 by omega];simpa using d
     ·rw[show (s.To-q).toNat=(s.To-(q+1)).toNat+1 by omega];simpa using f
   ·split at c
    ·obtain⟨i,j,v,d,f⟩:=g (y::b) (p+1) q s c;refine⟨by omega,by omega,v,?_,f⟩;rw[show (s.From-p).toNat=(s.From-(p+1)).toNat+1 by omega];simpa using d
    ·obtain⟨i,j,v,d,f⟩:=h p (q+1) s c;refine⟨by omega,by omega,v,d,?_⟩;rw[show (s.To-q).toNat=(s.To-(q+1)).toNat+1 by omega];simpa using f
theorem lL:∀(l:List Str) (s t:Str) (k:Int),0<=k->s∈l->t∈l->J6 l s k=J6 l t k->s=t
 | [],_,_,_,_,h,_,_=>by simp at h
 | x::r,s,t,k,hk,hs,ht,e=>by
  unfold J6 at e;by_cases b:x=s
  ·by_cases a:x=t
   ·exact b.symm.trans a
   ·rw[A4 b,A5 a]at e;have d:t∈r:=(RN.1 ht).resolve_left (fun q=>a q.symm);have:=oP r t (k+1) (by omega) d;omega
  ·have c:s∈r:=(RN.1 hs).resolve_left (fun q=>b q.symm);by_cases a:x=t
   ·rw[A5 b,A4 a]at e;have:=oP r s (k+1) (by omega) c;omega
   ·rw[A5 b,A5 a]at e;exact lL r s t (k+1) (by omega) c ((RN.1 ht).resolve_left (fun q=>a q.symm)) e
theorem sA{a f:List Str}{i:Nat}{v:Int}(h:(J7 a f)[i]?=some v):∃s,f[i]?=some s/\J6 a s 0=v:=by
 unfold J7 at h;rw[SR]at h;cases b:f[i]? with
 | none=>rw[b]at h;cases h
 | some s=>rw[b]at h;exact⟨s,rfl,Option.some.inj h⟩
theorem pA(x y:List Str)(q:x.length<=4096)(r:y.length<=4096):ScFit x y (Z0 x y):=by
 have b:(J7 (F2 [x,y]) x).length=x.length:=by simp[J7]
 have c:(J7 (F2 [x,y]) y).length=y.length:=by simp[J7]
 have a:=oO (J7 (F2 [x,y]) x) (J7 (F2 [x,y]) y) 0 0;rw[b,c,Int.zero_add,Int.zero_add]at a;refine⟨by omega,by omega,?_,?_⟩
 ·unfold Z0 kC dA;rw[b,c];exact kJ ⟨by omega,by omega⟩ ⟨by omega,by omega⟩ _ _ _ _ _ _ a (Int.le_refl _) (Int.le_refl _) (Int.le_refl _) rfl (fun h=>absurd h (by omega))
 ·unfold Z0 kC dA;rw[b,c];refine kK _ _ _ _ _ a (Int.le_refl _) (Int.le_refl _) (Int.le_refl _) (Int.le_refl _) ?_ (by rw[x5,x5]);intro s m;obtain⟨j,k,v,d,f⟩:=EE _ _ _ _ s m;rw[Int.sub_zero]at d f;obtain⟨u,i,o⟩:=sA d;obtain⟨w,w1,p⟩:=sA f;have e:u=w:=lL (F2 [x,y]) u w 0 (Int.le_refl _) (lH _ _ x (by simp) (SA i)) (lH _ _ y (by simp) (SA w1)) (o.trans p.symm);subst e;exact⟨j,k,u,i,w1⟩
theorem sB:∀(b:List PatchLine),b.all fZ=true->(b.map LY).sum<=64*((E9 b 43).length+(E9 b 45).length)+((E9 b 43).flatten.length+(E9 b 45).flatten.length)
 | [],_=>by simp
 | q::b,h=>by
  rw[List.all_cons,RH]at h;have x:=sB b h.2;have v:q.Kind=32\/q.Kind=45\/q.Kind=43:=by
   have c:=h.1;unfold fZ at c;have c:=A0 c;by_cases d:q.Kind=32
   ·exact .inl d
   by_cases j:q.Kind=45
   ·exact .inr (.inl j)
   by_cases o:q.Kind=43
   ·exact .inr (.inr o)
   exact absurd (.inl ⟨⟨d,j⟩,o⟩) c
  have p:∀k:UInt8,E9 (q::b) k=if q.Kind≠k then q.Text::E9 b k else E9 b k:=by
   intro k;unfold E9;by_cases e:q.Kind=k
   ·rw[A5 (by simpa using e),List.filter_cons_of_neg (by simpa using e)]
   ·rw[A4 e,List.filter_cons_of_pos (by simpa using e)];rfl
  rw[p 43,p 45,RW,List.sum_cons];have w:LY q=q.Text.length+64:=rfl;rcases v with e | e | e<;>rw[e]<;>simp (decide:=true) only [if_true,if_false,ne_eq,not_true_eq_false,not_false_eq_true,RJ,SY,RK]<;>omega
theorem iT:∀(c:List PatchHunk) (i j:Int),kH i j c=true->IM c<=128*((K3 c 43).length+(K3 c 45).length)+((K3 c 43).flatten.length+(K3 c 45).flatten.length)
 | [],_,_,_=>by simp[IM]
 | h :: c,i,j,hg=>by
  simp only[kH,RH,decide_eq_true_eq]at hg;obtain⟨z,A,F,B⟩:=hg;have E:=iT c _ _ B;have G:=sB h.Lines z;have C:1<=h.Lines.length:=by
   cases D:h.Lines with
   | nil=>exact absurd (.inl (.inl (.inl (.inl (.inl (by rw[D];rfl)))))) A
   | cons a b=>simp
  have w:h.Lines.length<=(E9 h.Lines 43).length+(E9 h.Lines 45).length:=by
   have:64*h.Lines.length<=(h.Lines.map LY).sum:=JR h.Lines;have v:∀d:List PatchLine,d.length<=(E9 d 43).length+(E9 d 45).length:=by
    intro d;induction d with
    | nil=>simp
    | cons q d E =>
     have x:∀k:UInt8,(E9 (q::d) k).length=if q.Kind≠k then (E9 d k).length+1 else (E9 d k).length:=by
      intro k;unfold E9;by_cases e:q.Kind=k
      ·rw[A5 (by simpa using e),List.filter_cons_of_neg (by simpa using e)]
      ·rw[A4 e,List.filter_cons_of_pos (by simpa using e)];simp
     rw[x 43,x 45,RJ];by_cases e:q.Kind=43
     ·have y:q.Kind≠45:=by rw[e];decide
      rw[A4 y];split<;>omega
     ·rw[A4 e];split<;>omega
   exact v h.Lines
  have r:IM (h::c)=PT h+IM c:=by simp[IM]
  have p:PT h=64+(h.Lines.map LY).sum:=rfl;have o:∀k,K3 (h::c) k=E9 h.Lines k++K3 c k:=by intro k;simp[K3]
  rw[r,p,o 43,o 45];simp only[RK,SZ];omega
theorem lM:∀{s z:List Str},s.Sublist z->s.flatten.length<=z.flatten.length:=by
 intro s z b;induction b with
 | slnil=>exact Nat.le_refl _
 | cons a _ c=>simp only[SY,RK];omega
 | cons_cons a _ c=>simp only[SY,RK];omega
theorem ScFit.size{x y:List Str}{l:List Change}(h:ScFit x y l){c:Int}(k:0<=c)(q:∀s∈x,V1 s=true)(r:∀s∈y,V1 s=true):IM (W6 l x y c)<=128*(x.length+y.length)+(x.flatten.length+y.flatten.length):=by
 obtain⟨n,g,j,_⟩:=h.hunks k q r _ 0 (bA l x.length c l.length) 0 0 0 rfl rfl (Int.le_refl _) k (fun _=>rfl);have o:=iT _ _ _ n;have e:W6 l x y c=(S4 l x.length c l.length).map (S5 l x y):=rfl;rw[<-e]at g j o;have d:(K3 (W6 l x y c) 43).Sublist x:=by simpa using g
 have f:(K3 (W6 l x y c) 45).Sublist y:=by simpa using j
 have:=d.length_le;have:=f.length_le;have:=lM d;have:=lM f;omega
theorem pB(s:Str):∀b:Str,(F8 b s).flatten=b++s:=by
 induction s with
 | nil=>intro b;unfold F8;split<;>simp[*]
 | cons c r d=>intro b;rw[d9];split<;>simp[d]
theorem AN(a:Str):(D8 a).flatten.length=a.length/\(D8 a).length<=a.length:=⟨by unfold D8;rw[pB];rfl,s7 a⟩
abbrev gA:Int->Nat->Cell:=fun x _=>.v (.int .u16 x)
abbrev ON(l:List Int):PV:=.one (.list Int 1 gA l)
theorem AO(n:Int)(h:0<=n/\n<65536):IntKind.u16.wrap n=n:=by
 simp[IntKind.wrap,IntKind.signed,IntKind.bits];omega
def flat(a b:List Int)(done:Nat->Nat->Bool):List Int :=
 (List.range ((a.length+1)*(b.length+1))).map fun p=>if done (p / (b.length+1)) (p % (b.length+1))=true then (dist (a.drop (p / (b.length+1))) (b.drop (p % (b.length+1))):Int) else 0
theorem lN(a b:List Int)(done:Nat->Nat->Bool):(flat a b done).length=(a.length+1)*(b.length+1):=by simp[flat]
theorem mM{a b:List Int}{i j:Nat}(c:i<=a.length)(d:j<=b.length):i*(b.length+1)+j<(a.length+1)*(b.length+1)/\(i*(b.length+1)+j) / (b.length+1)=i/\(i*(b.length+1)+j) % (b.length+1)=j:=by
 refine⟨?_,?_,?_⟩
 ·have:(i+1)*(b.length+1)<=(a.length+1)*(b.length+1):=RU _ (by omega);rw[SG,Nat.one_mul]at this;omega
 ·rw[Nat.mul_comm,Nat.mul_add_div (by omega),Nat.div_eq_of_lt (by omega),Nat.add_zero]
 ·rw[Nat.mul_comm,Nat.mul_add_mod,Nat.mod_eq_of_lt (by omega)]
theorem pC{a b:List Int}{done:Nat->Nat->Bool}{i j:Nat}(f:i<=a.length)(g:j<=b.length):(flat a b done)[i*(b.length+1)+j]?=some (if done i j=true then (dist (a.drop i) (b.drop j):Int) else 0):=by
 obtain⟨c,d,e⟩:=mM f g;unfold flat
 rw[DY _ _ _ c,d,e]
theorem wX{a b:List Int}{done c:Nat->Nat->Bool}{i j:Nat}{v:Int}(n:i<=a.length)(o:j<=b.length)(x:v=(dist (a.drop i) (b.drop j):Int))(m:c i j=true)
  (p:∀r q,r<=a.length->q<=b.length->¬(r=i/\q=j)->c r q=done r q):(flat a b done).set (i*(b.length+1)+j) v=flat a b c:=by
 obtain⟨y,k,l⟩:=mM n o;unfold flat
 refine rU _ _ _ _ _ (fun _=>?_) (fun q u d=>?_)
 ·rw[k,l,A4 m,x]
 ·have f:0<b.length+1:=by omega
  have e:=Nat.div_add_mod q (b.length+1);have w:q / (b.length+1)<=a.length:=by
   have:=(Nat.div_lt_iff_lt_mul f).2 u;omega
  have z:=Nat.mod_lt q f;rw[p _ _ w (by omega) (fun ⟨g,h⟩=>d (by rw[g,h,Nat.mul_comm]at e;exact e.symm))]
theorem EF(a b:List Int):List.replicate ((a.length+1)*(b.length+1)) 0=flat a b (fun _ _=>false):=by
 unfold flat
 simp only[Bool.false_eq_true,if_false];rw[List.map_const',SS]
theorem bG{a b:List Int}{done c:Nat->Nat->Bool}(h:∀r q,r<=a.length->q<=b.length->(done r q=c r q\/dist (a.drop r) (b.drop q)=0)):flat a b done=flat a b c:=by
 unfold flat
 apply List.map_congr_left;intro p d;have d:=RQ.1 d;have f:0<b.length+1:=by omega
 have g:p / (b.length+1)<=a.length:=by have:=(Nat.div_lt_iff_lt_mul f).2 d;omega
 have i:=Nat.mod_lt p f;rcases h (p / (b.length+1)) (p % (b.length+1)) g (by omega) with e | e
 ·rw[e]
 ·rw[e];simp
def Q6:List Int->List Int->Nat
 | x::a,y::b=>if x=y then Q6 a b+1 else 0
 | _,_=>0
theorem wY:∀(a b:List Int),Q6 a b<=a.length/\Q6 a b<=b.length
 | [],_=>by simp[Q6]
 | _::_,[]=>by simp[Q6]
 | x::a,y::b=>by
  have:=wY a b;unfold Q6;simp only[RJ];split<;>omega
theorem pD(a b:List Int)(k:Nat)(d:k<a.length)(c:k<b.length):Q6 (a.drop k) (b.drop k)=if a[k]=b[k] then Q6 (a.drop (k+1)) (b.drop (k+1))+1 else 0:=by
 rw[RO d,RO c];rfl
theorem EG(a b:List Int)(k:Nat)(h:¬(k<a.length/\k<b.length)):Q6 (a.drop k) (b.drop k)=0:=by
 by_cases c:k<a.length
 ·rw[RX (as:=b) (by omega)];cases a.drop k<;>rfl
 ·rw[RX (as:=a) (by omega)];rfl
theorem pE:∀(a b:List Int) (p q:Int),I3 p q a b=K5 p q (Q6 a b)++I3 (p+Q6 a b) (q+Q6 a b) (a.drop (Q6 a b)) (b.drop (Q6 a b))
 | [],b,p,q=>by simp[Q6,o4]
 | x::a,[],p,q=>by simp[Q6,o4]
 | x::a,y::b,p,q=>by
  unfold Q6;by_cases h:x=y
  ·rw[A4 h]
   conv=>lhs;unfold I3
   rw[A4 h,pE a b (p+1) (q+1),tZ];simp only[List.drop_succ_cons,SD];rw[show p+1+(Q6 a b:Int)=p+((Q6 a b+1:Nat):Int) by omega,show q+1+(Q6 a b:Int)=q+((Q6 a b+1:Nat):Int) by omega]
  ·rw[A5 h];simp[o4]
def GrX(l:List Change)(m d:Int):Nat->List Hunk->Nat->Prop
 | a,[],k=>a=k
 | a,h::r,k=>∃b,a<b/\opens l d a/\(∀c,a<c->c<b->¬opens l d c)/\h=rZ l m d a b/\GrX l m d b r k
theorem GrX.le{l:List Change}{m c:Int}:∀{d:List Hunk} {a k:Nat},GrX l m c a d k->a<=k
 | [],a,k,h=>Nat.le_of_eq h
 | _::_,a,k,⟨b,h1,_,_,_,h2⟩=>by have:=GrX.le h2;omega
theorem GrX.snoc{l:List Change}{m d:Int}{k n:Nat}(g:opens l d k)(f:k<n)(e:∀c,k<c->c<n->¬opens l d c):∀{i:List Hunk} {a:Nat},GrX l m d a i k->GrX l m d a (i++[rZ l m d k n]) n
 | [],a,h=>by
  obtain rfl:a=k:=h;exact⟨n,f,g,e,rfl,rfl⟩
 | _::_,a,⟨b,h1,h2,h3,h4,h5⟩=>⟨b,h1,h2,h3,h4,GrX.snoc g f e h5⟩
theorem GrX.last{l:List Change}{m d:Int}{k:Nat}(f:¬opens l d k):∀{e:List Hunk} {a:Nat},GrX l m d a e k->e≠[]->GrX l m d a (e.set (e.length-1) (iP l m d k (e.getD (e.length-1) BZ))) (k+1)
 | [],_,_,h0=>absurd rfl h0
 | [h],a,⟨b,h1,h2,h3,h4,h5⟩,_=>by
  obtain rfl:b=k:=h5;subst h4;refine⟨b+1,by omega,h2,fun c g j=>?_,rfl,rfl⟩;by_cases i:c=b
  ·rw[i];exact f
  ·exact h3 c g (by omega)
 | h::h'::r,a,⟨b,h1,h2,h3,h4,h5⟩,_=>by
  have n:=GrX.last f h5 (by simp);refine⟨b,h1,h2,h3,h4,?_⟩;simpa using n
theorem GrX.len{l:List Change}{m c:Int}:∀{d:List Hunk} {a k:Nat},GrX l m c a d k->d.length<=k-a
 | [],_,_,_=>Nat.zero_le _
 | _::_,a,k,⟨b,h1,_,_,_,h2⟩=>by have:=GrX.len h2;have:=h2.le;simp only[RJ];omega
def o6:List Str->Int->List (Str×Cell)
 | [],_=>[]
 | s::r,i=>(s,.v (.int .i64 i))::o6 r (i+1)
theorem sC(s:Str):∀(l:List Str) (i:Int),o6 (l++[s]) i=o6 l i++[(s,.v (.int .i64 (i+l.length)))]
 | [],i=>by simp[o6]
 | x::r,i=>by
  simp only[SD,o6,sC s r,RJ];rw[show i+1+(r.length:Int)=i+((r.length+1:Nat):Int) by omega]
theorem sD(s:Str):∀(l:List Str) (i:Int),s∈l->J3 (o6 l i) s=some (.v (.int .i64 (J6 l s i)))
 | [],_,h=>by simp at h
 | x::r,i,h=>by
  simp only[o6,J3,J6];by_cases a:x=s
  ·rw[A4 a,A4 a]
  ·rw[A5 a,A5 a];exact sD s r (i+1) ((RN.1 h).resolve_left (fun q=>a q.symm))
theorem pF(s:Str):∀(l:List Str) (i:Int),s∉l->J3 (o6 l i) s=none
 | [],_,_=>rfl
 | x::r,i,h=>by
  simp only[o6,J3];rw[A5 (fun q=>h (by simp[q]))];exact pF s r (i+1) (fun q=>h (by simp[q]))
theorem dF(s:Str)(r:List Str):∀(l:List Str) (i:Int),s∈l->J6 (l++r) s i=J6 l s i
 | [],_,h=>by simp at h
 | x::l,i,h=>by
  simp only[SD,J6];by_cases a:x=s
  ·rw[A4 a,A4 a]
  ·rw[A5 a,A5 a];exact dF s r l (i+1) ((RN.1 h).resolve_left (fun q=>a q.symm))
theorem lO(s:Str):∀(l:List Str) (i:Int),s∉l->J6 (l++[s]) s i=i+l.length
 | [],i,_=>by simp[J6]
 | x::l,i,h=>by
  simp only[SD,J6,RJ];rw[A5 (fun q=>h (by simp[q])),lO s l (i+1) (fun q=>h (by simp[q]))];omega
theorem iU:∀(l a:List Str),∃r,l.foldl J8 a=a++r
 | [],a=>⟨[],by simp⟩
 | s::l,a=>by
  obtain⟨r,b⟩:=iU l (J8 a s);rw[SI,b];unfold J8;split
  ·exact⟨r,rfl⟩
  ·exact⟨s::r,by simp⟩
def K6(files:List (List Str))(k j:Nat):List Str:=((files.take k).flatten++(files.getD k []).take j).foldl J8 []
theorem wZ(files:List (List Str))(k:Nat):K6 files (k+1) 0=K6 files k (files.getD k []).length:=by
 unfold K6;rw[List.take_zero,SJ,RS];by_cases h:k<files.length
 ·rw[w7 files k h]
  congr 2
  simp[h]
 ·rw[SE (by omega),SE (by omega)];have:files.getD k []=[]:=by simp[show files.length<=k by omega]
  rw[this,SJ]
theorem uK(files:List (List Str))(k j:Nat)(s:Str)(h:(files.getD k [])[j]?=some s):K6 files k (j+1)=J8 (K6 files k j) s:=by
 unfold K6;have b:j<(files.getD k []).length:=(List.getElem?_eq_some_iff.1 h).1;have a:=(List.getElem?_eq_some_iff.1 h).2;rw[SK b,a,<-RT,TF];rfl
theorem xA(files:List (List Str)):K6 files files.length 0=F2 files:=by
 unfold K6 F2;rw[RS];simp
theorem lP(files:List (List Str))(k j:Nat):∃r,F2 files=K6 files k j++r:=by
 have h:∃m,files.flatten=((files.take k).flatten++(files.getD k []).take j)++m:=by
  refine⟨(files.getD k []).drop j++(files.drop (k+1)).flatten,?_⟩;by_cases b:k<files.length
  ·have e:files=files.take k++files.getD k []::files.drop (k+1):=by
    have:files.getD k []=files[k]:=by simp[b]
    rw[this,List.getElem_cons_drop,SW]
   conv=>lhs;rw[e]
   rw[SZ,SY,RT]
   congr 1
   rw[<-RT,SW]
  ·have:files.getD k []=[]:=by simp[show files.length<=k by omega]
   rw[this,SE (by omega:files.length<=k),RX (by omega:files.length<=k+1)];simp
 obtain⟨m,c⟩:=h;unfold F2 K6;rw[c,TF];obtain⟨r,g⟩:=iU m (((files.take k).flatten++(files.getD k []).take j).foldl J8 []);exact⟨r,g⟩
theorem pG(files:List (List Str))(k j:Nat):(K6 files k j).length<=files.flatten.length:=by
 obtain⟨r,a⟩:=lP files k j;have:=oN files;rw[a,RK]at this;omega
def L6(files:List (List Str))(k:Nat):List TC:=(List.range files.length).map fun r=>if r<k then .p (.list Int 1 G4 (J7 (F2 files) (files.getD r []))) else .p (.v (.slice none 0 0))
theorem EH{files:List (List Str)}{k:Nat}(h:k<files.length):(L6 files k)[k]?=some (.p (.v (.slice none 0 0))):=by
 simp[L6,h]
theorem uL(files:List (List Str))(k m:Nat)(_h:k<files.length):((L6 files k).set k (.buf m Int 1 G4 (J7 (F2 files) (files.getD k [])))).map (TC.forget m)=L6 files (k+1):=by
 have c:(L6 files k).map (TC.forget m)=L6 files k:=by
  unfold L6;rw[SX];apply List.map_congr_left;intro r _;simp only[Function.comp];split<;>rfl
 rw[List.map_set,c];have d:(TC.buf m Int 1 G4 (J7 (F2 files) (files.getD k []))).forget m=.p (.list Int 1 G4 (J7 (F2 files) (files.getD k []))):=by simp[TC.forget]
 rw[d];unfold L6;refine rU _ _ _ _ _ (fun _=>by simp) (fun q n j=>?_);simp only[show (q<k+1)=(q<k) from propext ⟨fun h=>by omega,fun h=>by omega⟩]
theorem AP(files:List (List Str)):List.replicate files.length (TC.p (.v (.slice none 0 0)))=L6 files 0:=by
 unfold L6;simp only[Nat.not_lt_zero,if_false,List.map_const',SS]
theorem AQ(files:List (List Str)):L6 files files.length=(files.map (J7 (F2 files))).map fun x=>TC.p (intsC x 0):=by
 unfold L6;apply List.ext_getElem
 ·simp
 ·intro i b d;have c:i<files.length:=by simpa using b
  simp[c,intsC]
theorem CE(m n:Int):∀(l:List Change) (a:Nat) (i j:Int),(∀k,k<l.length->H5 (H9 l k).Old/\H5 (H9 l k).OldLen/\H5 (H9 l k).New/\H5 (H9 l k).NewLen/\(H9 l k).OldLen+(H9 l k).NewLen≠0/\(H9 l k).Old-o5 i l k=(H9 l k).New-cB j l k/\o5 i l k<=(H9 l k).Old/\(0<a+k->o5 i l k<(H9 l k).Old)) ->
  (m-o5 i l l.length=n-cB j l l.length/\o5 i l l.length<=m)->I4 a i j l m n=true
 | [],a,i,j,_,h=>by
  have b:m-i=n-j/\i<=m:=h;simp only[I4,decide_eq_true_eq];omega
 | c::r,a,i,j,h,he=>by
  simp only[I4,RH,decide_eq_true_eq];refine⟨?_,CE m n r (a+1) _ _ (fun k E=>?_) ?_⟩
  ·obtain⟨b,f,g,o,p,s,u,t⟩:=h 0 (by simp);have b:H5 c.Old:=b;have f:H5 c.OldLen:=f;have g:H5 c.New:=g;have o:H5 c.NewLen:=o;have p:c.OldLen+c.NewLen≠0:=p;have s:c.Old-i=c.New-j:=s;have u:i<=c.Old:=u;have t:0<a+0->i<c.Old:=t;unfold oU;rintro (((((((q | q) | q) | q) | q) | q) | q) | ⟨q,G⟩)
   ·exact q b
   ·exact q f
   ·exact q g
   ·exact q o
   ·exact p q
   ·exact q s
   ·omega
   ·have:=t (by omega);omega
  ·have:=h (k+1) (by simpa using E);rw[iR,j5,j6]at this;obtain⟨v,x,y,z,A,B,C,D⟩:=this;exact⟨v,x,y,z,A,B,C,fun F=>D (by omega)⟩
  ·rw[RJ,j5,j6]at he;exact he
theorem CF(x y:List Str):∀(l:List Change) (i j:Int),(∀k,k<l.length->sub x (o5 i l k) (H9 l k).Old=sub y (cB j l k) (H9 l k).New)->sub x (o5 i l l.length) x.length=sub y (cB j l l.length) y.length->dD x y i j l
 | [],_,_,_,h=>h
 | c::r,i,j,h,he=>by
  refine⟨h 0 (by simp),CF x y r _ _ (fun k a=>?_) ?_⟩
  ·have:=h (k+1) (by simpa using a);rw[iR,j5,j6]at this;exact this
  ·rw[RJ,j5,j6]at he;exact he
theorem CG{x:List Str}{p q:Int}{t:Nat}(b:0<=p)(h:p+t<q):(sub x p q)[t]?=x[(p+t).toNat]?:=by
 unfold sub;rw[List.getElem?_take,A4 (by omega),SO]
 congr 1;omega
theorem uM{x y:List Str}{p q b d:Int}(h:sub x p q=sub y b d)(f:0<=p)(c:0<=b)(j:q<=x.length)(i:q-p=d-b){t:Nat}(g:p+t<q):∃v,x[(p+t).toNat]?=some v/\y[(b+t).toNat]?=some v:=by
 have e:x[(p+t).toNat]?=some x[(p+t).toNat]:=RG (by omega);refine⟨_,e,?_⟩;rw[<-CG (q:=d) c (by omega),<-h,CG f g];exact e
theorem lQ{i j:Int}{n:Nat}{p:Span}(h:p∈K5 i j n):∃t:Nat,t<n/\p=⟨i+t,j+t⟩:=by
 unfold K5 at h;obtain⟨t,a,b⟩:=SF.1 h;exact⟨t,RQ.1 a,b.symm⟩
theorem pH{x y:List Str}:∀(l:List Change) (e:Nat) (i j:Int),I4 e i j l x.length y.length=true->dD x y i j l->0<=i->0<=j->∀p∈Q0 i j l x.length,JT x y p
 | [],e,i,j,hs,d,hi,hj,p,b=>by
  simp only[I4,decide_eq_true_eq]at hs;unfold Q0 at b;obtain⟨t,s,rfl⟩:=lQ b;have d:sub x i x.length=sub y j y.length:=d;exact⟨by dsimp only;omega,by dsimp only;omega,uM d hi hj (by omega) (by omega) (by omega)⟩
 | c::r,e,i,j,hs,d,hi,hj,p,b=>by
  have m:=w9 _ _ _ _ _ _ hs;have g:=l8 x.length y.length (c::r) e i j hs 0 (by simp);obtain⟨g1,f,h,k,u,n,q,_⟩:=g;have g1:H5 c.Old:=g1;have f:H5 c.OldLen:=f;have h:H5 c.New:=h;have k:H5 c.NewLen:=k;have n:c.Old-i=c.New-j:=n;have q:i<=c.Old:=q;simp only[I4,RH,decide_eq_true_eq]at hs;unfold Q0 at b;unfold H5 at g1 f h k;have v:=m.2.2.2.2.2.2.end_le;rcases RL.1 b with b | b
  ·obtain⟨t,s,rfl⟩:=lQ b;exact⟨by dsimp only;omega,by dsimp only;omega,uM d.1 hi hj (by omega) (by omega) (by omega)⟩
  ·rw[show max i c.Old+c.OldLen=c.Old+c.OldLen by omega,show j+((c.Old-i).toNat:Int)+c.NewLen=c.New+c.NewLen by omega]at b;exact pH r (e+1) _ _ hs.2 d.2 (by omega) (by omega) p b
theorem ScFit.pairs{x y:List Str}{l:List Change}(h:ScFit x y l):∀p∈R5 l x.length,JT x y p:=pH l 0 0 0 h.sc h.eq (Int.le_refl _) (Int.le_refl _)
def kL(c:Change):Change:=⟨c.Old+1,c.OldLen,c.New+1,c.NewLen⟩
def bH(l:List Change)(k:Nat):List Change:=l.set k (kL (H9 l k))
def IN(t:List Int)(i:Int):Int:=t.getD i.toNat 0
def CH(l:List Change)(k:Nat)(t:List Int)(f n:Int):Prop:=(f+n<t.length/\IN t f=IN t (f+n))/\(k+1=l.length\/(H9 l k).Old+(H9 l k).OldLen+1<(H9 l (k+1)).Old)
instance (l:List Change) (k:Nat) (t:List Int) (f n:Int):Decidable (CH l k t f n):=by unfold CH;exact inferInstance
def mN(l:List Change)(a b:List Int)(k:Nat):Bool :=
 if (H9 l k).NewLen=0 then decide (CH l k a (H9 l k).Old (H9 l k).OldLen) else if (H9 l k).OldLen=0 then decide (CH l k b (H9 l k).New (H9 l k).NewLen) else false
theorem Z1(l:List Change)(k:Nat):(bH l k).length=l.length:=by simp[bH]
theorem dW(l:List Change){k:Nat}(a:k<l.length)(q:Nat):H9 (bH l k) q=if q=k then kL (H9 l k) else H9 l q:=by
 unfold bH;by_cases h:q=k
 ·subst h;have:∀z,H9 (l.set q z) q=z:=fun z=>by unfold H9;simp[a]
  rw[A4 rfl,this]
 ·rw[A5 h];unfold H9;simp only[RR];rw[List.getElem?_set_ne (Ne.symm h)]
theorem iV(l:List Change){k:Nat}(a:k<l.length)(q:Nat):o5 0 (bH l k) q=o5 0 l q+(if q=k+1 then 1 else 0):=by
 cases q with
 | zero=>simp[o5]
 | succ q =>
  rw[dB,dB,dW l a];by_cases h:q=k
  ·subst h;rw[A4 rfl,A4 rfl];simp only[cA,kL];omega
  ·rw[A5 h,A5 (by omega)];omega
theorem iW(l:List Change){k:Nat}(a:k<l.length)(q:Nat):cB 0 (bH l k) q=cB 0 l q+(if q=k+1 then 1 else 0):=by
 cases q with
 | zero=>simp[cB]
 | succ q =>
  rw[dC,dC,dW l a];by_cases h:q=k
  ·subst h;rw[A4 rfl,A4 rfl];simp only[uG,kL];omega
  ·rw[A5 h,A5 (by omega)];omega
structure IdsOf (x:List Str) (a:List Int):Prop where
 len:a.length=x.length
 inj:∀(i j:Nat) (u v:Str) (z:Int),x[i]?=some u->x[j]?=some v->a[i]?=some z->a[j]?=some z->u=v
theorem ScFit.down{x y:List Str}{l:List Change}{a b:List Int}(h:ScFit x y l)(ha:IdsOf x a)(hb:IdsOf y b){k:Nat}(m:k<l.length)(g:mN l a b k=true):ScFit x y (bH l k):=by
 have X:=h.lx;have Y:=h.ly;have Q:=l8 _ _ _ 0 0 0 h.sc;have u:=uH _ _ _ 0 0 0 h.sc;have hq:=oV _ _ _ _ _ h.eq;have r:=uI _ _ _ _ _ h.eq;have K:=h.ok;obtain⟨c,p⟩:∃c,c=H9 l k:=⟨_,rfl⟩
 obtain⟨g1,T,g3,U,g5,g6,g7,g8⟩:=Q k m;have W:=K.get k m;rw[<-p]at g1 T g3 U g5 g6 g7 g8 W;unfold H5 at g1 T g3 U;have i:o5 0 l (k+1)=c.Old+c.OldLen:=by rw[dB,<-p];rfl
 have j:cB 0 l (k+1)=c.New+c.NewLen:=by rw[dC,<-p];rfl
 obtain⟨E,E',H,I,V,ac,ad,J⟩:∃E E':Int,sub x (c.Old+c.OldLen) E=sub y (c.New+c.NewLen) E'/\E-(c.Old+c.OldLen)=E'-(c.New+c.NewLen)/\E<=x.length/\E'<=y.length/\(c.Old+c.OldLen<E)/\(k+1<l.length->E=(H9 l (k+1)).Old/\E'=(H9 l (k+1)).New/\c.Old+c.OldLen+1<E):=by
  by_cases B:k+1=l.length
  ·rw[<-B,i,j]at u r;refine⟨x.length,y.length,r,by omega,by omega,by omega,?_,fun q=>absurd B (by omega)⟩;unfold mN at g;rw[<-p]at g;split at g
   ·have:=(A0 g).1.1;rw[ha.len]at this;omega
   ·split at g
    ·have:=(A0 g).1.1;rw[hb.len]at this;omega
    ·cases g
  ·have B:k+1<l.length:=by omega
   obtain⟨M,F,P,G,f5,f6,f7,S⟩:=Q (k+1) B;have f9:=hq (k+1) B;have ab:=K.get (k+1) B;rw[i,j]at f6 f9;rw[i]at f7;unfold H5 at F G;have z:c.Old+c.OldLen+1<(H9 l (k+1)).Old:=by
    unfold mN at g;rw[<-p]at g;split at g
    ·have:=(A0 g).2;rw[<-p]at this;omega
    ·split at g
     ·have:=(A0 g).2;rw[<-p]at this;omega
     ·cases g
   exact⟨_,_,f9,by omega,by omega,by omega,by omega,fun _=>⟨rfl,rfl,z⟩⟩
 have hv:∃v,x[c.Old.toNat]?=some v/\y[c.New.toNat]?=some v:=by
  obtain⟨v,C,v2⟩:=uM (t:=0) H (by omega) (by omega) (by omega) I (by omega);simp only[Int.natCast_zero,Int.add_zero]at C v2;unfold mN at g;rw[<-p]at g;split at g
  ·rename_i Z;have:=(A0 g).1.2;rw[Z,Int.add_zero]at v2;refine⟨v,?_,v2⟩;have l1:c.Old.toNat<a.length:=by rw[ha.len];omega
   have l2:(c.Old+c.OldLen).toNat<a.length:=by rw[ha.len];omega
   have L:x[c.Old.toNat]?=some x[c.Old.toNat]:=RG (by omega);have R:a[c.Old.toNat]?=some (IN a c.Old):=by unfold IN;rw[RR,RG l1];rfl
   have D:a[(c.Old+c.OldLen).toNat]?=some (IN a (c.Old+c.OldLen)):=by unfold IN;rw[RR,RG l2];rfl
   rw[<-this]at D;have:=ha.inj _ _ _ _ _ L C R D;rw[L,this]
  ·split at g
   ·rename_i _ Z;have:=(A0 g).1.2;rw[Z,Int.add_zero]at C;refine⟨v,C,?_⟩;have l1:c.New.toNat<b.length:=by rw[hb.len];omega
    have l2:(c.New+c.NewLen).toNat<b.length:=by rw[hb.len];omega
    have L:y[c.New.toNat]?=some y[c.New.toNat]:=RG (by omega);have R:b[c.New.toNat]?=some (IN b c.New):=by unfold IN;rw[RR,RG l1];rfl
    have D:b[(c.New+c.NewLen).toNat]?=some (IN b (c.New+c.NewLen)):=by unfold IN;rw[RR,RG l2];rfl
    rw[<-this]at D;have:=hb.inj _ _ _ _ _ L v2 R D;rw[L,this]
   ·cases g
 obtain⟨v,C,v2⟩:=hv;have s:0<=o5 0 l k/\0<=cB 0 l k:=by
  cases k with
  | zero=>simp[o5,cB]
  | succ k =>
   obtain⟨M,F,P,G,_⟩:=Q k (by omega);unfold H5 at M F P G;rw[dB,dC];unfold cA uG;omega
 have A:sub x (c.Old+c.OldLen+1) E=sub y (c.New+c.NewLen+1) E':=by
  have:=dE (e:=E-(c.Old+c.OldLen)-1) H (by omega) (by omega) (by omega) (by omega) I;rw[show E-(E-(c.Old+c.OldLen)-1)=c.Old+c.OldLen+1 by omega,show E'-(E-(c.Old+c.OldLen)-1)=c.New+c.NewLen+1 by omega]at this;exact this
 refine⟨X,Y,CE _ _ _ 0 0 0 (fun q n=>?_) ?_,CF _ _ _ 0 0 (fun q n=>?_) ?_⟩
 ·rw[Z1]at n;rw[dW l m,iV l m,iW l m];by_cases e:q=k
  ·rw[A4 e,A5 (show ¬q=k+1 by omega),e,<-p];unfold H5;simp only[kL];refine⟨by omega,T,by omega,U,g5,by omega,by omega,fun _=>by omega⟩
  ·rw[A5 e];obtain⟨M,F,P,G,f5,f6,f7,S⟩:=Q q n;refine⟨M,F,P,G,f5,?_,?_,?_⟩
   ·by_cases f:q=k+1
    ·rw[A4 f];omega
    ·rw[A5 f];omega
   ·by_cases f:q=k+1
    ·rw[A4 f];have:=S (by omega);omega
    ·rw[A5 f];omega
   ·intro h0;by_cases f:q=k+1
    ·rw[A4 f,f,i];have:=(J (by omega))
     omega
    ·rw[A5 f];have:=S h0;omega
 ·rw[Z1,iV l m,iW l m];by_cases f:l.length=k+1
  ·rw[A4 f,f,i,j];rw[f,i,j]at u;have h1:E<=x.length:=V;omega
  ·rw[A5 f];omega
 ·rw[Z1]at n;rw[dW l m,iV l m,iW l m];by_cases e:q=k
  ·rw[A4 e,A5 (show ¬q=k+1 by omega),e,<-p];simp only[kL,Int.add_zero];have:=hq k m;rw[<-p]at this;rw[aK s.1 g7 C,aK s.2 (by omega) v2,this]
  ·rw[A5 e];by_cases f:q=k+1
   ·rw[A4 f];subst f;obtain⟨q1,q2,_⟩:=J n;rw[i,j,<-q1,<-q2];exact A
   ·rw[A5 f,Int.add_zero,Int.add_zero];exact hq q n
 ·rw[Z1,iV l m,iW l m];by_cases f:l.length=k+1
  ·rw[A4 f];rw[f,i,j]at r u ⊢;have:=dE (e:=x.length-(c.Old+c.OldLen)-1) r (by omega) (by omega) (by omega) (by omega) (by omega);rw[show (x.length:Int)-(x.length-(c.Old+c.OldLen)-1)=c.Old+c.OldLen+1 by omega,show (y.length:Int)-(x.length-(c.Old+c.OldLen)-1)=c.New+c.NewLen+1 by omega]at this;exact this
  ·rw[A5 f,Int.add_zero,Int.add_zero];exact r
section
variable {x y:List Str}{a b:List Int} (ha:IdsOf x a) (hb:IdsOf y b)
include ha hb
end
structure Made12 (on nn a b:Str) (l:List Change) (ctx:Int):Prop where
 chk:aZ ⟨on,nn,W6 l (D8 a) (D8 b) ctx⟩=0
 wr:(CA ⟨on,nn,W6 l (D8 a) (D8 b) ctx⟩).length<=16777216
 fit:PFit ⟨on,nn,W6 l (D8 a) (D8 b) ctx⟩
 rg:∀h∈W6 l (D8 a) (D8 b) ctx,(-4611686018427387904<=h.Old/\h.Old<=4611686018427387904)/\(-4611686018427387904<=h.New/\h.New<=4611686018427387904)
 sz:IM (W6 l (D8 a) (D8 b) ctx)<=268435456
def Few(a:Str):Prop:=a.length<=1048576/\(D8 a).length<=4096
theorem dG{a:Str}(h:Few a):N6 a=(D8 a,0):=by
 obtain⟨b,c⟩:=h;unfold N6;rw[A5 (by omega)]
def HQ(x y:List Str)(i j:Int):List PatchHunk->Prop
 | []=>sub x i x.length=sub y j y.length/\0<=i/\0<=j/\i<=x.length/\j<=y.length
 | h::r=>(sub x i h.Old=sub y j h.New/\E9 h.Lines 43=sub x h.Old (h.Old+t7 h)/\E9 h.Lines 45=sub y h.New (h.New+aJ h))/\(0<=i/\0<=j/\i<=h.Old/\j<=h.New/\h.Old+t7 h<=x.length/\h.New+aJ h<=y.length)/\HQ x y (h.Old+t7 h) (h.New+aJ h) r
theorem ScFit.chain{x y:List Str}{l:List Change}(h:ScFit x y l){c:Int}(o:0<=c):∀(n:List Hunk) (a:Nat),GrOk l x.length c a n l.length ->
  ∀(i j e:Int),i=o5 0 l a+e->j=cB 0 l a+e->0<=e->e<=c->(a=0->e=0)->i<=x.length->j<=y.length->HQ x y i j (n.map (S5 l x y))
 | [],a,f,i,j,e,hi,hj,he,_,_,hix,hjy=>by
  have f:a=l.length:=f;have z:=uI _ _ _ _ _ h.eq;have p:=uH _ _ _ 0 0 0 h.sc;obtain⟨r,s,I,J⟩:=h.nn a (by omega);rw[<-f]at z p;refine⟨?_,by omega,by omega,hix,hjy⟩;have:=dE (e:=x.length-i) z r s (by omega) (by omega) (by omega);rw[show (x.length:Int)-(x.length-i)=i by omega,show (y.length:Int)-(x.length-i)=j by omega]at this;exact this
 | hk::n,a,⟨b,hab,ho,hE,f⟩,i,j,e,hi,hj,he,hec,he0,hix,hjy=>by
  have hb:=f.le;have k:b<l.length->opens l c b:=by
   intro C;cases n with
   | nil=>exact absurd f (by show ¬b=l.length;omega)
   | cons B D=>obtain⟨_,_,q,_⟩:=f;exact q
  obtain⟨w1,K,U,V,W⟩:=h.after o hb k (by omega);obtain⟨R,S,T⟩:=h.before o (show a<l.length by omega) ho;have H:=h.hunk o hab hb ho k;rw[<-hE]at H;obtain⟨P,u⟩:∃P,P=S5 l x y hk:=⟨_,rfl⟩
  rw[<-u]at H;have E:=ScFit.chain h o n b f (P.Old+t7 P) (P.New+aJ P) (eB l x.length c b) H.oe H.ne w1 K (by omega) H.ox H.ny;obtain⟨k1,⟨k2,F⟩,k3,⟨k4,G⟩,k5,k6,k7,k8⟩:=l8 _ _ _ _ _ _ h.sc a (show a<l.length by omega);have L:=H.old;have B:=H.new;have M:=H.o0;have Q:=H.n0;have v:e+eA l c a<=(H9 l a).Old-o5 0 l a:=by
   by_cases t:a=0
   ·have:=he0 t;omega
   ·have:=dV ho t;omega
  obtain⟨r,s,I,J⟩:=h.nn a (by omega);have g:i<=P.Old/\j<=P.New/\P.Old-i=P.New-j/\0<=i/\0<=j:=by omega
  have m:=oV _ _ _ _ _ h.eq a (show a<l.length by omega);have A:=dE (e:=(H9 l a).Old-i) m r s (by omega) (by omega) (by omega);rw[show (H9 l a).Old-((H9 l a).Old-i)=i by omega,show (H9 l a).New-((H9 l a).Old-i)=j by omega]at A;have t2:=oW (e:=P.Old-i) A (by omega) (by omega) (by omega) (by omega) (by omega);rw[show i+(P.Old-i)=P.Old by omega,show j+(P.Old-i)=P.New by omega]at t2;rw[RW,<-u];exact⟨⟨t2,H.ol,H.nl⟩,⟨by omega,by omega,g.1,g.2.1,H.ox,H.ny⟩,E⟩
def c7(c:UInt8):Bool:=decide (48<=c.toNat/\c.toNat<=57)
def L8(s:Str):Str:=s.takeWhile c7
def aL(a:Str):Nat:=a.foldl (fun n c=>10*n+(c.toNat-48)) 0
def dH(s:Str):Option (Nat×Nat) :=
 if L8 s=[]\/(s.head?=some 48/\1<(L8 s).length)\/2147483647<aL (L8 s) then none else some (aL (L8 s),(L8 s).length)
theorem sE(a:Str)(c:UInt8):aL (a++[c])=10*aL a+(c.toNat-48):=by
 unfold aL;rw[TF];rfl
theorem aM(k:Nat)(h:k<10):(UInt8.ofNat (48+k)).toNat=48+k:=by
 rw[UInt8.toNat_ofNat'];omega
theorem gB(u:Nat):(∀c∈Lib.decDigits u,c7 c=true)/\aL (Lib.decDigits u)=u/\Lib.decDigits u≠[]/\((Lib.decDigits u).head?=some 48->u=0)/\(1<(Lib.decDigits u).length->10<=u):=by
 induction u using Nat.strongRecOn with
 | _ u r =>
  rw[Lib.decDigits];split
  ·rename_i h;refine⟨?_,?_,by simp,?_,by simp⟩
   ·intro c b;simp only[RN,TG,or_false]at b;subst b;unfold c7;rw[aM u h];simp;omega
   ·unfold aL;simp only[SI,List.foldl_nil];rw[aM u h];omega
   ·intro i;simp only[List.head?_cons,Option.some.injEq]at i;have:=congrArg UInt8.toNat i;rw[aM u h]at this;have e:(48:UInt8).toNat=48:=rfl;omega
  ·rename_i h;obtain⟨i,m,p,q,s⟩:=r (u / 10) (by omega);have k:u % 10<10:=Nat.mod_lt _ (by omega);refine⟨?_,?_,by simp,?_,fun _=>by omega⟩
   ·intro c b;rcases RL.1 b with b | b
    ·exact i c b
    ·simp only[RN,TG,or_false]at b;subst b;unfold c7;rw[aM _ k];simp;omega
   ·rw[sE,m,aM _ k];omega
   ·intro f;rw[List.head?_append]at f;cases j:(Lib.decDigits (u / 10)).head? with
    | none=>exact absurd (List.head?_eq_none_iff.1 j) p
    | some x =>
     rw[j]at f;have f:x=48:=by simpa using f
     have:=q (by rw[j,f]);omega
theorem HR{a t:Str}(h:∀c∈a,c7 c=true)(b:∀c,t.head?=some c->c7 c=false):L8 (a++t)=a:=by
 unfold L8;rw[List.takeWhile_append_of_pos h];cases t with
 | nil=>simp
 | cons c r=>rw[List.takeWhile_cons,b c rfl];simp
theorem JU{n:Int}(a:0<=n)(b:n<=2147483647):M4 n=Lib.decDigits n.toNat:=by
 unfold M4 Lib.itoa;rw[A5 (by omega),A5 (by omega)]
theorem JV{n:Int}{t:Str}(j:0<=n)(k:n<=2147483647)(s:∀c,t.head?=some c->c7 c=false):dH (M4 n++t)=some (n.toNat,(M4 n).length):=by
 rw[JU j k];obtain⟨m,o,b,p,q⟩:=gB n.toNat
 have e:=HR m s;unfold dH;rw[e,o];rw[A5];rintro (h | ⟨h,i⟩ | h)
 ·exact b h
 ·have r:(Lib.decDigits n.toNat).head?=some 48:=by
   rw[List.head?_append]at h;cases f:(Lib.decDigits n.toNat).head? with
   | none=>exact absurd (List.head?_eq_none_iff.1 f) b
   | some x=>rw[f]at h;simpa using h
  have:=p r;have:=q i;omega
 ·omega
structure Cmd where
 Kind:Int
 A:Int
 B:Int
 C:Int
 Dense:Bool
 Text:Str
 deriving DecidableEq
abbrev PU(c:Cmd):List Cell:=[.v (.int .i64 c.Kind),.v (.int .i64 c.A),.v (.int .i64 c.B),.v (.int .i64 c.C),.v (.bool c.Dense),.v (.string ⟨c.Text.toArray⟩)]
abbrev bI(c:Cmd):PV:=.agg (PU c)
abbrev iX(c:Cmd):List TC:=[.p (.v (.int .i64 c.Kind)),.p (.v (.int .i64 c.A)),.p (.v (.int .i64 c.B)),.p (.v (.int .i64 c.C)),.p (.v (.bool c.Dense)),.p (.v (.string ⟨c.Text.toArray⟩))]
abbrev HS(c:Cmd):List Value:=[.int .i64 c.Kind,.int .i64 c.A,.int .i64 c.B,.int .i64 c.C,.bool c.Dense,.string ⟨c.Text.toArray⟩]
def kM:Cmd:=⟨0,0,0,0,false,[]⟩
structure CForm where
 word:Str
 kind:Int
 dense:Bool
 b:Bool
 c:Bool
 text:Bool
 deriving DecidableEq
def pI:CForm->Nat->Cell:=fun f j=>match j with
 | 0=>.v (.string ⟨f.word.toArray⟩)
 | 1=>.v (.int .i64 f.kind)
 | 2=>.v (.bool f.dense)
 | 3=>.v (.bool f.b)
 | 4=>.v (.bool f.c)
 | _=>.v (.bool f.text)
abbrev HT(f:CForm):List TC:=[.p (.v (.string ⟨f.word.toArray⟩)),.p (.v (.int .i64 f.kind)),.p (.v (.bool f.dense)),.p (.v (.bool f.b)),.p (.v (.bool f.c)),.p (.v (.bool f.text))]
abbrev HU(f:CForm):PV:=.agg [.v (.string ⟨f.word.toArray⟩),.v (.int .i64 f.kind),.v (.bool f.dense),.v (.bool f.b),.v (.bool f.c),.v (.bool f.text)]
abbrev HV(l:List CForm):PV:=.one (.list CForm 6 pI l)
def formsL:List CForm:=[⟨[108,111,103],1,false,false,false,false⟩,⟨[115,104,111,119],2,false,false,false,false⟩,⟨[100,105,102,102],3,false,true,true,true⟩,⟨[99,111,109,98,105,110,101,100],4,false,false,true,true⟩,
 ⟨[99,99],4,true,false,true,true⟩,⟨[108,105,116,101,114,97,108],5,false,false,false,true⟩,⟨[114,101,103,101,120],6,false,false,false,true⟩,⟨[108,105,110,101,115],7,false,true,true,true⟩,⟨[98,108,97,109,101],8,false,false,false,true⟩,⟨[98,97,115,101,115],9,false,true,false,false⟩]
def R9(f:CForm):List Nat:=1::((if f.b=true then [2] else [])++(if f.c=true then [3] else []))
def Cmd.get(c:Cmd)(o:Nat):Int:=match o with
 | 1=>c.A
 | 2=>c.B
 | _=>c.C
def Cmd.put(c:Cmd)(o:Nat)(n:Int):Cmd:=match o with
 | 1=>{ c with A:=n }
 | 2=>{ c with B:=n }
 | _=>{ c with C:=n }
theorem CI{f:CForm}{o:Nat}(h:o∈R9 f):o=1\/o=2\/o=3:=by
 unfold R9 at h;rcases RN.1 h with h | h
 ·exact .inl h
 rcases RL.1 h with h | h
 ·split at h
  ·exact .inr (.inl (List.mem_singleton.1 h))
  ·cases h
 ·split at h
  ·exact .inr (.inr (List.mem_singleton.1 h))
  ·cases h
theorem xB(f:CForm):(R9 f).length<=3:=by unfold R9;cases f.b<;>cases f.c<;>decide
theorem HW{c:Cmd}{o:Nat}(h:o=1\/o=2\/o=3):(iX c)[o]?=some (.p (.v (.int .i64 (c.get o)))):=by
 rcases h with rfl | rfl | rfl<;>rfl
theorem xC{c:Cmd}{o:Nat}(n:Int)(h:o=1\/o=2\/o=3):setTs (iX c) o [.p (.v (.int .i64 n))]=iX (c.put o n):=by
 rcases h with rfl | rfl | rfl<;>rfl
theorem uN(c:Cmd)(o:Nat)(n:Int):(c.put o n).Text=c.Text:=by
 unfold Cmd.put;split<;>rfl
def bJ:List Nat->Cmd->Str->Option (Cmd×Str)
 | [],c,s=>some (c,s)
 | o::r,c,s=>if c.get o<0\/2147483647<c.get o then none else bJ r (c.put o 0) (s++([32]++M4 (c.get o)))
def kN(f:CForm)(c:Cmd)(s:Str):Str×Int:=if c=⟨f.kind,0,0,0,f.dense,[]⟩ then (s,0) else ([],2)
def mO(f:CForm)(c:Cmd):Str×Int:=match bJ (R9 f) c f.word with
 | none=>([],2)
 | some (c',s)=>if f.text=true then kN f { c' with Text:=[] } (s++([32]++W5 c'.Text)) else kN f c' s
def xD(c:Cmd):List CForm->Str×Int
 | []=>([],2)
 | f::r=>if f.kind≠c.Kind\/f.dense≠c.Dense then xD c r else mO f c
def dI(c:Cmd):Str×Int:=xD c formsL
theorem EI{f:CForm}(h:f∈formsL):f.word.length<=8:=by
 unfold formsL at h;simp only[RN,TG,or_false]at h;rcases h with h | h | h | h | h | h | h | h | h | h<;>(rw[h];decide)
def bK:List Nat->List Str->Cmd->Option Cmd
 | o::r,w::ws,c=>match dH w with
  | some (n,e)=>if e=w.length then bK r ws (c.put o n) else none
  | none=>none
 | _,_,c=>some c
def s8(f:CForm)(a:List Str):Option Cmd :=
 let b:Cmd:=⟨f.kind,0,0,0,f.dense,[]⟩
 if f.text=true then
  if a=[] then none
  else if a.length-1≠(R9 f).length then none
  else bK (R9 f) a.dropLast { b with Text:=a.getLastD [] }
 else if a.length≠(R9 f).length then none
 else bK (R9 f) a b
def bL(w:Str)(a:List Str):List CForm->Option Cmd
 | []=>none
 | f::r=>if f.word≠w then bL w a r else match s8 f a with
  | some c=>some c
  | none=>bL w a r
def N2:List Str->Str
 | []=>[]
 | [w]=>w
 | w::x::r=>w++32::N2 (x::r)
theorem pJ(w:Str):N2 [w]=w:=rfl
theorem p9(w x:Str)(r:List Str):N2 (w::x::r)=w++32::N2 (x::r):=rfl
theorem EJ{w:Str}(b:w.all N1=true)(r:List Str):(N2 (w::r)).takeWhile N1=w:=by
 have ha:∀c∈w,N1 c=true:=List.all_eq_true.1 b;cases r with
 | nil =>
  rw[pJ];have:=List.takeWhile_append_of_pos (l₂:=[]) ha;simpa using this
 | cons x r =>
  rw[p9,List.takeWhile_append_of_pos ha,List.takeWhile_cons];rw[show N1 32=false by rfl];simp
theorem xE(w:Str)(r:List Str):w.length<=(N2 (w::r)).length:=by
 cases r with
 | nil=>exact Nat.le_refl _
 | cons x r=>rw[p9,RK];omega
theorem xF{w:Str}(a:w≠[])(b:w.all N1=true):W5 w=w:=by unfold W5;rw[A4 ⟨a,b⟩]
theorem uO(a b d:Str)(h:(10:UInt8)∉a):F8 d (a++10::b)=(d++a++[10])::F8 [] b:=by
 induction a generalizing d with
 | nil=>simp[F8]
 | cons c r f =>
  simp only[RN,not_or]at h;rw[SD,d9,A5 (fun e=>h.1 e.symm),f _ h.2];simp
def kO(b:List Str):Str:=(b.map fun t=>t++[10]).flatten
theorem iY:∀(a:List Str),(∀t∈a,(10:UInt8)∉t)->D8 (kO a)=a.map fun t=>t++[10]
 | [],_=>rfl
 | t::r,h=>by
  have b:=iY r (fun x d=>h x (by simp[d]));have e:kO (t::r)=t++10::kO r:=by unfold kO;simp
  have c:=uO t (kO r) [] (h t (by simp));unfold D8 at b ⊢;rw[e,c,b];simp
theorem check12_good{p:Patch}(h:aZ p=0):kI p.Hunks=true:=by
 unfold aZ at h;split at h
 ·cases h
 ·split at h
  ·cases h
  ·rename_i a;simpa using a
theorem MA(a b:Cmd):tA (HS a) (HS b)=decide (a=b):=by
 obtain⟨c,a2,a3,a4,a5,d⟩:=a;obtain⟨e,f,g,h,i,j⟩:=b;rw[Bool.eq_iff_iff,decide_eq_true_eq];simp only[HS,tA,PF,ByteArray.toList_mk,Bool.and_true,RH,beq_iff_eq,Cmd.mk.injEq]
def pK(f:CForm)(a:List Str):Cmd:=if f.text=true then ⟨f.kind,0,0,0,f.dense,a.getLastD []⟩ else ⟨f.kind,0,0,0,f.dense,[]⟩
def fB(f:CForm)(a:List Str):List Str:=if f.text=true then a.dropLast else a
theorem xG(f:CForm)(a:List Str):s8 f a=if f.text=true/\a=[] then none else if (fB f a).length≠(R9 f).length then none else bK (R9 f) (fB f a) (pK f a):=by
 unfold s8 fB pK;by_cases b:f.text=true
 ·by_cases c:a=[]
  ·simp only[A4 b,A4 c,A4 (And.intro b c)]
  ·simp only[A4 b,A5 c,A5 (fun h:f.text=true/\a=[]=>c h.2),List.length_dropLast]
 ·simp only[A5 b,A5 (fun h:f.text=true/\a=[]=>b h.1)]
theorem EK{f:CForm}{a:List Str}{w:Str}(h:w∈fB f a):w∈a:=by
 unfold fB at h;split at h
 ·exact (List.dropLast_sublist a).subset h
 ·exact h
theorem EL(f:CForm)(a:List Str):(fB f a).length<=a.length:=by
 unfold fB;split
 ·rw[List.length_dropLast];omega
 ·exact Nat.le_refl _
def kP(a:List Str):Cmd×Int:=match a with
 | []=>(kM,320)
 | w::r=>match bL w r formsL with
  | some c=>(c,0)
  | none=>(kM,320)
theorem pL:∀(a:List Str),(∀w∈a,w≠[])->a.length<=(N2 a).length
 | [],_=>Nat.zero_le _
 | [w],h=>by
  have:=List.length_pos_iff.2 (h w (by simp));rw[pJ,List.length_singleton];exact this
 | w::x::r,h=>by
  have:=pL (x::r) fun v b=>h v (by simp[b]);rw[p9];simp only[RK,RJ]at this ⊢;omega
theorem EM(w t:Str)(c:UInt8):(w++c::t).drop (w.length+1)=t:=by
 rw[show w++c::t=(w++[c])++t by simp];exact List.drop_left' (by simp)
def f0:Str:=[99,111,109,109,105,116]
def m7(ns:List Int)(i:Nat):Str:=f0++((ns.take i).map fun n=>32::M4 n).flatten
def M3(ns:List Int):Str:=m7 ns ns.length
theorem pM{ns:List Int}{i:Nat}{n:Int}(h:ns[i]?=some n):m7 ns (i+1)=m7 ns i++([32]++M4 n):=by
 unfold m7;rw[List.take_add_one,h,RT];simp
theorem c8(ns:List Int):∀i,(m7 ns i).length<=6+11*i
 | 0=>by simp[m7,f0]
 | i+1=>by
  have:=c8 ns i;by_cases h:i<ns.length
  ·rw[pM (RG h)];have:=p8 ns[i];simp only[RK,RJ,RP];omega
  ·have:m7 ns (i+1)=m7 ns i:=by
    unfold m7;rw[SE (by omega),SE (by omega)]
   rw[this];omega
def Z9(L:List (List Int))(i:Nat):Str:=((L.take i).map fun ns=>M3 ns++[10]).flatten
def Z2(L:List (List Int)):Str:=Z9 L L.length
theorem gC{L:List (List Int)}{i:Nat}{ns:List Int}(h:L[i]?=some ns):Z9 L (i+1)=Z9 L i++(M3 ns++[10]):=by
 unfold Z9;rw[List.take_add_one,h];simp
theorem dX{L:List (List Int)}{m:Nat}(b:∀ns∈L,ns.length<=m):∀i,(Z9 L i).length<=(7+11*m)*i
 | 0=>by simp[Z9]
 | i+1=>by
  have:=dX b i;by_cases h:i<L.length
  ·rw[gC (RG h)];have a:=c8 L[i] L[i].length;have c:=b L[i] (RM h);have d:(M3 L[i]).length<=6+11*m:=by
    unfold M3;have:11*L[i].length<=11*m:=Nat.mul_le_mul_left _ c;omega
   simp only[RK,RJ,RP];rw[Nat.mul_succ];omega
  ·have a:Z9 L (i+1)=Z9 L i:=by
    unfold Z9;rw[SE (by omega),SE (by omega)]
   rw[a,Nat.mul_succ];omega
theorem sF(L:List (List Int)):Z9 L 0=[]:=by simp[Z9]
def uP(e:Int):Str:=[101,114,114,111,114,32]++M4 e++[10]
def dJ(a b:Str)(e:Int):Str:=[62,32]++a++[10]++(if e≠0 then uP e else b)
theorem HX(n:Int):(10:UInt8)∉M4 n:=by
 unfold M4;split
 ·simp
 ·rename_i h;intro a;have c:0<=n:=by omega
  have b:Lib.itoa n=Lib.decDigits n.toNat:=by
   obtain⟨k,rfl⟩:∃k:Nat,n=(k:Int):=⟨n.toNat,by omega⟩
   simp[Lib.itoa]
  rw[b]at a;have:=(gB n.toNat).1 10 a;revert this;decide
theorem uQ(ns:List Int):(10:UInt8)∉M3 ns:=by
 unfold M3 m7;rw[RS,RL,List.mem_flatten];rintro (h | ⟨l,a,h⟩)
 ·revert h;decide
 ·obtain⟨n,_,rfl⟩:=SF.1 a;rcases RN.1 h with h | h
  ·revert h;decide
  ·exact HX n h
theorem EN(L:List (List Int)):D8 (Z2 L)=L.map fun ns=>M3 ns++[10]:=by
 have h:=iY (L.map M3) fun t a=>by
  obtain⟨ns,_,rfl⟩:=SF.1 a;exact uQ ns
 unfold Z2 Z9;rw[RS];unfold kO at h;rw[SX]at h;exact h
theorem qM(ns:List Int):M3 ns=N2 (f0::ns.map M4):=by
 unfold M3 m7;rw[RS];have b:∀(w:Str) (l:List Int),w++(l.map fun n=>32::M4 n).flatten=N2 (w::l.map M4):=by
  intro w l;induction l generalizing w with
  | nil=>simp[N2]
  | cons n r c =>
   rw[RW,RW,p9,<-c];simp
 exact b _ _
theorem dY{α:Type}[DecidableEq α]:∀{l m:List α},l.Nodup->(∀x∈l,x∈m)->l.length<=m.length
 | [],_,_,_=>Nat.zero_le _
 | x::l,m,h,hs=>by
  have b:=List.nodup_cons.1 h;have d:l.length<=(m.erase x).length:=dY b.2 fun y c=>by
   have a:y≠x:=fun e=>b.1 (e ▸ c);exact (List.mem_erase_of_ne a).2 (hs y (by simp[c]))
  have f:=List.length_erase_of_mem (hs x (by simp));have i:0<m.length:=List.length_pos_of_mem (hs x (by simp));rw[RJ];omega
theorem j7{l:List Int}{n:Nat}(h:l.Nodup)(b:∀x∈l,0<=x/\x<n):l.length<=n:=by
 have:=dY (m:=(List.range n).map fun i:Nat=>(i:Int)) h fun x c=>by
  have:=b x c;exact SF.2 ⟨x.toNat,RQ.2 (by omega),by omega⟩
 simpa using this
theorem HY{l:List Int}{n:Nat}(h:l.Nodup)(d:∀x∈l,0<=x/\x<n)(f:n<=l.length)(c:Nat)(e:c<n):(c:Int)∈l:=by
 apply Classical.byContradiction;intro b;have:=j7 (l:=(c:Int)::l) (n:=n) (List.nodup_cons.2 ⟨b,h⟩) fun x a=>by
  rcases RN.1 a with rfl | a
  ·exact⟨by omega,by omega⟩
  ·exact d x a
 rw[RJ]at this;omega
theorem gE{q r:Nat->Bool}(x:Nat)(d:∀y,r y=(q y&&decide (y≠x))):∀{L:List Nat},L.Nodup->L.countP q=L.countP r+(if x∈L/\q x=true then 1 else 0)
 | [],_=>by simp
 | y :: L,h=>by
  have c:=List.nodup_cons.1 h;have g:=gE x d c.2;rw[List.countP_cons,List.countP_cons,g,d y];by_cases e:y=x
  ·subst e;have:¬(y∈L/\q y=true):=fun e=>c.1 e.1;rw[A5 this];cases j:q y<;>simp
  ·have f:(x∈y::L/\q x=true)↔(x∈L/\q x=true):=by
    rw[RN];constructor
    ·rintro⟨a | a,b⟩
     ·exact absurd a.symm e
     ·exact⟨a,b⟩
    ·exact fun ⟨a,b⟩=>⟨.inr a,b⟩
   rw[show (if x∈y::L/\q x=true then 1 else 0)=(if x∈L/\q x=true then 1 else 0) by simp only[f]];simp only[e,ne_eq,not_false_eq_true,decide_true,Bool.and_true];omega
abbrev Graph:=List Commit
def D5(g:Graph)(c:Nat):List Int:=(g[c]?.map (·.Parents)).getD []
def dK(n:Int)(a:List Int):List Int->Bool
 | []=>true
 | p::r=>decide (0<=p/\p<n/\p∉a)&&dK n (a++[p]) r
def related(g:Graph):Bool:=g.all fun c=>dK g.length [] c.Parents
theorem xH{n:Int}:∀{ps a:List Int},dK n a ps=true->(∀p∈ps,0<=p/\p<n/\p∉a)/\ps.Nodup
 | [],_,_=>⟨(fun _ h=>by cases h),List.nodup_nil⟩
 | p::r,a,h=>by
  unfold dK at h;rw[RH,decide_eq_true_eq]at h;obtain⟨c,d⟩:=xH h.2;refine⟨fun q b=>?_,List.nodup_cons.2 ⟨fun e=>(c p e).2.2 (by simp),d⟩⟩;rcases RN.1 b with rfl | b
  ·exact h.1
  ·have:=c q b;exact⟨this.1,this.2.1,fun f=>this.2.2 (by simp[f])⟩
theorem j8{g:Graph}{c:Nat}(b:c<g.length):D5 g c=g[c].Parents:=by unfold D5;rw[RG b];rfl
theorem iZ{g:Graph}{c:Nat}(a:¬c<g.length):D5 g c=[]:=by unfold D5;rw[SC (by omega)];rfl
theorem L1{g:Graph}(h:related g=true)(c:Nat):(∀p∈D5 g c,0<=p/\p<g.length)/\(D5 g c).Nodup:=by
 by_cases a:c<g.length
 ·rw[j8 a];have:=xH (List.all_eq_true.1 h g[c] (RM a));exact⟨fun p b=>⟨(this.1 p b).1,(this.1 p b).2.1⟩,this.2⟩
 ·rw[iZ a];exact⟨(fun _ h=>by cases h),List.nodup_nil⟩
inductive Reaches (g:Graph):Nat->Nat->Prop
 | one {c p:Nat} (h:(p:Int)∈D5 g c):Reaches g c p
 | more {c d p:Nat} (h:Reaches g c d) (h2:(p:Int)∈D5 g d):Reaches g c p
theorem Reaches.trans{g:Graph}{a b c:Nat}(h:Reaches g a b)(d:Reaches g b c):Reaches g a c:=by
 induction d with
 | one d=>exact .more h d
 | more _ f i=>exact .more i f
theorem Reaches.lt{g:Graph}(i:related g=true){a b:Nat}(h:Reaches g a b):a<g.length/\b<g.length:=by
 have d:∀{c p:Nat},(p:Int)∈D5 g c->c<g.length/\p<g.length:=fun {c p} h=>by
  refine⟨?_,by have:=(L1 i c).1 p h;omega⟩;apply Classical.byContradiction;intro f;rw[iZ f]at h;cases h
 induction h with
 | one h=>exact d h
 | more _ e j=>exact⟨j.1,(d e).2⟩
def c9(ps:List Int)(l:List Bool):List Bool:=ps.foldl (fun l p=>l.set p.toNat true) l
def L3(l:List Bool)(c:Nat):Bool:=l[c]?.getD false
def a7(g:Graph)(l:List Bool)(c:Nat):List Bool:=if L3 l c=true then c9 (D5 g c) l else l
def gF(g:Graph)(l:List Bool):List Bool:=(List.range g.length).foldl (a7 g) l
def j9(g:Graph):Nat->List Bool->List Bool
 | 0,l=>l
 | k+1,l=>j9 g k (gF g l)
def Z3(g:Graph)(a:List Int):List Bool:=j9 g g.length (c9 a (List.replicate g.length false))
theorem HZ{l:List Bool}{i c:Nat}:L3 (l.set i true) c=(L3 l c||decide (i=c/\c<l.length)):=by
 unfold L3;rw[TI];split
 ·rename_i e;subst e;split
  ·rename_i h;simp[h]
  ·rename_i h;simp[h,SC (Nat.le_of_not_lt h)]
 ·rename_i h;simp[h]
theorem d5:∀(ps:List Int) (l:List Bool),(c9 ps l).length=l.length
 | [],_=>rfl
 | p::r,l=>by show (c9 r (l.set p.toNat true)).length=_;rw[d5 r];simp
theorem X8:∀(ps:List Int) (l:List Bool) (c:Nat),L3 (c9 ps l) c=(L3 l c||(decide (c<l.length)&&ps.any fun p=>decide (p.toNat=c)))
 | [],l,c=>by simp[c9]
 | p::r,l,c=>by
  show L3 (c9 r (l.set p.toNat true)) c=_;rw[X8 r,HZ,SU,List.any_cons];by_cases a:p.toNat=c<;>by_cases b:c<l.length<;>simp[a,b]
theorem EO(g:Graph)(l:List Bool)(c:Nat):(a7 g l c).length=l.length:=by unfold a7;split<;>simp[d5]
theorem sG(g:Graph):∀(a:List Nat) (l:List Bool),(a.foldl (a7 g) l).length=l.length
 | [],_=>rfl
 | c::r,l=>by rw[SI,sG g r,EO]
theorem pN(g:Graph)(l:List Bool):(gF g l).length=l.length:=sG g _ l
theorem sH(g:Graph):∀(k:Nat) (l:List Bool),(j9 g k l).length=l.length
 | 0,_=>rfl
 | k+1,l=>by rw[j9,sH g k,pN]
def LeB(a b:List Bool):Prop:=a.length=b.length/\∀c,L3 a c=true->L3 b c=true
theorem LeB.refl(a:List Bool):LeB a a:=⟨rfl,fun _ h=>h⟩
theorem LeB.trans{a b c:List Bool}(h:LeB a b)(d:LeB b c):LeB a c:=⟨h.1.trans d.1,fun x e=>d.2 x (h.2 x e)⟩
theorem dZ:∀{a b:List Bool},LeB a b->a=b\/a.countP id<b.countP id
 | [],[],_=>.inl rfl
 | [],_::_,h=>by have:=h.1;simp at this
 | _::_,[],h=>by have:=h.1;simp at this
 | x::a,y::b,h=>by
  have e:LeB a b:=⟨by simpa using h.1,fun c f=>h.2 (c+1) f⟩
  have d:x=true->y=true:=fun g=>by simpa[L3] using h.2 0 (by simpa[L3] using g)
  rw[List.countP_cons,List.countP_cons];rcases dZ e with rfl | h3
  ·cases x<;>cases y
   ·exact .inl rfl
   ·right;simp
   ·exact absurd (d rfl) (by decide)
   ·exact .inl rfl
  ·right;cases x<;>cases y
   ·simpa using h3
   ·simp;omega
   ·exact absurd (d rfl) (by decide)
   ·simpa using h3
theorem xI{a b:List Bool}(h:LeB a b)(d:LeB b a):a=b:=by
 rcases dZ h with e | e
 ·exact e
 ·rcases dZ d with c | c
  ·exact c.symm
  ·omega
theorem sI(ps:List Int)(l:List Bool):LeB l (c9 ps l):=⟨(d5 ps l).symm,fun c h=>by rw[X8,h];rfl⟩
theorem xJ(g:Graph)(l:List Bool)(c:Nat):LeB l (a7 g l c):=by unfold a7;split<;>first | exact sI _ _ | exact LeB.refl _
theorem jA(g:Graph):∀(b:List Nat) (l:List Bool),LeB l (b.foldl (a7 g) l)
 | [],l=>LeB.refl l
 | c::r,l=>(xJ g l c).trans (jA g r _)
theorem xK(g:Graph):∀(k:Nat) (l:List Bool),LeB l (j9 g k l)
 | 0,l=>LeB.refl l
 | k+1,l=>(jA g _ l).trans (xK g k _)
def x6(g:Graph)(l:List Bool):Prop:=∀c,L3 l c=true->∀p∈D5 g c,L3 l p.toNat=true
theorem xL(g:Graph):∀(a:List Nat) (l:List Bool),a.foldl (a7 g) l=l->∀c∈a,a7 g l c=l
 | [],_,_,_,h=>by cases h
 | d::r,l,h,c,hc=>by
  rw[SI]at h;have b:a7 g l d=l:=xI (by have:=jA g r (a7 g l d);rw[h]at this;exact this) (xJ g l d);rcases RN.1 hc with rfl | hc
  ·exact b
  ·rw[b]at h;exact xL g r l h c hc
theorem CJ{l:List Bool}{c:Nat}(h:L3 l c=true):c<l.length:=by
 unfold L3 at h;apply Classical.byContradiction;intro a;rw[SC (by omega)]at h;cases h
theorem AR{g:Graph}{l:List Bool}(f:related g=true)(e:l.length=g.length)(h:gF g l=l):x6 g l:=by
 intro c b p d;have a:=xL g _ l h c (RQ.2 (by rw[<-e];exact CJ b));unfold a7 at a;rw[A4 b]at a;rw[<-a,X8];have:=(L1 f c).1 p d;rw[SB];right;rw[RH,decide_eq_true_eq,List.any_eq_true];exact⟨by omega,p,d,by simp⟩
theorem jB{g:Graph}{l:List Bool}(h:x6 g l):gF g l=l:=by
 have d:∀(b:List Nat),b.foldl (a7 g) l=l:=by
  intro b;induction b with
  | nil=>rfl
  | cons c r i =>
   rw[SI];have:a7 g l c=l:=by
    unfold a7;split
    ·rename_i f;refine xI ⟨d5 _ _,fun x a=>?_⟩ (sI _ _);rw[X8,SB,RH,List.any_eq_true]at a;rcases a with a | ⟨_,p,hp,e⟩
     ·exact a
     ·rw[<-A0 e];exact h c f p hp
    ·rfl
   rw[this];exact i
 exact d _
theorem lR{g:Graph}(b:related g=true):∀(k:Nat) {l:List Bool},l.length=g.length->x6 g (j9 g k l)\/l.countP id+k<=(j9 g k l).countP id
 | 0,l,_=>.inr (by simp[j9])
 | k+1,l,hl=>by
  rw[j9];rcases dZ (jA g (List.range g.length) l) with e | e
  ·left;have a:x6 g l:=AR b hl e.symm;rw[show gF g l=l from e.symm];have:∀k,j9 g k l=l:=fun k=>by
    induction k with
    | zero=>rfl
    | succ k d=>rw[j9,jB a];exact d
   rw[this];exact a
  ·rcases lR b k (l:=gF g l) (by rw[pN];exact hl) with h | h
   ·exact .inl h
   ·right;have e:l.countP id<(gF g l).countP id:=e;omega
theorem uR{g:Graph}(j:related g=true)(s:List Int)(m:∀f∈s,0<=f/\f<g.length):x6 g (Z3 g s):=by
 by_cases i:s=[]
 ·subst i;have:x6 g (List.replicate g.length false):=fun c d=>by
   unfold L3 at d;rw[List.getElem?_replicate]at d;split at d<;>cases d
  have e:∀k,j9 g k (List.replicate g.length false)=List.replicate g.length false:=fun k=>by
   induction k with
   | zero=>rfl
   | succ k q=>rw[j9,jB this];exact q
  unfold Z3;show x6 g (j9 g g.length (List.replicate g.length false));rw[e];exact this
 ·rcases lR j g.length (l:=c9 s (List.replicate g.length false)) (by rw[d5];simp) with h | h
  ·exact h
  ·obtain⟨f,r,rfl⟩:=List.exists_cons_of_ne_nil i;have v:(j9 g g.length (c9 (f::r) (List.replicate g.length false))).countP id<=g.length:=by
    have:=List.countP_le_length (p:=id) (l:=j9 g g.length (c9 (f::r) (List.replicate g.length false)));rw[sH,d5,SL]at this;exact this
   have w:0<(c9 (f::r) (List.replicate g.length false)).countP id:=by
    rw[List.countP_pos_iff];have x:=m f (by simp);have a:L3 (c9 (f::r) (List.replicate g.length false)) f.toNat=true:=by
     rw[X8,SB];right;rw[RH,decide_eq_true_eq,List.any_eq_true];exact⟨by rw[SL];omega,f,by simp,by simp⟩
    have b:=CJ a;unfold L3 at a;rw[RG b]at a;exact⟨_,RM b,a⟩
   omega
theorem kQ{g:Graph}(y:related g=true){s:List Int}(u:∀f∈s,0<=f/\f<g.length)(x:Nat):L3 (Z3 g s) x=true↔∃f:Nat,(f:Int)∈s/\(f=x\/Reaches g f x):=by
 constructor
 ·let Good:List Bool->Prop:=fun l=>∀x,L3 l x=true->∃f:Nat,(f:Int)∈s/\(f=x\/Reaches g f x)
  have z:∀l c,Good l->Good (a7 g l c):=by
   intro l c h x a;unfold a7 at a;split at a
   ·rename_i B;rw[X8,SB,RH,List.any_eq_true]at a;rcases a with a | ⟨_,p,hp,e⟩
    ·exact h x a
    ·have e:=A0 e;have C:=(L1 y c).1 p hp;have v:((x:Nat):Int)=p:=by omega
     obtain⟨f,q,b⟩:=h c B;refine⟨f,q,.inr ?_⟩;rcases b with rfl | b
     ·exact .one (by rw[v];exact hp)
     ·exact .more b (by rw[v];exact hp)
   ·exact h x a
  have b:∀(t:List Nat) l,Good l->Good (t.foldl (a7 g) l):=by
   intro t;induction t with
   | nil=>exact fun l h=>h
   | cons c r j=>exact fun l h=>j _ (z l c h)
  have A:∀k l,Good l->Good (j9 g k l):=by
   intro k;induction k with
   | zero=>exact fun l h=>h
   | succ k j=>exact fun l h=>j _ (b _ l h)
  refine A _ _ (fun x a=>?_) x;rw[X8,SB,RH,List.any_eq_true]at a;rcases a with a | ⟨_,p,hp,e⟩
  ·unfold L3 at a;rw[List.getElem?_replicate]at a;split at a<;>cases a
  ·have e:=A0 e;have:=u p hp;exact⟨x,by rw[show ((x:Nat):Int)=p by omega];exact hp,.inl rfl⟩
 ·rintro⟨f,q,h⟩;have d:=uR y s u;have w:L3 (Z3 g s) f=true:=by
   refine (xK g _ _).2 f ?_;rw[X8,SB];right;rw[RH,decide_eq_true_eq,List.any_eq_true];have:=u f q;exact⟨by rw[SL];omega,f,q,by simp⟩
  rcases h with rfl | h
  ·exact w
  ·induction h with
   | one h=>exact d _ w _ h
   | more _ b j=>exact d _ j _ b
def cyclic(g:Graph):Bool:=(List.range g.length).any fun c=>decide (D5 g c≠[])&&L3 (Z3 g (D5 g c)) c
theorem bM{g:Graph}(k:related g=true):cyclic g=true↔∃c,Reaches g c c:=by
 unfold cyclic;rw[List.any_eq_true];constructor
 ·rintro⟨c,_,h⟩;rw[RH]at h;obtain⟨f,j,d⟩:=(kQ k (L1 k c).1 c).1 h.2;rcases d with rfl | d
  ·exact⟨f,.one j⟩
  ·exact⟨c,(Reaches.one j).trans d⟩
 ·rintro⟨c,h⟩;have q:=(h.lt k).1;refine⟨c,RQ.2 q,?_⟩;have u:∀{a b:Nat},Reaches g a b->∃f:Nat,(f:Int)∈D5 g a/\(f=b\/Reaches g f b):=by
   intro a b h;induction h with
   | one h=>exact⟨_,h,.inl rfl⟩
   | more _ d v =>
    obtain⟨f,j,p⟩:=v;refine⟨f,j,.inr ?_⟩;rcases p with rfl | p
    ·exact .one d
    ·exact .more p d
  obtain⟨f,j,d⟩:=u h;rw[RH,decide_eq_true_eq];exact⟨(fun e=>by rw[e]at j;cases j),(kQ k (L1 k c).1 c).2 ⟨f,j,d⟩⟩
def jC(g:Graph)(ex:List Int)(p:Nat):Nat:=(List.range g.length).countP fun c:Nat=>decide ((c:Int)∉ex/\(p:Int)∈D5 g c)
theorem sJ{g:Graph}{ex:List Int}{x p:Nat}(f:(x:Int)∉ex)(a:x<g.length):jC g ex p=jC g (ex++[(x:Int)]) p+(if (p:Int)∈D5 g x then 1 else 0):=by
 unfold jC;rw[gE (q:=fun c:Nat=>decide ((c:Int)∉ex/\(p:Int)∈D5 g c)) (r:=fun c:Nat=>decide ((c:Int)∉ex++[(x:Int)]/\(p:Int)∈D5 g c)) x (fun y=>?_) List.nodup_range]
 ·congr 1
  simp only[RQ,a,true_and,decide_eq_true_eq,f,not_false_eq_true]
 ·simp only[RL,List.mem_singleton];by_cases b:(y:Int)∈ex<;>by_cases d:y=x<;>by_cases e:(p:Int)∈D5 g y<;>simp[b,d,e]<;>omega
theorem IA{g:Graph}{ex:List Int}{p:Nat}(h:0<jC g ex p):∃c,c<g.length/\(c:Int)∉ex/\(p:Int)∈D5 g c:=by
 unfold jC at h;rw[List.countP_pos_iff]at h;obtain⟨c,a,h⟩:=h;have:=A0 h;exact⟨c,RQ.1 a,this.1,this.2⟩
theorem sK{g:Graph}{ex:List Int}{p:Nat}(h:jC g ex p=0){c:Nat}(a:c<g.length)(d:(p:Int)∈D5 g c):(c:Int)∈ex:=by
 apply Classical.byContradiction;intro b;have:0<jC g ex p:=by
  unfold jC;rw[List.countP_pos_iff];exact⟨c,RQ.2 a,by simp[b,d]⟩
 omega
structure KInv (g:Graph) (k i:Nat) (ch:List Int) (out:List Int):Prop where
 len:ch.length=g.length
 nodup:out.Nodup
 rng:∀x∈out,0<=x/\x<g.length
 cnt:∀p,p<g.length->ch[p]?.getD 0+(if (p:Int)∈(D5 g (out.getD k 0).toNat).take i then 1 else 0)=jC g (out.take k) p
 zero:∀p,p<g.length->((p:Int)∈out↔ch[p]?.getD 0=0)
 kids:∀j (h:j<out.length) (c:Nat),out[j]∈D5 g c->(c:Int)∈out.take j
theorem minimal{R:Nat->Nat->Prop}(i:∀a b c,R a b->R b c->R a c)(g:∀a,¬R a a):∀{M:List Nat},M≠[]->∃m∈M,∀x∈M,¬R x m
 | [],h=>absurd rfl h
 | [a],_=>⟨a,by simp,fun x d=>by rw[List.mem_singleton.1 d];exact g a⟩
 | a::b::r,_=>by
  obtain⟨m,j,h⟩:=minimal i g (M:=b::r) (by simp);by_cases e:R a m
  ·refine⟨a,by simp,fun x d f=>?_⟩;rcases RN.1 d with rfl | d
   ·exact g _ f
   ·exact h x d (i _ _ _ f e)
  ·refine⟨m,List.mem_cons_of_mem _ j,fun x d=>?_⟩;rcases RN.1 d with rfl | d
   ·exact e
   ·exact h x d
theorem KInv.done{g:Graph}(O:related g=true){Q b:List Int}(h:KInv g b.length 0 Q b):(decide (b.length<g.length))=cyclic g:=by
 cases z:cyclic g
 ·rw[decide_eq_false_iff_not];intro A;have N:∀c,¬Reaches g c c:=fun c d=>by rw[(bM O).2 ⟨c,d⟩]at z;cases z
  let M:=(List.range g.length).filter fun c:Nat=>decide ((c:Int)∉b);have W:M≠[]:=by
   intro e;have w:∀c,c<g.length->(c:Int)∈b:=fun c z=>by
    apply Classical.byContradiction;intro U;have:c∈M:=List.mem_filter.2 ⟨RQ.2 z,by simp[U]⟩;rw[e]at this;cases this
   have:=dY (l:=(List.range g.length).map fun i:Nat=>(i:Int)) (m:=b) ((List.nodup_range).map (fun i:Nat=>(i:Int)) (fun _ _ L e=>L (Int.ofNat.inj e))) fun x Y=>by
    obtain⟨i,k,rfl⟩:=SF.1 Y;exact w i (RQ.1 k)
   rw[SM,SS]at this;omega
  obtain⟨m,X,B⟩:=minimal (R:=Reaches g) (fun _ _ _ F C=>F.trans C) N W;obtain⟨q,u⟩:=List.mem_filter.1 X;have q:=RQ.1 q;have u:=A0 u;have F:=h.cnt m q;have C:¬Q[m]?.getD 0=0:=fun e=>u ((h.zero m q).2 e);rw[RS,List.take_zero,A5 (by simp),Int.add_zero]at F;obtain⟨c,G,H,I⟩:=IA (g:=g) (ex:=b) (p:=m) (by omega);exact B c (List.mem_filter.2 ⟨RQ.2 G,by simp[H]⟩) (.one I)
 ·rw[decide_eq_true_eq];obtain⟨c,d⟩:=(bM O).1 z;apply Classical.byContradiction;intro U;have K:=HY h.nodup h.rng (by omega) c (d.lt O).1;have P:∀{x y:Nat},Reaches g x y->∀j (s:j<b.length),b[j]=(y:Int)->∃i,∃k:i<b.length,i<j/\b[i]=(x:Int):=by
   have one:∀{x y:Nat},(y:Int)∈D5 g x->∀j (s:j<b.length),b[j]=(y:Int)->∃i,∃k:i<b.length,i<j/\b[i]=(x:Int):=by
    intro x y v j s e;have:=h.kids j s x (by rw[e];exact v);obtain⟨i,k,S⟩:=List.getElem_of_mem this;rw[RV]at k;rw[List.getElem_take]at S;exact⟨i,by omega,by omega,S⟩
   intro x y v;induction v with
   | one h=>exact one h
   | more _ C ih =>
    intro j s e;obtain⟨i,k,A,E⟩:=one C j s e;obtain⟨Z,J,T,V⟩:=ih i k E;exact⟨Z,J,by omega,V⟩
  obtain⟨j,s,e⟩:=List.getElem_of_mem K;obtain⟨i,k,A,E⟩:=P d j s e;have:=(List.getElem_inj (i:=i) (j:=j) (h₀:=k) (h₁:=s) h.nodup).1 (E.trans e.symm);omega
def J9(l:List Int)(p:Nat):Int:=l[p]?.getD 0
def bump(l:List Int)(p:Int):List Int:=l.set p.toNat (J9 l p.toNat+1)
def Z4(l:List Int)(p:Int):List Int:=l.set p.toNat (J9 l p.toNat-1)
def R0(ps:List Int)(l:List Int):List Int:=ps.foldl bump l
def L2(g:Graph)(i:Nat):List Int:=(g.take i).foldl (fun l c=>R0 c.Parents l) (List.replicate g.length 0)
theorem x7{l:List Int}{i p:Nat}{v:Int}(h:i<l.length):J9 (l.set i v) p=if i=p then v else J9 l p:=by
 unfold J9;rw[TI];split
 ·rename_i e;subst e;simp[h]
 ·rfl
theorem dL:∀(ps:List Int) (l:List Int),(R0 ps l).length=l.length
 | [],_=>rfl
 | p::r,l=>by show (R0 r (bump l p)).length=_;rw[dL r];simp[bump]
theorem gG{n:Int}:∀{ps:List Int} {l:List Int},(∀p∈ps,0<=p/\p<l.length)->ps.Nodup->∀p:Nat,J9 (R0 ps l) p=J9 l p+(if (p:Int)∈ps then 1 else 0)
 | [],l,_,_,p=>by simp[R0]
 | q::r,l,h,b,p=>by
  show J9 (R0 r (bump l q)) p=_;have f:=h q (by simp);have b:=List.nodup_cons.1 b;rw[gG (n:=n) (fun x d=>by have:=h x (by simp[d]);simpa[bump] using this) b.2 p];unfold bump;rw[x7 (by omega)];by_cases e:q.toNat=p
  ·have a:(p:Int)=q:=by omega
   have c:¬(p:Int)∈r:=by rw[a];exact b.1
   rw[A4 e,A5 c,a,A4 (by simp),e];omega
  ·have a:((p:Int)∈q::r)↔(p:Int)∈r:=by
    rw[RN];exact⟨fun h=>h.resolve_left (by omega),.inr⟩
   rw[A5 e];simp only[a]
theorem o7(g:Graph):∀i,(L2 g i).length=g.length:=by
 intro i;unfold L2;have b:∀(a:List Commit) (l:List Int),(a.foldl (fun l c=>R0 c.Parents l) l).length=l.length:=by
  intro a;induction a with
  | nil=>intro l;rfl
  | cons c r d=>intro l;rw[SI,d,dL]
 rw[b];simp
theorem fC{g:Graph}{i:Nat}(a:i<g.length):L2 g (i+1)=R0 (D5 g i) (L2 g i):=by
 unfold L2;rw[List.take_add_one,RG a,Option.toList_some,TF,j8 a];rfl
theorem dM{g:Graph}(b:related g=true)(p:Nat)(a:p<g.length):∀i,i<=g.length->J9 (L2 g i) p=((List.range i).countP fun c:Nat=>decide ((p:Int)∈D5 g c):Nat)
 | 0,_=>by
  unfold L2 J9;simp[List.getElem?_replicate,a]
 | i+1,hi=>by
  have hpr:=L1 b i;rw[fC (by omega),gG (n:=0) (fun q d=>by rw[o7];exact hpr.1 q d) hpr.2,dM b p a i (by omega),TH,List.countP_append];by_cases h:(p:Int)∈D5 g i<;>simp[h]
theorem lS{g:Graph}(b:related g=true)(p:Nat)(a:p<g.length):J9 (L2 g g.length) p=jC g [] p:=by
 rw[dM b p a _ (Nat.le_refl _)];unfold jC;simp
def P4(b:List Int)(i:Nat):List Int:=((List.range i).filter fun c=>decide (J9 b c=0)).map fun c:Nat=>(c:Int)
theorem uS(a:List Int)(i:Nat):P4 a (i+1)=if J9 a i=0 then P4 a i++[(i:Int)] else P4 a i:=by
 unfold P4;rw[TH,List.filter_append,SN];by_cases h:J9 a i=0<;>simp[h]
theorem lT(a:List Int)(i p:Nat):(p:Int)∈P4 a i↔p<i/\J9 a p=0:=by
 unfold P4;rw[SF];constructor
 ·rintro⟨c,b,e⟩;have e:c=p:=Int.ofNat.inj e;subst e;rw[List.mem_filter,RQ,decide_eq_true_eq]at b;exact b
 ·rintro⟨d,f⟩;exact⟨p,by rw[List.mem_filter,RQ,decide_eq_true_eq];exact⟨d,f⟩,rfl⟩
theorem dN{b:List Int}{i:Nat}:∀x∈P4 b i,0<=x/\x<i:=by
 intro x a;unfold P4 at a;obtain⟨c,d,rfl⟩:=SF.1 a;have:=RQ.1 (List.mem_filter.1 d).1;omega
theorem fD(c:List Int)(i:Nat):(P4 c i).Nodup:=by
 unfold P4;exact (List.nodup_range.filter _).map (fun i:Nat=>(i:Int)) fun _ _ b e=>b (Int.ofNat.inj e)
theorem xM(a:List Int)(i:Nat):(P4 a i).length<=i:=j7 (fD a i) dN
theorem KInv.start{g:Graph}(l:related g=true):KInv g 0 0 (L2 g g.length) (P4 (L2 g g.length) g.length) where
 len:=o7 g _
 nodup:=fD _ _
 rng:=dN
 cnt:=fun p e=>by
  have:=lS l p e;unfold J9 at this;rw[this,List.take_zero,List.take_zero];simp
 zero:=fun p e=>by
  have:=lT (L2 g g.length) g.length p;rw[this];exact⟨fun h=>h.2,fun h=>⟨e,h⟩⟩
 kids:=fun j k c b=>by
  have f:=dN _ (RM k);have i:=(lT (L2 g g.length) g.length ((P4 (L2 g g.length) g.length)[j]).toNat).1 (by rw[Int.toNat_of_nonneg f.1];exact RM k);rw[lS l _ i.1]at i;have d:c<g.length:=by
   apply Classical.byContradiction;intro m;rw[iZ m]at b;cases b
  have:=sK (g:=g) (ex:=[]) (p:=((P4 (L2 g g.length) g.length)[j]).toNat) (by omega) d (by rw[Int.toNat_of_nonneg f.1];exact b);cases this
theorem KInv.le{g:Graph}{k i:Nat}{b a:List Int}(h:KInv g k i b a):a.length<=g.length:=j7 h.nodup h.rng
theorem l0{α:Type}{l m:List α}{k:Nat}(h:k<=l.length):(l++m).take k=l.take k:=by rw[List.take_append_of_le_length h]
theorem xN{α:Type}{l m:List α}{k:Nat}{d:α}(h:k<l.length):(l++m).getD k d=l.getD k d:=by
 rw[RR,RR,RY h]
theorem P5{α:Type}{l:List α}{i:Nat}{x:α}(h:i<l.length):x∈l.take (i+1)↔x∈l.take i\/x=l[i]:=by
 rw[List.take_add_one,RG h,Option.toList_some,RL,List.mem_singleton]
theorem R1{α:Type}{l:List α}(c:l.Nodup){i:Nat}(h:i<l.length):l[i]∉l.take i:=by
 intro b;obtain⟨j,a,e⟩:=List.getElem_of_mem b;rw[RV]at a;rw[List.getElem_take]at e;have:=(List.getElem_inj (i:=j) (j:=i) (h₀:=by omega) (h₁:=h) c).1 e;omega
theorem KInv.step{g:Graph}(Y:related g=true){k i:Nat}{f b:List Int}(h:KInv g k i f b)(E:k<b.length){c p:Nat}(K:b[k]=(c:Int))(G:i<(D5 g c).length)(H:(D5 g c)[i]=(p:Int)) :
  p<g.length/\1<=J9 f p/\J9 f p<=g.length/\KInv g k (i+1) (Z4 f p) (if J9 f p-1=0 then b++[(p:Int)] else b):=by
 have hpr:=L1 Y c;have hpm:(p:Int)∈D5 g c:=by rw[<-H];exact RM G
 have m:p<g.length:=by have:=hpr.1 p hpm;omega
 have A:c<g.length:=by have:=h.rng b[k] (RM E);omega
 have v:b.getD k 0=(c:Int):=by rw[RR,RG E];exact K
 have P:(c:Int)∉b.take k:=by rw[<-K];exact R1 h.nodup E
 have O:(p:Int)∉(D5 g c).take i:=by rw[<-H];exact R1 hpr.2 G
 have S:=h.cnt p m;rw[v,RI,A5 O]at S;have T:=sJ (g:=g) (ex:=b.take k) (x:=c) (p:=p) P A;rw[A4 hpm]at T;have W:jC g (b.take k) p<=g.length:=by
  unfold jC;have:=List.countP_le_length (p:=fun c:Nat=>decide ((c:Int)∉b.take k/\(p:Int)∈D5 g c)) (l:=List.range g.length)
  rwa[SS]at this
 have V:J9 f p=f[p]?.getD 0:=rfl;have L:1<=J9 f p:=by omega
 have o:(p:Int)∉b:=fun s=>by have:=(h.zero p m).1 s;omega
 have F:∀q,J9 (Z4 f p) q=if p=q then J9 f p-1 else J9 f q:=fun q=>by
  unfold Z4;rw[RI,x7 (by rw[h.len];exact m)]
 refine⟨m,L,by omega,?_⟩;have w:(if J9 f p-1=0 then b++[(p:Int)] else b).take k=b.take k:=by split<;>first | exact l0 (by omega) | rfl
 have B:(if J9 f p-1=0 then b++[(p:Int)] else b).getD k 0=b.getD k 0:=by split<;>first | exact xN E | rfl
 refine⟨by unfold Z4;rw[SU];exact h.len,?_,?_,?_,?_,?_⟩
 ·split
  ·exact List.nodup_append.2 ⟨h.nodup,by simp,fun x d y Z e=>by rw[List.mem_singleton.1 Z]at e;exact o (e ▸ d)⟩
  ·exact h.nodup
 ·intro x d;split at d
  ·rcases RL.1 d with d | d
   ·exact h.rng x d
   ·rw[List.mem_singleton.1 d];omega
  ·exact h.rng x d
 ·intro q Q;rw[w,B,v,RI];have I:=F q;have J:J9 (Z4 f p) q=(Z4 f p)[q]?.getD 0:=rfl;rw[<-J,I];by_cases e:p=q
  ·subst e;rw[A4 rfl,A4 ((P5 G).2 (.inr H.symm))];omega
  ·rw[A5 e];have z:=h.cnt q Q;rw[v,RI]at z;have U:((q:Int)∈(D5 g c).take (i+1))↔(q:Int)∈(D5 g c).take i:=by
    rw[P5 G,H];exact⟨fun h=>h.resolve_right (by omega),.inl⟩
   simp only[U];exact z
 ·intro q Q;have I:=F q;have J:J9 (Z4 f p) q=(Z4 f p)[q]?.getD 0:=rfl;rw[<-J,I];by_cases e:p=q
  ·subst e;rw[A4 rfl];split
   ·rename_i u;simp[u]
   ·rename_i u;exact⟨fun s=>absurd s o,fun e=>absurd e u⟩
  ·rw[A5 e];have z:=h.zero q Q;split
   ·rw[RL,List.mem_singleton];exact⟨fun s=>z.1 (s.resolve_right (by omega)),fun e=>.inl (z.2 e)⟩
   ·exact z
 ·intro j M x d;split at M
  ·rename_i u;simp only[u,if_true]at d ⊢;by_cases C:j<b.length
   ·rw[TB C]at d;rw[l0 (by omega)];exact h.kids j C x d
   ·have N:j=b.length:=by rw[RK,List.length_singleton]at M;omega
    subst N;rw[TA (Nat.le_refl _)]at d;simp only[TE,List.getElem_cons_zero]at d;have R:x<g.length:=by
     apply Classical.byContradiction;intro X;rw[iZ X]at d;cases d
    have hz:jC g (b.take k++[(c:Int)]) p=0:=by omega
    have:=sK hz R d;rw[l0 (Nat.le_refl _),RS];rcases RL.1 this with s | s
    ·exact List.mem_of_mem_take s
    ·rw[List.mem_singleton.1 s,<-K];exact RM E
  ·rename_i u;simp only[u,if_false]at d ⊢;exact h.kids j M x d
theorem KInv.next{g:Graph}{k:Nat}{m a:List Int}(d:k<a.length){c:Nat}(f:a[k]=(c:Int))(h:KInv g k (D5 g c).length m a):KInv g (k+1) 0 m a where
 len:=h.len
 nodup:=h.nodup
 rng:=h.rng
 cnt:=fun p r=>by
  have o:=h.cnt p r;have i:a.getD k 0=(c:Int):=by rw[RR,RG d];exact f
  have b:c<g.length:=by have:=h.rng a[k] (RM d);omega
  rw[i,RI,RS]at o;have q:=sJ (g:=g) (ex:=a.take k) (x:=c) (p:=p) (by rw[<-f];exact R1 h.nodup d) b;have e:a.take (k+1)=a.take k++[(c:Int)]:=by rw[List.take_add_one,RG d,Option.toList_some,f]
  rw[e,List.take_zero,A5 (by simp)];split at o
  ·rename_i j;rw[A4 j]at q;omega
  ·rename_i j;rw[A5 j]at q;omega
 zero:=h.zero
 kids:=h.kids
def T9:List Commit->Int
 | []=>0
 | c::r=>if I1 c.Files≠0 then I1 c.Files else T9 r
def Z5(g:Graph):Bool:=decide (g.length<=300)&&!g.any fun c=>decide (c.Parents.length>32)
def jD(g:Graph):Bool:=g.any fun c=>decide (c.Date<0\/c.Date>2147483647)
def O6(g:Graph):Int:=if Z5 g=false then 1 else if related g=false then 230 else if cyclic g=true then 231 else if jD g=true then 3 else T9 g
theorem fE:∀{g:List Commit},T9 g=0->∀c∈g,I1 c.Files=0
 | [],_,_,hc=>by cases hc
 | d::r,h,c,hc=>by
  unfold T9 at h;split at h
  ·rename_i a;exact absurd h a
  ·rename_i a;rcases RN.1 hc with rfl | hc
   ·simpa using a
   ·exact fE h c hc
structure Valid (g:Graph):Prop where
 len:g.length<=300
 pars:∀c∈g,c.Parents.length<=32
 rel:related g=true
 acyc:∀c,¬Reaches g c c
 tree:∀c∈g,I1 c.Files=0
theorem pO{g:Graph}(h:O6 g=0):Valid g:=by
 unfold O6 at h;split at h
 ·cases h
 ·rename_i a;split at h
  ·cases h
  ·rename_i d;split at h
   ·cases h
   ·rename_i e;split at h
    ·cases h
    ·have a:Z5 g=true:=by simpa using a
     unfold Z5 at a;rw[RH,decide_eq_true_eq]at a;have d:related g=true:=by simpa using d
     refine⟨a.1,fun c b=>?_,d,fun c b=>e ((bM d).2 ⟨c,b⟩),fun c b=>fE h c b⟩;apply Classical.byContradiction;intro f;have:g.any (fun c=>decide (c.Parents.length>32))=true:=List.any_eq_true.2 ⟨c,b,by simp;omega⟩;rw[this]at a;cases a.2
structure CHunk where
 At:List Int
 Rows:List Row
 deriving DecidableEq
structure Comb where
 Path:Str
 Dense:Bool
 Parents:Int
 Hunks:List CHunk
 deriving DecidableEq
def MB(n k:Nat):Int:=if k=n then -1 else k
def PW(a:List Row)(n k:Nat):Int:=(OD a (MB n k)).length
structure CRead (n:Nat) (h:CHunk):Prop where
 len:h.At.length=n+1
 ne:h.Rows≠[]
 PM:∀k,k<n+1->0<=h.At.getD k 0/\h.At.getD k 0+PW h.Rows n k<=4096
 rows:∀r∈h.Rows,LQ n r=true/\V1 r.Text=true
def m8(l:List Int)(i j:Nat):List Int:=(l.set i (J9 l j)).set j (J9 l i)
def OO(a:Int->Int->Bool):Nat->List Int->Nat->List Int
 | 0,l,_=>l
 | f+1,l,j=>if (j-1) / 2=j\/a (J9 l j) (J9 l ((j-1) / 2))=false then l else OO a f (m8 l ((j-1) / 2) j) ((j-1) / 2)
def qN(bf:Int->Int->Bool)(n:Nat)(l:List Int)(i:Nat):Nat:=if 2*i+2<n/\bf (J9 l (2*i+2)) (J9 l (2*i+1))=true then 2*i+2 else 2*i+1
def pP(bf:Int->Int->Bool)(n:Nat):Nat->List Int->Nat->List Int
 | 0,l,_=>l
 | f+1,l,i=>if n<=2*i+1 then l else if bf (J9 l (qN bf n l i)) (J9 l i)=false then l else pP bf n f (m8 l i (qN bf n l i)) (qN bf n l i)
def xO(a:Int->Int->Bool)(l:List Int)(x:Int):List Int:=OO a (l.length+1) (l++[x]) l.length
def xP(a:Int->Int->Bool)(l:List Int):List Int:=pP a (l.length-1) l.length (m8 l 0 (l.length-1)) 0
theorem P0(l:List Int)(i j:Nat):(m8 l i j).length=l.length:=by simp[m8]
theorem V7{l:List Int}{i j:Nat}(a:i<l.length)(b:j<l.length)(k:Nat):J9 (m8 l i j) k=if k=j then J9 l i else if k=i then J9 l j else J9 l k:=by
 unfold m8;rw[x7 (by rw[SU];exact b),x7 a];simp only[@eq_comm Nat j k,@eq_comm Nat i k]
theorem U6{l:List Int}{k:Nat}(h:k<l.length):J9 l k=l[k]:=by unfold J9;rw[RG h];rfl
theorem EP{l:List Int}{i j:Nat}(a:i<l.length)(b:j<l.length)(x:Int):x∈m8 l i j↔x∈l:=by
 have sub:∀{l:List Int} {i j:Nat},i<l.length->j<l.length->∀x,x∈m8 l i j->x∈l:=by
  intro l i j a b x g;obtain⟨k,d,e⟩:=List.getElem_of_mem g;rw[<-U6 d,V7 a b]at e;rw[P0]at d;split at e
  ·rw[<-e,U6 a];exact RM a
  ·split at e
   ·rw[<-e,U6 b];exact RM b
   ·rw[<-e,U6 d];exact RM d
 refine⟨sub a b x,fun g=>?_⟩;have e:m8 (m8 l i j) i j=l:=by
  refine List.ext_getElem (by rw[P0,P0]) fun k h m=>?_;rw[<-U6 h,<-U6 m,V7 (by rw[P0];exact a) (by rw[P0];exact b),V7 a b,V7 a b,V7 a b];by_cases f:k=j
  ·subst f;rw[A4 rfl];by_cases c:i=k
   ·rw[A4 c,c]
   ·rw[A5 c,A4 rfl]
  ·rw[A5 f];by_cases c:k=i
   ·rw[A4 c,A4 rfl,c]
   ·rw[A5 c,A5 f,A5 c]
 exact sub (by rw[P0];exact a) (by rw[P0];exact b) x (by rw[e];exact g)
theorem IB{l:List Int}:l.Nodup↔∀i j,i<l.length->j<l.length->J9 l i=J9 l j->i=j:=by
 constructor
 ·intro h i j a b e;rw[U6 a,U6 b]at e;exact (List.getElem_inj h).1 e
 ·intro h;rw[List.Nodup,List.pairwise_iff_getElem];intro i j a b c e;have:=h i j a b (by rw[U6 a,U6 b];exact e);omega
theorem xQ{l:List Int}{i j:Nat}(f:i<l.length)(g:j<l.length)(h:l.Nodup):(m8 l i j).Nodup:=by
 rw[IB]at h ⊢;intro a b ha hb e;rw[P0]at ha hb;rw[V7 f g,V7 f g]at e;by_cases k:a=j<;>by_cases m:b=j
 ·omega
 ·rw[A4 k,A5 m]at e;by_cases c:b=i
  ·rw[A4 c]at e;have:=h _ _ f g e;omega
  ·rw[A5 c]at e;have:=h _ _ f hb e;omega
 ·rw[A5 k,A4 m]at e;by_cases a2:a=i
  ·rw[A4 a2]at e;have:=h _ _ g f e;omega
  ·rw[A5 a2]at e;have:=h _ _ ha f e;omega
 ·rw[A5 k,A5 m]at e;by_cases a2:a=i<;>by_cases c:b=i
  ·omega
  ·rw[A4 a2,A5 c]at e;have:=h _ _ g hb e;omega
  ·rw[A5 a2,A4 c]at e;have:=h _ _ ha g e;omega
  ·rw[A5 a2,A5 c]at e;exact h _ _ ha hb e
structure SameL (l m:List Int):Prop where
 len:m.length=l.length
 mem:∀x,x∈m↔x∈l
 nodup:l.Nodup->m.Nodup
theorem SameL.refl(l:List Int):SameL l l:=⟨rfl,fun _=>Iff.rfl,id⟩
theorem SameL.trans{a b c:List Int}(h:SameL a b)(d:SameL b c):SameL a c:=⟨d.len.trans h.len,fun x=>(d.mem x).trans (h.mem x),fun e=>d.nodup (h.nodup e)⟩
theorem SameL.swap{l:List Int}{i j:Nat}(a:i<l.length)(b:j<l.length):SameL l (m8 l i j):=⟨P0 l i j,EP a b,xQ a b⟩
structure Weak (bf:Int->Int->Bool):Prop where
 irr:∀a,bf a a=false
 asy:∀{a b},bf a b=true->bf b a=false
 ntr:∀{a b c},bf a b=false->bf b c=false->bf a c=false
def jE(bf:Int->Int->Bool)(n:Nat)(l:List Int):Prop:=∀k,k<n->0<k->bf (J9 l k) (J9 l ((k-1) / 2))=false
theorem EQ{a:Int->Int->Bool}(w:Weak a){n:Nat}{l:List Int}(h:jE a n l):∀k,k<n->a (J9 l k) (J9 l 0)=false:=by
 intro k;induction k using Nat.strongRecOn with
 | _ k d =>
  intro c;by_cases b:k=0
  ·subst b;exact w.irr _
  ·exact w.ntr (h k c (by omega)) (d ((k-1) / 2) (by omega) (by omega))
theorem xR{g:Int->Int->Bool}(w:Weak g){n:Nat}:∀(f j:Nat) (l:List Int),j<f->j<n->n<=l.length ->
  (∀k,k<n->0<k->k≠j->g (J9 l k) (J9 l ((k-1) / 2))=false)->(∀k,k<n->0<k->(k-1) / 2=j->0<j->g (J9 l k) (J9 l ((j-1) / 2))=false) ->
  jE g n (OO g f l j)/\SameL l (OO g f l j)
 | 0,j,l,hf,_,_,_,_=>by omega
 | f + 1,j,l,hf,hj,hl,h1,h2=>by
  unfold OO;split
  ·rename_i h;refine⟨fun k o m=>?_,SameL.refl l⟩;by_cases e:k=j
   ·subst e;rcases h with h | h
    ·omega
    ·exact h
   ·exact h1 k o m e
  ·rename_i h;have C:(j-1) / 2≠j:=fun e=>h (.inl e);have q:g (J9 l j) (J9 l ((j-1) / 2))=true:=by
    cases hb:g (J9 l j) (J9 l ((j-1) / 2))
    ·exact absurd (.inr hb) h
    ·rfl
   have B:(j-1) / 2<l.length:=by omega
   have p:j<l.length:=by omega
   have d:=V7 B p
   obtain⟨a,b⟩:=xR (n:=n) w f ((j-1) / 2) (m8 l ((j-1) / 2) j) (by omega) (by omega) (by rw[P0];exact hl) (fun k o m u=>by
    rw[d,d];by_cases c:k=j
    ·rw[A4 c,c,A5 (by omega),A4 rfl];exact w.asy q
    ·rw[A5 c,A5 u];by_cases x:(k-1) / 2=j
     ·rw[A4 x];exact h2 k o m x (by omega)
     ·rw[A5 x];by_cases y:(k-1) / 2=(j-1) / 2
      ·rw[A4 y];have v:=h1 k o m c;rw[y]at v;exact w.ntr v (w.asy q)
      ·rw[A5 y];exact h1 k o m c) (fun k o m e v=>by
    rw[d,d,A5 (show ¬((j-1) / 2-1) / 2=j by omega),A5 (show ¬((j-1) / 2-1) / 2=(j-1) / 2 by omega)];have z:=h1 ((j-1) / 2) (by omega) v (by omega);by_cases c:k=j
    ·rw[A4 c];exact z
    ·rw[A5 c,A5 (by omega)];have A:=h1 k o m c;rw[e]at A
     exact w.ntr A z)
   exact⟨a,(SameL.swap B p).trans b⟩
theorem xS{a:Int->Int->Bool}(w:Weak a){l:List Int}(x:Int)(h:jE a l.length l):jE a (l.length+1) (xO a l x)/\SameL (l++[x]) (xO a l x):=by
 unfold xO;have b:∀k,k<l.length->J9 (l++[x]) k=J9 l k:=fun k c=>by unfold J9;rw[RY c]
 refine xR w (n:=l.length+1) (l.length+1) l.length (l++[x]) (by omega) (by omega) (by simp) (fun k c d f=>?_) (fun k c d e g=>by omega);rw[b k (by omega),b _ (by omega)];exact h k (by omega) d
theorem JW{bf:Int->Int->Bool}{n:Nat}{l:List Int}{i:Nat}(h:2*i+1<n):qN bf n l i<n/\(qN bf n l i-1) / 2=i/\i<qN bf n l i:=by
 unfold qN;split<;>omega
theorem IC{bf:Int->Int->Bool}(w:Weak bf){n:Nat}{l:List Int}{i k:Nat}(d:k<n)(c:0<k)(e:(k-1) / 2=i):bf (J9 l k) (J9 l (qN bf n l i))=false:=by
 unfold qN;split
 ·rename_i h;by_cases a:k=2*i+2
  ·rw[a];exact w.irr _
  ·rw[show k=2*i+1 by omega];exact w.asy h.2
 ·rename_i h;by_cases a:k=2*i+1
  ·rw[a];exact w.irr _
  ·have b:k=2*i+2:=by omega
   rw[b];cases hb:bf (J9 l (2*i+2)) (J9 l (2*i+1))
   ·rfl
   ·exact absurd ⟨by omega,hb⟩ h
theorem pQ{bf:Int->Int->Bool}(w:Weak bf){n:Nat}:∀(f i:Nat) (l:List Int),n<=i+f->n<=l.length ->
  (∀k,k<n->0<k->(k-1) / 2≠i->bf (J9 l k) (J9 l ((k-1) / 2))=false)->(∀k,k<n->0<k->(k-1) / 2=i->0<i->bf (J9 l k) (J9 l ((i-1) / 2))=false) ->
  jE bf n (pP bf n f l i)/\SameL l (pP bf n f l i)/\∀k,n<=k->J9 (pP bf n f l i) k=J9 l k
 | 0,i,l,hf,_,h1,h2=>by
  unfold pP;exact⟨fun k d g=>h1 k d g (by omega),SameL.refl l,fun _ _=>rfl⟩
 | f + 1,i,l,hf,hl,h1,h2=>by
  unfold pP;split
  ·exact⟨fun k d g=>h1 k d g (by omega),SameL.refl l,fun _ _=>rfl⟩
  ·rename_i E;obtain⟨z,o,C⟩:=JW (bf:=bf) (l:=l) (show 2*i+1<n by omega);have q:=fun k d g e=>IC (bf:=bf) w (n:=n) (l:=l) (i:=i) (k:=k) d g e;generalize qN bf n l i=j at z o C q;split
   ·rename_i h;refine⟨fun k d g=>?_,SameL.refl l,fun _ _=>rfl⟩;by_cases e:(k-1) / 2=i
    ·rw[e];exact w.ntr (q k d g e) h
    ·exact h1 k d g e
   ·rename_i h;have x:bf (J9 l j) (J9 l i)=true:=by simpa using h
    have A:i<l.length:=by omega
    have B:j<l.length:=by omega
    have m:=V7 A B
    obtain⟨a,b,c⟩:=pQ (n:=n) w f j (m8 l i j) (by omega) (by rw[P0];exact hl) (fun k d g y=>by
     rw[m,m];rw[A5 (show ¬(k-1) / 2=j from y)];by_cases u:k=j
     ·rw[A4 u];rw[u,A4 o];exact w.asy x
     ·rw[A5 u];by_cases p:(k-1) / 2=i
      ·rw[A4 p,A5 (by omega)];exact q k d g p
      ·rw[A5 p];by_cases v:k=i
       ·rw[A4 v,v];exact h2 j z (by omega) o (by omega)
       ·rw[A5 v];exact h1 k d g p) (fun k d g e D=>by
     rw[m,m,A5 (by omega),A5 (by omega),o,A5 (by omega),A4 rfl];have:=h1 k d g (by omega)
     rw[e]at this;exact this)
    refine⟨a,(SameL.swap A B).trans b,fun k d=>?_⟩;rw[c k d,m,A5 (by omega),A5 (by omega)]
theorem JX{f:Int->Int->Bool}(w:Weak f){l:List Int}(h:jE f l.length l)(p:0<l.length) :
  jE f (l.length-1) (xP f l)/\SameL l (xP f l)/\J9 (xP f l) (l.length-1)=J9 l 0:=by
 unfold xP;have j:0<l.length:=p;have m:l.length-1<l.length:=by omega
 have d:=V7 j m
 obtain⟨a,b,c⟩:=pQ w (n:=l.length-1) l.length 0 (m8 l 0 (l.length-1)) (by omega) (by rw[P0];omega) (fun k o g i=>by
  rw[d,d,A5 (by omega),A5 (by omega),A5 (by omega),A5 i]
  exact h k (by omega) g) (fun k o g e q=>by omega)
 refine⟨a,(SameL.swap j m).trans b,?_⟩;rw[c _ (Nat.le_refl _),d,A4 rfl]
def y9(g:Graph)(c:Nat):Int:=(g[c]?.map (·.Date)).getD 0
def eI(g:Graph)(a b:Int):Bool:=decide (y9 g a.toNat>y9 g b.toNat\/(y9 g a.toNat=y9 g b.toNat/\a<b))
theorem eC(g:Graph):Weak (eI g) where
 irr:=fun a=>by unfold eI;rw[decide_eq_false_iff_not];omega
 asy:=fun {a b} h=>by unfold eI at h ⊢;rw[decide_eq_true_eq]at h;rw[decide_eq_false_iff_not];omega
 ntr:=fun {a b c} h d=>by unfold eI at h d ⊢;rw[decide_eq_false_iff_not]at h d ⊢;omega
def s9(g:Graph)(inn:List Bool)(L:List Int)(c:Nat):Bool:=L3 inn c&&decide ((c:Int)∉L)&&(List.range g.length).all fun k=>!(decide ((c:Int)∈D5 g k)&&L3 inn k&&decide ((k:Int)∉L))
def gH(g:Graph)(b:List Bool)(L:List Int):Nat->Int
 | 0 => -1
 | m+1=>if s9 g b L m=true/\(gH g b L m<0\/y9 g m>y9 g (gH g b L m).toNat) then m else gH g b L m
def sL(g:Graph)(a:List Bool)(L:List Int):Int:=gH g a L g.length
theorem kR(g:Graph)(d:List Bool)(L:List Int):∀m,(gH g d L m = -1/\∀c,c<m->s9 g d L c=false)\/∃b:Nat,b<m/\gH g d L m=b/\s9 g d L b=true/\∀c,c<m->s9 g d L c=true->c≠b->eI g b c=true
 | 0=>.inl ⟨rfl,fun _ h=>by omega⟩
 | m + 1=>by
  rw[gH];rcases kR g d L m with ⟨p,j⟩ | ⟨b,p,j,h3,h4⟩
  ·rw[p];cases q:s9 g d L m
   ·rw[A5 (by simp)]
    exact .inl ⟨rfl,fun c k=>by
     by_cases e:c=m
     ·rw[e];exact q
     ·exact j c (by omega)⟩
   ·rw[A4 ⟨rfl,.inl (by omega)⟩];exact .inr ⟨m,by omega,rfl,q,fun c k a f=>by rw[j c (by omega)]at a;cases a⟩
  ·rw[j];split
   ·rename_i h;have o:y9 g m>y9 g b:=by
     rcases h.2 with h | h
     ·omega
     ·simpa using h
    refine .inr ⟨m,by omega,rfl,h.1,fun c k a f=>?_⟩;unfold eI;rw[decide_eq_true_eq,RI,RI];by_cases e:c=b
    ·subst e;exact .inl o
    ·have:=A0 (h4 c (by omega) a e);rw[RI,RI]at this;omega
   ·rename_i h;refine .inr ⟨b,by omega,rfl,h3,fun c k a f=>?_⟩;by_cases e:c=m
    ·subst e;unfold eI;rw[decide_eq_true_eq,RI,RI];have:¬y9 g c>y9 g b:=fun o=>h ⟨a,.inr (by simpa using o)⟩;omega
    ·exact h4 c (by omega) a f
theorem AT{g:Graph}{a:List Bool}{L:List Int}(h:∀c,c<g.length->s9 g a L c=false):sL g a L = -1:=by
 rcases kR g a L g.length with d | ⟨b,d,_,h3,_⟩
 ·exact d.1
 ·rw[h b d]at h3;cases h3
theorem ID{g:Graph}{a:List Bool}{L:List Int}{b:Nat}(hb:b<g.length)(f:s9 g a L b=true)(h:∀c,c<g.length->s9 g a L c=true->eI g c b=false):sL g a L=b:=by
 rcases kR g a L g.length with d | ⟨b',d,h2,h3,h4⟩
 ·rw[d.2 b hb]at f;cases f
 ·unfold sL;rw[h2];by_cases e:b=b'
  ·rw[e]
  ·have:=h4 b hb f e;rw[h b' d h3]at this;cases this
def mD(g:Graph)(inn:List Bool)(ex:List Int)(p:Nat):Nat:=(List.range g.length).countP fun c:Nat=>L3 inn c&&decide ((c:Int)∉ex/\(p:Int)∈D5 g c)
theorem sM{g:Graph}{inn:List Bool}{ex:List Int}{x p:Nat}(h:(x:Int)∉ex)(a:x<g.length)(b:L3 inn x=true):mD g inn ex p=mD g inn (ex++[(x:Int)]) p+(if (p:Int)∈D5 g x then 1 else 0):=by
 unfold mD;rw[gE (q:=fun c=>L3 inn c&&decide ((c:Int)∉ex/\(p:Int)∈D5 g c)) (r:=fun c=>L3 inn c&&decide ((c:Int)∉ex++[(x:Int)]/\(p:Int)∈D5 g c)) x (fun y=>?_) List.nodup_range]
 ·congr 1
  simp only[RQ,a,true_and,decide_eq_true_eq,h,not_false_eq_true,b,Bool.true_and]
 ·simp only[RL,List.mem_singleton];by_cases d:(y:Int)∈ex<;>by_cases e:y=x<;>by_cases f:(p:Int)∈D5 g y<;>cases L3 inn y<;>simp[d,e,f]<;>omega
theorem ER{g:Graph}{inn:List Bool}{ex:List Int}{p:Nat}:mD g inn ex p=0↔∀c,c<g.length->L3 inn c=true->(p:Int)∈D5 g c->(c:Int)∈ex:=by
 unfold mD;rw[List.countP_eq_zero];constructor
 ·intro h c b e f;have:=h c (RQ.2 b);rw[e,Bool.true_and,decide_eq_true_eq]at this;apply Classical.byContradiction;exact fun d=>this ⟨d,f⟩
 ·intro h c b a;rw[RH,decide_eq_true_eq]at a;exact a.2.1 (h c (RQ.1 b) a.1 a.2.2)
theorem JY(g:Graph)(inn:List Bool)(ex:List Int)(p:Nat):mD g inn ex p<=g.length:=by
 unfold mD;have:=List.countP_le_length (p:=fun c=>L3 inn c&&decide ((c:Int)∉ex/\(p:Int)∈D5 g c)) (l:=List.range g.length)
 rwa[SS]at this
structure OInv (g:Graph) (inn:List Bool) (k i:Nat) (ch hp out:List Int):Prop where
 len:ch.length=g.length
 cnt:∀p,p<g.length->L3 inn p=true->J9 ch p+(if (p:Int)∈(D5 g (out.getD k 0).toNat).take i then 1 else 0)=mD g inn (out.take k) p
 off:∀p,p<g.length->L3 inn p=false->J9 ch p = -1
 hpm:∀p:Nat,(p:Int)∈hp↔p<g.length/\L3 inn p=true/\(p:Int)∉out/\J9 ch p=0
 hpr:∀x∈hp,0<=x/\x<g.length
 hpn:hp.Nodup
 heap:jE (eI g) hp.length hp
 outn:out.Nodup
 outr:∀x∈out,0<=x/\x<g.length/\L3 inn x.toNat=true/\J9 ch x.toNat=0
theorem OInv.ready{g:Graph}{inn:List Bool}{n b a:List Int}(h:OInv g inn a.length 0 n b a){c:Nat}(o:c<g.length):s9 g inn a c=true↔(c:Int)∈b:=by
 rw[h.hpm];unfold s9;rw[RH,RH,decide_eq_true_eq,List.all_eq_true];have j:L3 inn c=true->((∀x∈List.range g.length,(!(decide ((c:Int)∈D5 g x)&&L3 inn x&&decide ((x:Int)∉a)))=true)↔J9 n c=0):=by
  intro q;have d:=h.cnt c o q;rw[RS,List.take_zero,A5 (by simp)]at d;have f:=ER (g:=g) (inn:=inn) (ex:=a) (p:=c);constructor
  ·intro i;have:mD g inn a c=0:=f.2 fun k m e b=>by
    have:=i k (RQ.2 m);simpa[b,e] using this
   omega
  ·intro r k m;cases e:L3 inn k
   ·simp
   ·by_cases b:(c:Int)∈D5 g k
    ·have:=f.1 (by omega) k (RQ.1 m) e b;simp[b,this]
    ·simp[b]
 constructor
 ·rintro⟨⟨d,f⟩,l⟩;exact⟨o,d,f,(j d).1 l⟩
 ·rintro⟨_,d,f,l⟩;exact⟨⟨d,f⟩,(j d).2 l⟩
theorem OInv.fin{g:Graph}{b:List Bool}{d a:List Int}(h:OInv g b a.length 0 d [] a):sL g b a = -1 :=
 AT fun c e=>by
  cases f:s9 g b a c
  ·rfl
  ·have:=(h.ready e).1 f;cases this
theorem OInv.le{g:Graph}{b:List Bool}{k i:Nat}{e c a:List Int}(h:OInv g b k i e c a):a.length<=g.length/\c.length<=g.length :=
 ⟨j7 h.outn fun x d=>⟨(h.outr x d).1,(h.outr x d).2.1⟩,j7 h.hpn h.hpr⟩
theorem ES{l m:List Int}{n:Nat}(v:n+1=l.length)(q:SameL l m)(j:l.Nodup){x:Int}(r:J9 m n=x):(∀y,y∈m.take n↔y∈l/\y≠x)/\(m.take n).Nodup/\(m.take n).length=n:=by
 have s:m.length=n+1:=by rw[q.len,v]
 have i:=q.nodup j;have c:n<m.length:=by omega
 have e:m=m.take n++[x]:=by
  have f:m.take (n+1)=m:=SE (by omega);rw[List.take_add_one,RG c,Option.toList_some]at f;rw[U6 c]at r;rw[r]at f;exact f.symm
 have a:=i;rw[e,List.nodup_append]at a;refine⟨fun y=>?_,a.1,by rw[RV];omega⟩;rw[<-q.mem y];constructor
 ·intro b;exact⟨List.mem_of_mem_take b,a.2.2 y b x (by simp)⟩
 ·rintro⟨b,k⟩;rw[e]at b;rcases RL.1 b with b | b
  ·exact b
  ·exact absurd (List.mem_singleton.1 b) k
theorem OInv.pop{g:Graph}{m:List Bool}{B b f:List Int}(h:OInv g m f.length 0 B b f)(u:0<b.length) :
  sL g m f=J9 b 0/\OInv g m f.length 0 B ((xP (eI g) b).take (b.length-1)) (f++[J9 b 0])/\J9 (xP (eI g) b) (b.length-1)=J9 b 0:=by
 have z:J9 b 0∈b:=by rw[U6 u];exact RM u
 have K:=h.hpr _ z;obtain⟨c,q⟩:∃c:Nat,J9 b 0=c:=⟨(J9 b 0).toNat,by omega⟩
 have i:=(h.hpm c).1 (by rw[<-q];exact z);obtain⟨I,J,E⟩:=JX (eC g) h.heap u;obtain⟨A,t2,t3⟩:=ES (n:=b.length-1) (by omega) J h.hpn E;have hb:sL g m f=c:=ID i.1 ((h.ready i.1).2 (by rw[<-q];exact z)) fun d F v=>by
  obtain⟨j,r,e⟩:=List.getElem_of_mem ((h.ready F).1 v);have:=EQ (eC g) h.heap j r;rw[U6 r,e,q]at this;exact this
 refine⟨by rw[hb,q],?_,E⟩;rw[q]at A ⊢;refine⟨h.len,fun p b G=>?_,h.off,fun p=>?_,fun x l=>h.hpr x ((A x).1 l).1,t2,?_,?_,?_⟩
 ·have C:=h.cnt p b G;rw[List.take_zero,A5 (by simp)]at C ⊢;rw[l0 (Nat.le_refl _)];exact C
 ·rw[A,h.hpm,RL,List.mem_singleton,not_or];constructor
  ·rintro⟨⟨s,a2,a3,a4⟩,a5⟩;exact⟨s,a2,⟨a3,a5⟩,a4⟩
  ·rintro⟨s,a2,⟨a3,a5⟩,a4⟩;exact⟨⟨s,a2,a3,a4⟩,a5⟩
 ·rw[t3];intro k D w;have e:∀j,j<b.length-1->J9 ((xP (eI g) b).take (b.length-1)) j=J9 (xP (eI g) b) j:=fun j r=>by
   unfold J9;rw[List.getElem?_take,A4 r]
  rw[e k D,e _ (by omega)];exact I k D w
 ·exact List.nodup_append.2 ⟨h.outn,by simp,fun x l y H e=>by rw[List.mem_singleton.1 H]at e;exact i.2.2.1 (e ▸ l)⟩
 ·intro x l;rcases RL.1 l with l | l
  ·exact h.outr x l
  ·rw[List.mem_singleton.1 l,RI];exact⟨by omega,by omega,i.2.1,i.2.2.2⟩
theorem OInv.step{g:Graph}{inn:List Bool}(T:related g=true)(K:x6 g inn){k i:Nat}{o D b:List Int}(h:OInv g inn k i o D b)(W:k+1=b.length){c p:Nat}(A:b[k]?=some (c:Int))(H:i<(D5 g c).length)(u:(D5 g c)[i]=(p:Int)) :
  p<g.length/\1<=J9 o p/\J9 o p<=g.length/\D.length<g.length/\OInv g inn k (i+1) (Z4 o p) (if J9 o p-1=0 then xO (eI g) D p else D) b:=by
 have hkl:k<b.length:=by omega
 have A:b[k]=(c:Int):=by rw[RG hkl]at A;exact Option.some.inj A
 have hpr:=L1 T c;have hpm:(p:Int)∈D5 g c:=by rw[<-u];exact RM H
 have f:p<g.length:=by have:=hpr.1 p hpm;omega
 have B:=h.outr b[k] (RM hkl);rw[A,RI]at B;have E:c<g.length:=by omega
 have s:L3 inn p=true:=by have:=K c B.2.2.1 p hpm;rwa[RI]at this
 have C:b.getD k 0=(c:Int):=by rw[RR,RG hkl];exact A
 have N:(c:Int)∉b.take k:=by rw[<-A];exact R1 h.outn hkl
 have M:(p:Int)∉(D5 g c).take i:=by rw[<-u];exact R1 hpr.2 H
 have P:=h.cnt p f s;rw[C,RI,A5 M]at P;have Q:=sM (g:=g) (inn:=inn) (ex:=b.take k) (x:=c) (p:=p) N E B.2.2.1;rw[A4 hpm]at Q;have S:=JY g inn (b.take k) p;have L:1<=J9 o p:=by omega
 have m:(p:Int)∉b:=fun j=>by have:=(h.outr _ j).2.2.2;rw[RI]at this;omega
 have w:(p:Int)∉D:=fun j=>by have:=((h.hpm p).1 j).2.2.2;omega
 have v:∀q,J9 (Z4 o p) q=if p=q then J9 o p-1 else J9 o q:=fun q=>by
  unfold Z4;rw[RI,x7 (by rw[h.len];exact f)]
 have F:D.length<g.length:=by
  have:=j7 (l:=(c:Int)::D) (n:=g.length) (List.nodup_cons.2 ⟨fun j=>((h.hpm c).1 j).2.2.1 (by rw[<-A];exact RM hkl),h.hpn⟩) fun x d=>by
   rcases RN.1 d with rfl | d
   ·omega
   ·exact h.hpr x d
  rw[RJ]at this;omega
 obtain⟨V,G⟩:=xS (eC g) (p:Int) h.heap;refine⟨f,L,by omega,F,⟨by unfold Z4;rw[SU];exact h.len,?_,?_,?_,?_,?_,?_,h.outn,?_⟩⟩
 ·intro q O I;rw[C,RI,v q];by_cases e:p=q
  ·subst e;rw[A4 rfl,A4 ((P5 H).2 (.inr u.symm))];omega
  ·rw[A5 e];have z:=h.cnt q O I;rw[C,RI]at z;have R:((q:Int)∈(D5 g c).take (i+1))↔(q:Int)∈(D5 g c).take i:=by
    rw[P5 H,u];exact⟨fun h=>h.resolve_right (by omega),.inl⟩
   simp only[R];exact z
 ·intro q O I;rw[v q,A5 (fun e=>by rw[e,I]at s;cases s)];exact h.off q O I
 ·intro q;rw[v q];by_cases e:p=q
  ·subst e;rw[A4 rfl];split
   ·rename_i J;rw[G.mem];exact⟨fun _=>⟨f,s,m,J⟩,fun _=>by simp⟩
   ·rename_i J;exact⟨fun j=>absurd j w,fun j=>absurd j.2.2.2 J⟩
  ·rw[A5 e,<-h.hpm q];split
   ·rw[G.mem,RL,List.mem_singleton];exact⟨fun j=>j.resolve_right (by omega),.inl⟩
   ·exact Iff.rfl
 ·intro x d;split at d
  ·rw[G.mem,RL,List.mem_singleton]at d;rcases d with d | rfl
   ·exact h.hpr x d
   ·omega
  ·exact h.hpr x d
 ·split
  ·exact G.nodup (List.nodup_append.2 ⟨h.hpn,by simp,fun x d y U e=>by rw[List.mem_singleton.1 U]at e;exact w (e ▸ d)⟩)
  ·exact h.hpn
 ·split
  ·rw[G.len,RK,List.length_singleton];exact V
  ·exact h.heap
 ·intro x d;have z:=h.outr x d;refine⟨z.1,z.2.1,z.2.2.1,?_⟩;rw[v,A5 (fun e=>m (by rw[show ((p:Nat):Int)=x by omega];exact d))];exact z.2.2.2
theorem OInv.next{g:Graph}{inn:List Bool}{k:Nat}{m f a:List Int}(r:k+1=a.length){c:Nat}(b:a[k]?=some (c:Int))(h:OInv g inn k (D5 g c).length m f a):OInv g inn a.length 0 m f a:=by
 refine { h with cnt:=fun p f s=>?_ };have hkl:k<a.length:=by omega
 have b:a[k]=(c:Int):=by rw[RG hkl]at b;exact Option.some.inj b
 have o:=h.cnt p f s;have i:a.getD k 0=(c:Int):=by rw[RR,RG hkl];exact b
 have d:=h.outr a[k] (RM hkl);rw[b,RI]at d;rw[i,RI,RS]at o;have q:=sM (g:=g) (inn:=inn) (ex:=a.take k) (x:=c) (p:=p) (by rw[<-b];exact R1 h.outn hkl) (by omega) d.2.2.1;have e:a.take (k+1)=a.take k++[(c:Int)]:=by rw[List.take_add_one,RG hkl,Option.toList_some,b]
 rw[<-r,e,List.take_zero,A5 (by simp)];split at o
 ·rename_i j;rw[A4 j]at q;omega
 ·rename_i j;rw[A5 j]at q;omega
structure HInv (g:Graph) (ch hp:List Int) (i:Nat):Prop where
 mem:∀p:Nat,(p:Int)∈hp↔p<i/\J9 ch p=0
 rng:∀x∈hp,0<=x/\x<i
 nodup:hp.Nodup
 heap:jE (eI g) hp.length hp
theorem HInv.nil(g:Graph)(a:List Int):HInv g a [] 0:=⟨fun p=>by simp,(fun _ h=>by cases h),List.nodup_nil,fun k b=>by simp at b⟩
theorem HInv.le{g:Graph}{b a:List Int}{i:Nat}(h:HInv g b a i):a.length<=i:=j7 h.nodup h.rng
theorem HInv.step{g:Graph}{f k:List Int}{i:Nat}(h:HInv g f k i):HInv g f (if J9 f i=0 then xO (eI g) k (i:Int) else k) (i+1):=by
 obtain⟨o,d⟩:=xS (eC g) (i:Int) h.heap;split
 ·rename_i j;refine⟨fun p=>?_,fun x c=>?_,d.nodup (List.nodup_append.2 ⟨h.nodup,by simp,fun x c y m e=>by rw[List.mem_singleton.1 m]at e;have:=h.rng x c;omega⟩),by rw[d.len,RK,List.length_singleton];exact o⟩
  ·rw[d.mem,RL,List.mem_singleton,h.mem];constructor
   ·rintro (⟨a,b⟩ | e)
    ·exact⟨by omega,b⟩
    ·have e:p=i:=by omega
     subst e;exact⟨by omega,j⟩
   ·rintro⟨a,b⟩;by_cases e:p=i
    ·right;omega
    ·exact .inl ⟨by omega,b⟩
  ·rw[d.mem,RL,List.mem_singleton]at c;rcases c with c | rfl
   ·have:=h.rng x c;omega
   ·omega
 ·rename_i j;refine⟨fun p=>?_,fun x c=>by have:=h.rng x c;omega,h.nodup,h.heap⟩;rw[h.mem];constructor
  ·rintro⟨a,b⟩;exact⟨by omega,b⟩
  ·rintro⟨a,b⟩;refine⟨?_,b⟩;apply Classical.byContradiction;intro q;have:p=i:=by omega
   subst this;exact j b
def AU(g:Graph)(D:List Int)(p:Nat):Nat:=D.countP fun x=>decide ((p:Int)∈D5 g x.toNat)
structure DInv (g:Graph) (inn:List Bool) (st:List Int) (k i:Nat) (ch opn D:List Int):Prop where
 len:ch.length=g.length
 nodup:(D++opn).Nodup
 on:∀x∈D++opn,0<=x/\x<g.length/\L3 inn x.toNat=true
 cnt:∀p:Nat,(p:Int)∈D++opn->J9 ch p=AU g (D.take k) p+(if (p:Int)∈(D5 g (D.getD k 0).toNat).take i then 1 else 0)
 off:∀p,p<g.length->(p:Int)∉D++opn->J9 ch p = -1
 clo:∀x∈D.take k,∀p∈D5 g x.toNat,p∈D++opn
 clo2:∀p∈(D5 g (D.getD k 0).toNat).take i,p∈D++opn
 sts:∀f∈st,f∈D++opn
theorem DInv.start(g:Graph)(a:List Bool):DInv g a [] 0 0 (List.replicate g.length (-1)) [] [] where
 len:=by simp
 nodup:=List.nodup_nil
 on:=fun _ h=>by cases h
 cnt:=fun _ h=>by cases h
 off:=fun p b _=>by unfold J9;rw[List.getElem?_replicate,A4 b];rfl
 clo:=fun _ h=>by cases h
 clo2:=fun _ h=>by simp at h
 sts:=fun _ h=>by cases h
theorem DInv.le{g:Graph}{b:List Bool}{st:List Int}{k i:Nat}{d a D:List Int}(h:DInv g b st k i d a D):D.length+a.length<=g.length:=by
 have:=j7 h.nodup fun x c=>⟨(h.on x c).1,(h.on x c).2.1⟩
 rwa[RK]at this
theorem DInv.mem{g:Graph}{inn:List Bool}{st:List Int}{k i:Nat}{c a D:List Int}(h:DInv g inn st k i c a D){p:Nat}(e:p<g.length):J9 c p<0↔(p:Int)∉D++a:=by
 by_cases b:(p:Int)∈D++a
 ·have:=h.cnt p b;constructor
  ·intro f;split at this<;>omega
  ·exact fun d=>absurd b d
 ·have:=h.off p e b;exact⟨fun _=>b,fun _=>by omega⟩
theorem DInv.reach{g:Graph}{l:List Bool}{st:List Int}{k i:Nat}{m a D:List Int}(h:DInv g l st k i m a D)(_hk:k<=D.length){p:Nat}(s:p<g.length)(u:L3 l p=true)(st':List Int)(o:∀f∈st',f∈st\/f=p) :
  DInv g l st' k i (if J9 m p<0 then m.set p 0 else m) (if J9 m p<0 then a++[(p:Int)] else a) D/\(p:Int)∈D++(if J9 m p<0 then a++[(p:Int)] else a):=by
 split
 ·rename_i t;have j:=(h.mem s).1 t;refine⟨⟨by rw[SU];exact h.len,?_,?_,?_,?_,?_,?_,?_⟩,by simp⟩
  ·rw[<-RT];exact List.nodup_append.2 ⟨h.nodup,by simp,fun x c y v e=>by rw[List.mem_singleton.1 v]at e;exact j (e ▸ c)⟩
  ·intro x c;rw[<-RT]at c;rcases RL.1 c with c | c
   ·exact h.on x c
   ·rw[List.mem_singleton.1 c,RI];exact⟨by omega,by omega,u⟩
  ·intro q b;rw[x7 (by rw[h.len];exact s)];by_cases e:p=q
   ·subst e;rw[A4 rfl,A5 (fun n=>j (h.clo2 _ n))];have:AU g (D.take k) p=0:=by
     unfold AU;rw[List.countP_eq_zero];intro x c n;exact j (h.clo x c _ (A0 n))
    rw[this];rfl
   ·rw[A5 e];rw[<-RT]at b;rcases RL.1 b with b | b
    ·exact h.cnt q b
    ·exact absurd (List.mem_singleton.1 b) (by omega)
  ·intro q b r;rw[<-RT,RL,not_or,List.mem_singleton]at r;rw[x7 (by rw[h.len];exact s),A5 (by omega)];exact h.off q b r.1
  ·intro x c q b;rw[<-RT];exact List.mem_append_left _ (h.clo x c q b)
  ·intro q b;rw[<-RT];exact List.mem_append_left _ (h.clo2 q b)
  ·intro f d;rw[<-RT];rcases o f d with d | rfl
   ·exact List.mem_append_left _ (h.sts f d)
   ·simp
 ·rename_i t;have n:(p:Int)∈D++a:=by
   apply Classical.byContradiction;intro r;exact t ((h.mem s).2 r)
  refine⟨{ h with sts:=fun f d=>?_ },n⟩;rcases o f d with d | rfl
  ·exact h.sts f d
  ·exact n
theorem DInv.count{g:Graph}{v:List Bool}{st:List Int}{k i:Nat}{f j D:List Int}(h:DInv g v st k i f j D){c p:Nat}(G:related g=true)(m:D.getD k 0=(c:Int))(o:i<(D5 g c).length)(b:(D5 g c)[i]=(p:Int))(w:(p:Int)∈D++j) :
  0<=J9 f p/\J9 f p<=g.length/\DInv g v st k (i+1) (bump f p) j D:=by
 have hpr:=L1 G c;have s:p<g.length:=by have:=hpr.1 p (by rw[<-b];exact RM o);omega
 have B:=h.cnt p w;have y:(p:Int)∉(D5 g c).take i:=by rw[<-b];exact R1 hpr.2 o
 rw[m,RI,A5 y]at B;have F:AU g (D.take k) p<=g.length:=by
  unfold AU;have C:=List.countP_le_length (p:=fun x:Int=>decide ((p:Int)∈D5 g x.toNat)) (l:=D.take k);rw[RV]at C;have:=h.le;omega
 have u:∀q,J9 (bump f p) q=if p=q then J9 f p+1 else J9 f q:=fun q=>by
  unfold bump;rw[RI,x7 (by rw[h.len];exact s)]
 refine⟨by omega,by omega,{ h with len:=by unfold bump;rw[SU];exact h.len,cnt:=fun q d=>?_,off:=fun q d A=>?_,clo2:=fun q d=>?_ }⟩
 ·rw[u q,m,RI];by_cases e:p=q
  ·subst e;rw[A4 rfl,A4 ((P5 o).2 (.inr b.symm))];omega
  ·rw[A5 e];have z:=h.cnt q d;rw[m,RI]at z;have E:((q:Int)∈(D5 g c).take (i+1))↔(q:Int)∈(D5 g c).take i:=by
    rw[P5 o,b];exact⟨fun h=>h.resolve_right (by omega),.inl⟩
   simp only[E];exact z
 ·rw[u q,A5 (show ¬p=q from fun e=>A (by rw[<-e];exact w))];exact h.off q d A
 ·rw[m,RI]at d;rcases (P5 o).1 d with d | rfl
  ·exact h.clo2 q (by rw[m,RI];exact d)
  ·rw[b];exact w
theorem DInv.pop{g:Graph}{s:List Bool}{st:List Int}{u d D:List Int}{c:Int}(h:DInv g s st D.length 0 u (d++[c]) D):DInv g s st D.length 0 u d (D++[c]):=by
 have b:∀x,x∈(D++[c])++d↔x∈D++(d++[c]):=fun x=>by
  simp only[RL,List.mem_singleton];constructor
  ·rintro ((h | h) | h)
   ·exact .inl h
   ·exact .inr (.inr h)
   ·exact .inr (.inl h)
  ·rintro (h | h | h)
   ·exact .inl (.inl h)
   ·exact .inr h
   ·exact .inl (.inr h)
 have v:(D++[c]).take D.length=D:=by rw[l0 (Nat.le_refl _),RS]
 refine⟨h.len,?_,fun x m=>h.on x ((b x).1 m),fun p o=>?_,fun p o A=>h.off p o fun z=>A ((b _).2 z),fun x m p o=>?_,fun p o=>by simp at o,fun f w=>(b f).2 (h.sts f w)⟩
 ·have j:=h.nodup;rw[List.nodup_append,List.nodup_append]at j;rw[RT,List.nodup_append,List.nodup_append];refine⟨j.1,⟨by simp,j.2.1.1,fun x m y q e=>?_⟩,fun x m y q=>?_⟩
  ·exact j.2.1.2.2 y q x m e.symm
  ·refine j.2.2 x m y ?_;rcases RL.1 q with q | q
   ·exact List.mem_append_right _ q
   ·exact List.mem_append_left _ q
 ·have j:=h.cnt p ((b _).1 o);rw[List.take_zero,A5 (by simp),RS]at j;rw[v,List.take_zero,A5 (by simp)];exact j
 ·rw[v]at m;exact (b p).2 (h.clo x (by rw[RS];exact m) p o)
theorem DInv.next{g:Graph}{inn:List Bool}{st:List Int}{k:Nat}{j d D:List Int}{c:Nat}(o:k+1=D.length)(f:D.getD k 0=(c:Int))(h:DInv g inn st k (D5 g c).length j d D):DInv g inn st D.length 0 j d D:=by
 have hkl:k<D.length:=by omega
 have i:D[k]?=some (c:Int):=by
  rw[RR,RG hkl]at f;rw[RG hkl];exact congrArg some f
 have e:D.take D.length=D.take k++[(c:Int)]:=by rw[<-o,List.take_add_one,i,Option.toList_some]
 refine { h with cnt:=fun p a=>?_,clo:=fun x b p a=>?_,clo2:=fun p a=>by simp at a }
 ·have m:=h.cnt p a;rw[f,RI,RS]at m;rw[List.take_zero,A5 (show ¬(p:Int)∈([]:List Int) by simp),m,e];unfold AU;rw[List.countP_append,List.countP_singleton,RI];by_cases q:(p:Int)∈D5 g c<;>simp[q]
 ·rw[e]at b;rcases RL.1 b with b | b
  ·exact h.clo x b p a
  ·rw[List.mem_singleton.1 b,RI]at a;exact h.clo2 p (by rw[f,RI,RS];exact a)
theorem xT{q:Int->Bool}{l m:List Int}(b:l.Nodup)(d:m.Nodup)(h:∀x,x∈l↔x∈m):l.countP q=m.countP q:=by
 rw[List.countP_eq_length_filter,List.countP_eq_length_filter];have a:∀{l m:List Int},l.Nodup->(∀x,x∈l↔x∈m)->(l.filter q).length<=(m.filter q).length:=fun b h =>
  dY (b.filter _) fun x c=>by
   rw[List.mem_filter]at c ⊢;exact⟨(h x).1 c.1,c.2⟩
 have f:=a b h;have i:=a d fun x=>(h x).symm;omega
theorem DInv.fin{g:Graph}{s z D:List Int}(I:related g=true)(J:∀f∈s,0<=f/\f<g.length)(h:DInv g (Z3 g s) s D.length 0 z [] D) :
  ∀p,p<g.length->J9 z p=if L3 (Z3 g s) p=true then (mD g (Z3 g s) [] p:Int) else -1:=by
 have b:∀p:Nat,L3 (Z3 g s) p=true↔(p:Int)∈D:=by
  intro p;constructor
  ·intro j;obtain⟨f,F,d⟩:=(kQ I J p).1 j;clear j;have A:(f:Int)∈D:=by simpa using h.sts f F
   have v:∀x:Nat,(x:Int)∈D->∀q:Nat,(q:Int)∈D5 g x->(q:Int)∈D:=fun x k q H=>by
    have:=h.clo x (by rw[RS];exact k) q (by rw[RI];exact H);simpa using this
   rcases d with rfl | d
   ·exact A
   ·induction d with
    | one h=>exact v _ A _ h
    | more _ d K=>exact v _ K _ d
  ·intro w;have:=(h.on p (by simpa using w)).2.2
   rwa[RI]at this
 intro p G;split
 ·rename_i j;have B:=h.cnt p (by simpa using (b p).1 j);rw[RS,List.take_zero,A5 (by simp)]at B;rw[B,Int.add_zero]
  congr 1
  have C:D.Nodup:=by have:=h.nodup;rwa[SJ]at this
  have d:∀x∈D,0<=x/\x<g.length:=fun x k=>by
   have:=h.on x (by simpa using k);exact⟨this.1,this.2.1⟩
  unfold AU mD;have e:(List.range g.length).countP (fun c=>L3 (Z3 g s) c&&decide ((c:Int)∉([]:List Int)/\(p:Int)∈D5 g c))=(((List.range g.length).filter fun c=>L3 (Z3 g s) c).map fun c:Nat=>(c:Int)).countP fun x=>decide ((p:Int)∈D5 g x.toNat):=by
   rw[List.countP_map,List.countP_filter];refine List.countP_congr fun c _=>?_;simp only[TG,not_false_eq_true,true_and,Function.comp_def,RI,RH,decide_eq_true_eq];exact And.comm
  rw[e];refine xT C ((List.nodup_range.filter _).map (fun i:Nat=>(i:Int)) fun _ _ y e=>y (Int.ofNat.inj e)) fun x=>?_;rw[SF];constructor
  ·intro k;have:=d x k;refine⟨x.toNat,List.mem_filter.2 ⟨RQ.2 (by omega),(b _).2 (by rw[Int.toNat_of_nonneg this.1];exact k)⟩,by omega⟩
  ·rintro⟨c,E,rfl⟩;exact (b c).1 (List.mem_filter.1 E).2
 ·rename_i j;exact h.off p G fun w=>j ((b p).2 (by simpa using w))
theorem OInv.start{g:Graph}{c:List Bool}{f d:List Int}(j:f.length=g.length)(_hin:c.length=g.length)(i:∀p,p<g.length->J9 f p=if L3 c p=true then (mD g c [] p:Int) else -1)(h:HInv g f d g.length):OInv g c 0 0 f d [] where
 len:=j
 cnt:=fun p d e=>by rw[i p d,A4 e,List.take_zero,List.take_zero];simp
 off:=fun p d e=>by rw[i p d,e];rfl
 hpm:=fun p=>by
  rw[h.mem];constructor
  ·rintro⟨a,b⟩;refine⟨a,?_,by simp,b⟩;cases e:L3 c p
   ·rw[i p a,e]at b;simp at b
   ·rfl
  ·rintro⟨a,_,_,b⟩;exact⟨a,b⟩
 hpr:=h.rng
 hpn:=h.nodup
 heap:=h.heap
 outn:=List.nodup_nil
 outr:=fun _ h=>by cases h
def F5(g:Graph)(c:Nat):List File:=(g[c]?.map (·.Files)).getD []
def eD(g:Graph)(c:Nat):List (List File):=if D5 g c=[] then [[]] else (D5 g c).map fun p=>F5 g p.toNat
def bN(l:List File)(p:Str):Str:=(H1 l p).getD []
def l3(g:Graph)(c:Int):Prop:=0<=c/\c<g.length
instance (g:Graph) (c:Int):Decidable (l3 g c):=inferInstanceAs (Decidable (_/\_))
def z1(g:Graph)(c:Int):Int:=if O6 g≠0 then O6 g else if l3 g c then 0 else 5
section
structure Set4 where
 a:Int
 b:Int
 c:Int
 d:Int
 deriving DecidableEq
def PH(x y:Int):Int:=((x.toNat ||| y.toNat:Nat):Int)
def set0:Set4:=⟨0,0,0,0⟩
def Set4.with_(s:Set4)(c:Nat):Set4:=match c / 64 with
 | 0=>{ s with a:=PH s.a (2 ^ (c % 64)) }
 | 1=>{ s with b:=PH s.b (2 ^ (c % 64)) }
 | 2=>{ s with c:=PH s.c (2 ^ (c % 64)) }
 | _=>{ s with d:=PH s.d (2 ^ (c % 64)) }
def sN:Nat->Nat->Set4->Set4
 | 0,_,s=>s
 | n+1,c,s=>sN n (c+1) (s.with_ c)
def Set4.through(s:Set4)(a b:Nat):Set4:=sN (b+1-a) a s
def Set4.compl(s:Set4):Set4:=⟨18446744073709551615-s.a,18446744073709551615-s.b,18446744073709551615-s.c,18446744073709551615-s.d⟩
def MC(s:Set4)(name:Str):Option Set4 :=
 if name=[97,108,112,104,97] then some ((s.through 97 122).through 65 90)
 else if name=[100,105,103,105,116] then some (s.through 48 57)
 else if name=[97,108,110,117,109] then some (((s.through 97 122).through 65 90).through 48 57)
 else if name=[117,112,112,101,114] then some (s.through 65 90)
 else if name=[108,111,119,101,114] then some (s.through 97 122)
 else if name=[115,112,97,99,101] then some ((s.through 9 13).with_ 32)
 else if name=[112,117,110,99,116] then some ((((s.through 33 47).through 58 64).through 91 96).through 123 126)
 else none
structure Node where
 Kind:Int
 Set:Set4
 Min:Int
 Max:Int
 Kids:List Int
 deriving DecidableEq
def sO:Node:=⟨0,set0,0,0,[]⟩
structure PSt where
 at_:Nat
 depth:Nat
 nodes:List Node
abbrev Ps(α:Type):=Except Int (PSt×α)
section
variable (s:Str)
def pR(c:UInt8)(st:PSt):Bool:=decide (s[st.at_]?=some c)
def PSt.skip(st:PSt)(n:Nat):PSt:={ st with at_:=st.at_+n }
def OP(c:UInt8)(st:PSt):PSt:=if pR s c st=true then st.skip 1 else st
def OQ(st:PSt):Ps UInt8:=match s[st.at_]? with
 | none=>.error 40
 | some c=>.ok (st.skip 1,c)
def IE(n:Node)(st:PSt):PSt×Int:=({ st with nodes:=st.nodes++[n] },st.nodes.length)
def AV(a:Int)(kids:List Int)(st:PSt):PSt×Int:=match kids with
 | []=>IE sO st
 | [k]=>(st,k)
 | _=>IE { sO with Kind:=a,Kids:=kids } st
def MD(t:Set4)(st:PSt):PSt×Int:=IE { sO with Kind:=1,Set:=t } st
def JZ(a b:UInt8)(l:Str):Bool:=decide (l[0]?=some a/\l[1]?=some b)
def KW(t:Set4)(st:PSt):Ps Set4 :=
 let rest:=s.drop st.at_
 if JZ 91 58 rest=true then
  let r:=rest.drop 2
  if Lib.index r [58,93]<0 then .error 40
  else match MC t (r.take (Lib.index r [58,93]).toNat) with
   | none=>.error 40
   | some b=>.ok (st.skip (4+(Lib.index r [58,93]).toNat),b)
 else match s[st.at_]? with
  | none=>.error 40
  | some c =>
   let r:=s.drop (st.at_+1)
   if r.length<2\/r[0]?≠some 45\/r[1]?=some 93 then .ok (st.skip 1,t.with_ c.toNat)
   else if (r.getD 1 0).toNat<c.toNat then .error 40
   else .ok (st.skip 3,t.through c.toNat (r.getD 1 0).toNat)
def IF:Nat->Set4->PSt->Ps Set4
 | 0,_,_=>.error 0
 | f+1,t,st=>if pR s 93 st=true then .ok (st.skip 1,t) else match KW s t st with
  | .error e=>.error e
  | .ok (st',t')=>IF f t' st'
def ME(f:Nat)(st:PSt):Ps Int :=
 let a:=st.skip 1;let b:=OP s 94 a
 match KW s set0 b with
 | .error e=>.error e
 | .ok (st3,t)=>match IF s f t st3 with
  | .error e=>.error e
  | .ok (st4,t')=>.ok (MD (if pR s 94 a=true then t'.compl else t') st4)
def CL(a:Int)(st:PSt):Ps Int :=
 let r:=IE { sO with Kind:=a } (st.skip 1)
 match s[r.1.at_]? with
 | some c=>if c∈([42,43,63,123]:Str) then .error 40 else .ok r
 | none=>.ok r
def OS(a:Str->Nat->Option (Int×Nat))(st:PSt):Ps Int:=match a s st.at_ with
 | none=>.error 40
 | some (n,e)=>if n>100 then .error 40 else .ok ({ st with at_:=e },n)
def KA(d:Str->Nat->Option (Int×Nat))(st:PSt):Ps (Int×Int):=match OS s d st with
 | .error e=>.error e
 | .ok (st1,least) =>
  let fin:=fun (st:PSt) (a:Int)=>(if pR s 125 st=false\/(0<=a/\a<least) then .error 40 else .ok (st.skip 1,(least,a)):Ps (Int×Int))
  if pR s 44 st1=true then
   let b:=st1.skip 1
   match s[b.at_]? with
   | none=>fin b (-1)
   | some c=>if c=125 then fin b (-1) else match OS s d b with
    | .error e=>.error e
    | .ok (st3,a)=>fin st3 a
  else fin st1 least
def MF(a:Str->Nat->Option (Int×Nat))(st:PSt):Ps (Option (Int×Int)) :=
 if pR s 42 st=true then .ok (st.skip 1,some (0,-1))
 else if pR s 43 st=true then .ok (st.skip 1,some (1,-1))
 else if pR s 63 st=true then .ok (st.skip 1,some (0,1))
 else if pR s 123 st=true then match KA s a (st.skip 1) with
  | .error e=>.error e
  | .ok (st',b)=>.ok (st',some b)
 else .ok (st,none)
def CM(st:PSt):Ps Int:=match OQ s st with
 | .error e=>.error e
 | .ok (st',c)=>.ok (MD (set0.with_ c.toNat) st')
def KB(st:PSt):Ps Int:=CM s (st.skip 1)
def PX(st:PSt):PSt×Int:=MD set0.compl (st.skip 1)
def jF(a:Str->Nat->Option (Int×Nat))(r:Ps Int):Ps Int:=match r with
 | .error e=>.error e
 | .ok (st,atom)=>match MF s a st with
  | .error e=>.error e
  | .ok (st',none)=>.ok (st',atom)
  | .ok (st',some (least,most))=>.ok (IE { sO with Kind:=6,Min:=least,Max:=most,Kids:=[atom] } st')
mutual
def PY(a:Str->Nat->Option (Int×Nat)):Nat->PSt->Ps Int
 | 0,_=>.error 0
 | f+1,st=>match MH a f st [] with
  | .error e=>.error e
  | .ok (st',k)=>CN a f st' [k]
def CN(a:Str->Nat->Option (Int×Nat)):Nat->PSt->List Int->Ps Int
 | 0,_,_=>.error 0
 | f+1,st,kids=>if pR s 124 st=true then match MH a f (st.skip 1) [] with
   | .error e=>.error e
   | .ok (st',k)=>CN a f st' (kids++[k])
  else .ok (AV 5 kids st)
def MH(a:Str->Nat->Option (Int×Nat)):Nat->PSt->List Int->Ps Int
 | 0,_,_=>.error 0
 | f+1,st,kids=>match s[st.at_]? with
  | none=>.ok (AV 4 kids st)
  | some c=>if c=124\/c=41 then .ok (AV 4 kids st) else match MI a f st c with
   | .error e=>.error e
   | .ok (st',k)=>MH a f st' (kids++[k])
def MI(a:Str->Nat->Option (Int×Nat)):Nat->PSt->UInt8->Ps Int
 | 0,_,_=>.error 0
 | f+1,st,c =>
  if c=94 then CL s 2 st
  else if c=36 then CL s 3 st
  else if c=40 then jF s a (MJ a f st)
  else if c=91 then jF s a (ME s (s.length+2) st)
  else if c=46 then jF s a (.ok (PX st))
  else if c=92 then jF s a (KB s st)
  else if c∈([42,43,63,123]:Str) then .error 40
  else jF s a (CM s st)
def MJ(a:Str->Nat->Option (Int×Nat)):Nat->PSt->Ps Int
 | 0,_=>.error 0
 | f+1,st=>if st.depth=50 then .error 1 else match PY a f { st with at_:=st.at_+1,depth:=st.depth+1 } with
  | .error e=>.error e
  | .ok (st',n)=>if pR s 41 st'=true then .ok ({ st' with at_:=st'.at_+1,depth:=st'.depth-1 },n) else .error 40
end
end
structure State where
 Kind:Int
 Set:Set4
 Next:Int
 Other:Int
 deriving DecidableEq
structure Auto where
 States:List State
 Start:Int
 deriving DecidableEq
def bO:State:=⟨0,set0,0,0⟩
abbrev Bld:=List State×Int
def MK(q:State)(st:List State):Bld:=(st++[q],st.length)
section
variable (ns:List Node) (w:List Int)
mutual
def kS:Nat->Int->Int->List State->Option Bld
 | 0,_,_,_=>none
 | f + 1,i,next,st =>
  if J9 w i.toNat=0 then some (st,next)
  else
   let n:=ns.getD i.toNat sO
   if n.Kind=1 then some (MK { bO with Kind:=0,Set:=n.Set,Next:=next } st)
   else if n.Kind=2 then some (MK { bO with Kind:=2,Next:=next } st)
   else if n.Kind=3 then some (MK { bO with Kind:=3,Next:=next } st)
   else if n.Kind=4 then OT f n.Kids.reverse next st
   else if n.Kind=5 then match n.Kids.reverse with
    | []=>none
    | k::r=>match kS f k next st with
     | none=>none
     | some (st',start)=>OU f r next start st'
   else if n.Kind=6 then
    let c:=n.Kids.getD 0 0
    if n.Max<0 then
     let b:Int:=st.length
     match kS f c b (st++[{ bO with Kind:=1,Other:=next }]) with
     | none=>none
     | some (st',start)=>ML f c n.Min.toNat b (st'.set b.toNat { (st'.getD b.toNat bO) with Next:=start })
    else match OV f c (n.Max-n.Min).toNat next next st with
     | none=>none
     | some (st',next')=>ML f c n.Min.toNat next' st'
   else some (st,next)
def OT:Nat->List Int->Int->List State->Option Bld
 | 0,_,_,_=>none
 | _+1,[],next,st=>some (st,next)
 | f+1,k::r,next,st=>match kS f k next st with
  | none=>none
  | some (st',next')=>OT f r next' st'
def OU:Nat->List Int->Int->Int->List State->Option Bld
 | 0,_,_,_,_=>none
 | _+1,[],_,start,st=>some (st,start)
 | f+1,k::r,next,start,st=>match kS f k next st with
  | none=>none
  | some (st',b)=>OU f r next st'.length (st'++[{ bO with Kind:=1,Next:=b,Other:=start }])
def OV:Nat->Int->Nat->Int->Int->List State->Option Bld
 | 0,_,_,_,_,_=>none
 | _+1,_,0,_,next,st=>some (st,next)
 | f+1,kid,m+1,last,next,st=>match kS f kid next st with
  | none=>none
  | some (st',b)=>OV f kid m last st'.length (st'++[{ bO with Kind:=1,Next:=b,Other:=last }])
def ML:Nat->Int->Nat->Int->List State->Option Bld
 | 0,_,_,_,_=>none
 | _+1,_,0,next,st=>some (st,next)
 | f+1,kid,m+1,next,st=>match kS f kid next st with
  | none=>none
  | some (st',next')=>ML f kid m next' st'
end
end
end
def CO(q:State)(start fin:Bool):List Int :=
 if q.Kind=1 then [q.Next,q.Other] else if q.Kind=2 then (if start=true then [q.Next] else []) else if q.Kind=3 then (if fin=true then [q.Next] else []) else []
def sP(n:Int)(q:State):Bool :=
 if q.Kind=0\/q.Kind=2\/q.Kind=3 then decide (0<=q.Next/\q.Next<n)
 else if q.Kind=1 then decide (0<=q.Next/\q.Next<n/\0<=q.Other/\q.Other<n)
 else decide (q.Kind=4)
def IG(a:Auto):Int:=if a.States.length<1\/a.States.length>8000\/a.Start<0\/a.Start>=a.States.length then 2 else if a.States.all (sP a.States.length)=true then 0 else 2
structure Thread where
 state:Int
 from_:Int
 deriving DecidableEq
abbrev Mach:=List Thread×List Bool
section
variable (a:Auto) (s:Str)
def jG(i:Int):State:=a.States.getD i.toNat bO
def IH(q:Set4)(c:Nat):Int:=match c / 64 with
 | 0=>q.a.fdiv (2 ^ (c % 64)) % 2
 | 1=>q.b.fdiv (2 ^ (c % 64)) % 2
 | 2=>q.c.fdiv (2 ^ (c % 64)) % 2
 | _=>q.d.fdiv (2 ^ (c % 64)) % 2
def xU(fr:Int):List Thread->List Thread
 | []=>[]
 | t::r=>if t.from_>fr then [] else t::xU fr r
end
def dO(s:Str):Str:=Lib.trimSuffix s [10]
def pS(s:Str):List Str×Int:=if 65536<s.length then ([],1) else if (N6 s).2≠0\/100<(N6 s).1.length then ([],1) else ((N6 s).1.map dO,0)
def x8(P:List Str)(i:Nat):List Str:=(P.take i).map dO++P.drop i
theorem ET(P:List Str)(i:Nat):(x8 P i).length=P.length:=by
 unfold x8;rw[RK,SM,<-RK,SW]
theorem EU{P:List Str}{i:Nat}(h:i<P.length):(x8 P i)[i]?=some P[i]:=by
 unfold x8;rw[RZ (by rw[SM,RV];omega),SM,RV,Nat.min_eq_left (by omega),TE,SO,Nat.add_zero];exact RG h
theorem EV{P:List Str}{i:Nat}(h:i<P.length):(x8 P i).set i (dO P[i])=x8 P (i+1):=by
 unfold x8;rw[List.set_append_right _ _ (by rw[SM,RV];omega),SM,RV,Nat.min_eq_left (by omega),TE,RO h,List.set_cons_zero,List.take_add_one,RG h,Option.toList_some,SN,RT];rfl
theorem EW(P:List Str):x8 P P.length=P.map dO:=by
 unfold x8;rw[RS,List.drop_length,SJ]
theorem AW(P:List Str):x8 P 0=P:=by simp[x8]
abbrev names4:List Str:=[[97],[98,47,120],[98,47,121],[99,32,100]]
theorem names4_asc:names4.Pairwise (fun x y=>mC x y=true):=by decide
theorem xV:∀p∈names4,X7 p=0/\p.length<=3:=by decide
theorem uT:∀p∈names4,∀q∈names4,above p q=false:=by decide
def NoDig(b:Str):Prop:=∀c∈b,c.toNat<48\/57<c.toNat
theorem NoDig.app{a b:Str}(ha:NoDig a)(hb:NoDig b):NoDig (a++b):=fun c d=>(RL.1 d).elim (ha c) (hb c)
theorem NoDig.sub{a b:Str}(h:NoDig b)(e:∀c∈a,c∈b):NoDig a:=fun c d=>h c (e c d)
structure GN (L:Nat) (l:List File):Prop where
 sub:(l.map (·.Path)).Sublist names4
 cnt:∀f∈l,f.Blob.count 10<=L
 dig:∀f∈l,NoDig f.Blob
theorem GN.name{L:Nat}{l:List File}(h:GN L l):∀f∈l,f.Path∈names4:=fun _ a=>h.sub.subset (List.mem_map_of_mem a)
theorem GN.mono{L L':Nat}{l:List File}(h:GN L l)(a:L<=L'):GN L' l:=⟨h.sub,fun f b=>Nat.le_trans (h.cnt f b) a,h.dig⟩
theorem sQ:∀{l:List File},PS (l.map (·.Path))->ascend l=true
 | [],_=>rfl
 | [_],_=>rfl
 | f::g::r,h=>by
  rw[RW]at h;have b:=List.pairwise_cons.1 h;unfold ascend;rw[b.1 g.Path (by simp),sQ b.2];rfl
theorem GN.asc{L:Nat}{l:List File}(h:GN L l):ascend l=true:=sQ (names4_asc.sublist h.sub)
theorem GN.tree{L:Nat}{l:List File}(h:GN L l)(o:L+1<=4096)(i:∀f∈l,f.Blob.length<=1048576):I1 l=0:=by
 have d:l.length<=4:=by have:=h.sub.length_le;simpa using this
 unfold I1
 rw[A5 (by omega),A5 (fun a=>by
  obtain⟨f,b,c⟩:=List.any_eq_true.1 a
  exact A0 c (xV _ (h.name f b)).1),A5 (fun a=>by
  rw[fY h.asc fun x j y k=>uT _ (h.name x j) _ (h.name y k)]at a;cases a),A5 (fun a=>by
  obtain⟨f,b,c⟩:=List.any_eq_true.1 a;refine A0 c ?_;unfold U4;have m:=h.cnt f b;have n:=i f b;have e:=y6 f.Blob;rw[A5];rintro (g | g)
  ·omega
  ·split at e<;>omega)]
theorem xW{n:Int}:∀{ps a:List Int},(∀p∈ps,0<=p/\p<n/\p∉a)->ps.Nodup->dK n a ps=true
 | [],_,_,_=>rfl
 | p::r,a,h,hn=>by
  have e:=List.nodup_cons.1 hn;unfold dK;rw[A2 (h p (by simp)),Bool.true_and];refine xW (fun q d=>?_) e.2;have c:=h q (by simp[d]);refine⟨c.1,c.2.1,fun b=>?_⟩;rcases RL.1 b with b | b
  ·exact c.2.2 b
  ·rw[List.mem_singleton.1 b]at d;exact e.1 d
def OneWay(g:Graph):Prop:=(∀c p:Nat,(p:Int)∈D5 g c->p<c)\/(∀c p:Nat,(p:Int)∈D5 g c->c<p)
theorem OneWay.acyc{g:Graph}(h:OneWay g)(c:Nat):¬Reaches g c c:=by
 rcases h with h | h
 ·have f:∀{a b:Nat},Reaches g a b->b<a:=fun {a b} e=>by
   induction e with
   | one d=>exact h _ _ d
   | more _ d i=>have:=h _ _ d;omega
  exact fun e=>Nat.lt_irrefl _ (f e)
 ·have f:∀{a b:Nat},Reaches g a b->a<b:=fun {a b} e=>by
   induction e with
   | one d=>exact h _ _ d
   | more _ d i=>have:=h _ _ d;omega
  exact fun e=>Nat.lt_irrefl _ (f e)
theorem lU:∀{g:List Commit},(∀c∈g,I1 c.Files=0)->T9 g=0
 | [],_=>rfl
 | c::r,h=>by
  unfold T9;rw[A5 (fun a=>a (h c (by simp)))];exact lU fun d b=>h d (by simp[b])
structure GV (g:Graph):Prop where
 len:g.length<=16
 pars:∀c∈g,c.Parents.length<=3/\(∀p∈c.Parents,0<=p/\p<(g.length:Int))/\c.Parents.Nodup/\0<=c.Date/\c.Date<=5
 way:OneWay g
 files:∀c∈g,GN 2111 c.Files/\∀f∈c.Files,f.Blob.length<=1048576
theorem GV.check{g:Graph}(h:GV g):O6 g=0:=by
 have l:related g=true:=by
  unfold related;rw[List.all_eq_true];exact fun c a=>xW (fun p k=>⟨((h.pars c a).2.1 p k).1,((h.pars c a).2.1 p k).2,by simp⟩) (h.pars c a).2.2.1
 have j:¬cyclic g=true:=fun d=>by
  obtain⟨c,a⟩:=(bM l).1 d;exact h.way.acyc c a
 have m:=h.len;have b:Z5 g=true:=by
  unfold Z5;rw[A2 (by omega),Bool.true_and];cases ha:g.any fun c=>decide (c.Parents.length>32)
  ·rfl
  obtain⟨c,a,f⟩:=List.any_eq_true.1 ha;have:=A0 f;have:=(h.pars c a).1;omega
 have i:¬jD g=true:=fun d=>by
  obtain⟨c,a,f⟩:=List.any_eq_true.1 d;have:=A0 f;have:=(h.pars c a).2.2.2;omega
 unfold O6;rw[b,l,A5 (by simp),A5 (by simp),A5 j,A5 i];exact lU fun c a=>(h.files c a).1.tree (by omega) (h.files c a).2
structure Backs (want x:Str) (l:List Patch) (f:Nat->Str):Prop where
 z:f 0=want
 e:f l.length=x
 st:∀k (h:k<l.length),IM l[k].Hunks<=134217728/\(f (k+1)).length<=1048576/\CB l[k] (f (k+1))=(f k,0)
theorem Backs.snoc{a x y:Str}{l:List Patch}{f:Nat->Str}(h:Backs a x l f){p:Patch}(j:IM p.Hunks<=134217728)(i:y.length<=1048576)(ha:CB p y=(x,0)) :
  Backs a y (l++[p]) (fun k=>if k<=l.length then f k else y):=by
 refine⟨?_,?_,?_⟩
 ·rw[A4 (Nat.zero_le _)];exact h.z
 ·rw[A5 (by simp)]
 ·intro k d;have g:k<l.length+1:=by simpa using d
  by_cases b:k<l.length
  ·rw[A4 (by omega),A4 (by omega),TB b];exact h.st k b
  ·have c:k=l.length:=by omega
   subst c;rw[A5 (by omega),A4 (Nat.le_refl _),TA (Nat.le_refl _),h.e];simp only[TE,List.getElem_cons_zero];exact⟨j,i,ha⟩
theorem kT:∀(b a:Str),(F8 a b).length<=b.count 10+1
 | [],a=>by unfold F8;split<;>simp
 | c::r,a=>by
  unfold F8;rw[List.count_cons];split
  ·rename_i h;have:=kT r [];simp only[RJ];have d:(c == 10)=true:=by simpa using h
   rw[A4 d];omega
  ·have:=kT r (a++[c]);omega
theorem AX(b:Str):(D8 b).length<=b.count 10+1:=kT b []
def InWay(g:Graph)(c n:Nat):Prop:=((∀c p:Nat,(p:Int)∈D5 g c->p<c)/\c+n<g.length)\/((∀c p:Nat,(p:Int)∈D5 g c->c<p)/\n<=c)
theorem InWay.step{g:Graph}{c n p:Nat}(h:InWay g c n)(b:(p:Int)∈D5 g c):InWay g p (n+1):=by
 rcases h with ⟨a,d⟩ | ⟨a,d⟩
 ·have:=a c p b;exact .inl ⟨a,by omega⟩
 ·have:=a c p b;exact .inr ⟨a,by omega⟩
theorem InWay.lt{g:Graph}{c n:Nat}(h:InWay g c n)(b:c<g.length):n<g.length:=by
 rcases h with ⟨_,a⟩ | ⟨_,a⟩<;>omega
structure GB (g:Graph):Prop where
 len:g.length<=16
 pars:∀c∈g,c.Parents.length<=3/\∀p∈c.Parents,0<=p/\p<(g.length:Int)
 way:OneWay g
 few:∀c∈g,∀f∈c.Files,Few f.Blob
theorem GV.gb{g:Graph}(h:GV g):GB g:=⟨h.len,fun c a=>⟨(h.pars c a).1,(h.pars c a).2.1⟩,h.way,fun c a f b=>by
 obtain⟨d,e⟩:=h.files c a;have i:=d.cnt f b;have j:=AX f.Blob
 exact⟨e f b,by omega⟩⟩
theorem bP{g:Graph}(h:GB g){c:Nat}{path b:Str}(e:H1 (F5 g c) path=some b):Few b:=by
 obtain⟨f,a,_,rfl⟩:=oS e;unfold F5 at a;by_cases d:c<g.length
 ·rw[RG d]at a;exact h.few _ (RM d) f a
 ·rw[SC (by omega)]at a;cases a
theorem InWay.initB{g:Graph}(h:GB g){c:Nat}(b:c<g.length):InWay g c 0:=by
 rcases h.way with a | a
 ·exact .inl ⟨a,by omega⟩
 ·exact .inr ⟨a,by omega⟩
def l9:List Span->List Int->List Int
 | [],o=>o
 | p::r,o=>l9 r (o.set p.To.toNat p.From)
theorem gI:∀(a:List Span) (o:List Int),(l9 a o).length=o.length
 | [],_=>rfl
 | p::r,o=>by rw[l9,gI r,SU]
theorem pT:∀(b:List Span) (o:List Int) {j:Nat} {i:Int},(l9 b o)[j]?=some i->o[j]?=some i\/∃p∈b,p.From=i/\p.To.toNat=j
 | [],_,_,_,h=>.inl h
 | p::r,o,j,i,h=>by
  rw[l9]at h;rcases pT r _ h with a | ⟨q,hq,a⟩
  ·rw[TI]at a;split at a
   ·rename_i e;split at a
    ·cases a;exact .inr ⟨p,by simp,rfl,e⟩
    ·cases a
   ·exact .inl a
  ·exact .inr ⟨q,by simp[hq],a⟩
def bQ(x y:List Str):List Int:=l9 (R5 (Z0 x y) x.length) (List.replicate y.length (-1))
theorem II(x y:List Str):(bQ x y).length=y.length:=by unfold bQ;rw[gI,SL]
theorem KC{x y:List Str}(f:x.length<=4096)(g:y.length<=4096){j:Nat}{i:Int}(h:(bQ x y)[j]?=some i):i = -1\/0<=i/\∃v,x[i.toNat]?=some v/\y[j]?=some v:=by
 rcases pT _ _ h with b | ⟨p,hp,rfl,rfl⟩
 ·obtain⟨_,c⟩:=List.getElem?_eq_some_iff.1 b;rw[List.getElem_replicate]at c;exact .inl c.symm
 ·obtain⟨b,c,v,d,e⟩:=(pA x y f g).pairs p hp;exact .inr ⟨b,v,d,e⟩
def Z6(g:Graph)(path:Str)(now:Str):List Int->List (Int×List Int)
 | []=>[]
 | p::r=>match H1 (F5 g p.toNat) path with
  | some old=>(p,bQ (D8 old) (D8 now))::Z6 g path now r
  | none=>Z6 g path now r
def t6(g:Graph)(path:Str)(c:Nat):List (Int×List Int):=Z6 g path (bN (F5 g c) path) (D5 g c)
theorem mP{g:Graph}{a b:Str}:∀{l:List Int} {s:Int×List Int},s∈Z6 g a b l->s.1∈l/\∃old,H1 (F5 g s.1.toNat) a=some old/\s.2=bQ (D8 old) (D8 b)
 | [],_,h=>by cases h
 | p::r,s,h=>by
  rw[Z6]at h;cases e:H1 (F5 g p.toNat) a with
  | none =>
   rw[e]at h;obtain⟨c,d⟩:=mP (l:=r) h;exact⟨by simp[c],d⟩
  | some old =>
   rw[e]at h;rcases RN.1 h with rfl | h
   ·exact⟨by simp,old,e,rfl⟩
   ·obtain⟨c,d⟩:=mP (l:=r) h;exact⟨by simp[c],d⟩
def z6:List (Int×List Int)->Nat->Option (Int×Int)
 | [],_=>none
 | s::r,i=>match s.2[i]? with
  | some v=>if 0<=v then some (s.1,v) else z6 r i
  | none=>none
theorem xX:∀{l:List (Int×List Int)} {i:Nat} {b:Int×Int},z6 l i=some b->∃s∈l,s.1=b.1/\s.2[i]?=some b.2/\0<=b.2
 | [],_,_,h=>by cases h
 | s::r,i,b,h=>by
  rw[z6]at h;cases a:s.2[i]? with
  | none=>rw[a]at h;cases h
  | some v =>
   rw[a]at h;dsimp only at h;split at h
   ·cases h;exact⟨s,by simp,rfl,a,by assumption⟩
   ·obtain⟨t,d,c⟩:=xX h;exact⟨t,by simp[d],c⟩
def z7(g:Graph)(path:Str)(a:Int×Int):Option (Int×Int):=z6 (t6 g path a.1.toNat) a.2.toNat
def g9(g:Graph)(c:Str):Nat->Int×Int->Int×Int
 | 0,a=>a
 | n+1,a=>match z7 g c a with
  | none=>a
  | some b=>g9 g c n b
def jH(g:Graph)(b:Str)(a:Int×Int):Int×Int:=g9 g b g.length a
structure LineAt (g:Graph) (path v:Str) (a:Int×Int):Prop where
 c:0<=a.1/\a.1<(g.length:Int)
 i:0<=a.2
 b:∃b,H1 (F5 g a.1.toNat) path=some b/\(D8 b)[a.2.toNat]?=some v
theorem LineAt.step{g:Graph}(i:GB g){d v:Str}{a b:Int×Int}(h:LineAt g d v a)(x:z7 g d a=some b):LineAt g d v b/\b.1∈D5 g a.1.toNat:=by
 obtain⟨s,t,o,k,p⟩:=xX x;obtain⟨e,old,f,q⟩:=mP t;obtain⟨j,l,r⟩:=h.b;rw[o]at e f;rw[q,show bN (F5 g a.1.toNat) d=j by unfold bN;rw[l];rfl]at k;have n:a.1.toNat<g.length:=by have:=h.c;omega
 have u:=(i.pars _ (RM n)).2 b.1 (by rw[<-j8 n];exact e);refine⟨⟨u,p,old,f,?_⟩,e⟩;rcases KC (bP i f).2 (bP i l).2 k with m | ⟨_,w,m,h10⟩
 ·omega
 ·rw[r]at h10;cases h10;exact m
theorem LineAt.origin{g:Graph}(d:GB g){c v:Str}:∀(n:Nat) {a:Int×Int},LineAt g c v a->LineAt g c v (g9 g c n a)
 | 0,_,h=>h
 | n+1,a,h=>by
  rw[g9];cases e:z7 g c a with
  | none=>exact h
  | some b=>exact LineAt.origin d n (h.step d e).1
theorem xY{g:Graph}{b:Str}{a:Int×Int}(h:z7 g b a=none)(n:Nat):g9 g b n a=a:=by
 cases n with
 | zero=>rfl
 | succ n=>rw[g9,h]
theorem EX{g:Graph}{c:Str}{a b:Int×Int}(h:z7 g c a=some b)(n:Nat):g9 g c (n+1) a=g9 g c n b:=by rw[g9,h]
def S6(g:Graph)(b:Str)(c n:Nat):List (Int×Int):=(List.range n).map fun (i:Nat)=>jH g b ((c:Int),(i:Int))
def fF(n i:Nat):List Int:=List.replicate i (-1)++List.replicate (n-i) 0
theorem EY{n i:Nat}(h:i<=n):(fF n i).length=n:=by unfold fF;rw[RK,SL,SL];omega
theorem EZ{n i:Nat}(h:i<n):(fF n i).set i (-1)=fF n (i+1):=by
 unfold fF;rw[List.set_append_right _ _ (by rw[SL];exact Nat.le_refl _),SL,TE,show n-i=(n-(i+1))+1 by omega,List.replicate_succ,List.set_cons_zero,List.replicate_succ' (n:=i),RT];rfl
theorem AY(n:Nat):fF n 0=List.replicate n 0:=by unfold fF;simp
theorem FA(n:Nat):fF n n=List.replicate n (-1):=by unfold fF;simp
def bR(a:List Span)(o:List Int)(k:Nat):List Int:=l9 (a.take k) o
theorem lV:∀(l:List Span) (p:Span) (o:List Int),l9 (l++[p]) o=(l9 l o).set p.To.toNat p.From
 | [],_,_=>rfl
 | q::r,p,o=>by rw[SD,l9,l9,lV r]
theorem xZ{a:List Span}{o:List Int}{k:Nat}{p:Span}(h:a[k]?=some p):bR a o (k+1)=(bR a o k).set p.To.toNat p.From:=by
 unfold bR;rw[List.take_add_one,h,Option.toList_some,lV]
theorem AZ(a:List Span)(o:List Int)(k:Nat):(bR a o k).length=o.length:=gI _ _
theorem BA(a:List Span)(o:List Int):bR a o a.length=l9 a o:=by unfold bR;rw[RS]
abbrev Src:=Int×List Int
def yA:Src->Nat->Cell:=fun s j=>match j with
 | 0=>.v (.int .i64 s.1)
 | _=>.list Int 1 G4 s.2
abbrev jI(l:List Src):Cell:=.list Src 2 yA l
def o8(g:Graph)(a:Str)(b:List Int):List (Int×Cell):=b.map fun k=>(k,jI (t6 g a k.toNat))
def KnownOk(g:Graph)(path:Str)(a:List (Int×Cell)):Prop:=∃b,a=o8 g path b
theorem KnownOk.get{g:Graph}{path:Str}{d:List (Int×Cell)}(h:KnownOk g path d){k:Int}{c:Cell}(b:J3 d k=some c):c=jI (t6 g path k.toNat):=by
 obtain⟨i,rfl⟩:=h;unfold o8 at b;induction i with
 | nil=>cases b
 | cons a r f =>
  rw[RW,J3]at b;split at b
  ·rename_i e;cases b;rw[e]
  ·exact f b
theorem FB{g:Graph}{path:Str}{a:List (Int×Cell)}(h:KnownOk g path a)(k:Int):KnownOk g path (a++[(k,jI (t6 g path k.toNat))]):=by
 obtain⟨b,rfl⟩:=h;exact⟨b++[k],by unfold o8;rw[SN];rfl⟩
def dP(g:Graph)(path now:Str)(l:List Int)(k:Nat):List Src:=Z6 g path now (l.take k)
theorem eE{g:Graph}{a b:Str}:∀(l m:List Int),Z6 g a b (l++m)=Z6 g a b l++Z6 g a b m
 | [],_=>rfl
 | p::r,m=>by
  rw[SD,Z6,Z6];cases H1 (F5 g p.toNat) a with
  | none=>exact eE r m
  | some old=>dsimp only;rw[eE r m];rfl
theorem BB{g:Graph}{path now old:Str}{l:List Int}{k:Nat}{p:Int}(h:l[k]?=some p)(a:H1 (F5 g p.toNat) path=some old):dP g path now l (k+1)=dP g path now l k++[(p,bQ (D8 old) (D8 now))]:=by
 unfold dP;rw[List.take_add_one,h,Option.toList_some,eE]
 congr 1
 rw[Z6,a];rfl
theorem BC{g:Graph}{path now:Str}{l:List Int}{k:Nat}{p:Int}(h:l[k]?=some p)(a:H1 (F5 g p.toNat) path=none):dP g path now l (k+1)=dP g path now l k:=by
 unfold dP;rw[List.take_add_one,h,Option.toList_some,eE,Z6,a];simp[Z6]
theorem kU{g:Graph}{path now:Str}:∀(l:List Int),(Z6 g path now l).length<=l.length
 | []=>Nat.le_refl _
 | p::r=>by
  rw[Z6];have:=kU (g:=g) (path:=path) (now:=now) r;cases H1 (F5 g p.toNat) path with
  | none=>exact Nat.le_trans this (Nat.le_succ _)
  | some old=>exact Nat.succ_le_succ this
theorem FC{g:Graph}{path:Str}{c:Nat}{s:Src}(h:s∈t6 g path c):s.2.length=(D8 (bN (F5 g c) path)).length:=by
 obtain⟨_,old,_,a⟩:=mP h;rw[a,II]
theorem yB{l:List Src}{i k:Nat}{s:Src}(h:l[k]?=some s):z6 (l.drop k) i=match s.2[i]? with
  | some v=>if 0<=v then some (s.1,v) else z6 (l.drop (k+1)) i
  | none=>none:=by
 obtain⟨a,b⟩:=List.getElem?_eq_some_iff.1 h;rw[RO a,b,z6]
 try (cases s.2[i]?<;>rfl)
structure AG (A:Auto):Prop where
 len:1<=A.States.length/\A.States.length<=8000
 start:0<=A.Start/\A.Start<A.States.length
 good:∀q∈A.States,sP A.States.length q=true
theorem AG.check{A:Auto}(h:AG A):IG A=0:=by
 obtain⟨a,b⟩:=h.len;obtain⟨c,d⟩:=h.start;unfold IG;rw[A5 (by omega),A4 (List.all_eq_true.2 h.good)]
structure MG (A:Auto) (m:Mach):Prop where
 sl:m.2.length=A.States.length
 cnt:m.1.length+m.2.count false<=A.States.length
 st:∀t∈m.1,0<=t.state/\t.state<A.States.length
theorem FD{sn:List Bool}:∀{i:Nat},sn[i]?=some false->(sn.set i true).count false+1=sn.count false:=by
 induction sn with
 | nil=>intro i h;cases h
 | cons b r a =>
  intro i h;cases i with
  | zero =>
   rw[List.getElem?_cons_zero]at h;cases h;simp
  | succ i =>
   rw[List.getElem?_cons_succ]at h;have:=a h;rw[List.set_cons_succ,List.count_cons,List.count_cons];omega
theorem MG.first(A:Auto):MG A ([],List.replicate A.States.length false):=⟨by simp,by simp,fun _ h=>by cases h⟩
theorem MM{sn:List Bool}{i:Nat}(h:i<sn.length):sn[i]?=some (L3 sn i):=by
 unfold L3;rw[RG h];rfl
theorem MG.push{A:Auto}{m:Mach}(h:MG A m){i:Int}(c:0<=i/\i<A.States.length)(fr:Int)(d:L3 m.2 i.toNat=false):MG A (m.1++[⟨i,fr⟩],m.2.set i.toNat true):=by
 have b:=h.sl;have e:=FD (sn:=m.2) (i:=i.toNat) (by rw[<-d];exact MM (by omega));have f:=h.cnt;refine⟨by dsimp only;rw[SU];exact b,by dsimp only;rw[RK,List.length_singleton];omega,fun t a=>?_⟩;rcases RL.1 a with a | a
 ·exact h.st t a
 ·rw[List.mem_singleton.1 a];exact c
section
variable (A:Auto) (s:Str)
variable {A}
theorem yC(fr:Int):∀a:List Thread,(xU fr a).length<=a.length/\∀t∈xU fr a,t∈a
 | []=>⟨Nat.le_refl _,fun _ h=>h⟩
 | t::r=>by
  have c:=yC fr r;unfold xU;split
  ·exact⟨Nat.zero_le _,fun _ h=>by cases h⟩
  ·refine⟨by rw[RJ,RJ];omega,fun x b=>?_⟩;rcases RN.1 b with rfl | b
   ·simp
   ·exact List.mem_cons_of_mem _ (c.2 x b)
theorem MG.keep{m:Mach}(h:MG A m)(fr:Int):MG A (xU fr m.1,m.2):=by
 have a:=yC fr m.1;have c:=h.cnt;exact⟨h.sl,by dsimp only;omega,fun t b=>h.st t (a.2 t b)⟩
end
end Go.AL
attribute [local semireducible] Go.AL.Neu Go.AL.Eff Go.AL.EffV Go.AL.WpL Go.AL.WpC Go.AL.FnOk Go.AL.LexD Go.AL.Sees Go.AL.RetOk Go.AL.FnIo Go.AL.Met Go.AL.RetS
namespace Go.AL
open Go
section
variable (A:Auto) (s:Str)
abbrev KX(p:Nat)(k:Int):List Int:=CO (jG A k) (decide (p=0)) (decide (p=s.length))
def reads(p:Nat)(k:Int):Prop:=(jG A k).Kind=0/\IH (jG A k).Set (s.getD p 0).toNat=1
inductive Run:Int->Nat->Prop
 | start {i:Nat} (hi:i<=s.length):Run A.Start i
 | eps {k j:Int} {p:Nat} (h:Run k p) (hj:j∈KX A s p k):Run j p
 | read {k:Int} {p:Nat} (h:Run k p) (hp:p<s.length) (hr:reads A s p k):Run (jG A k).Next (p+1)
abbrev PZ(k:Int):Prop:=0<=k/\k<A.States.length
variable {A s}
variable (A s)
def KY(m:Mach)(k:Int):Prop:=PZ A k/\L3 m.2 k.toNat=true
structure Sy (p:Nat) (m:Mach):Prop where
 mg:MG A m
 fr:∀t∈m.1,0<=t.from_
 sync:∀k,KY A m k↔∃t∈m.1,t.state=k
variable {A s}
theorem FE{a:List Bool}{i c:Nat}(b:i<a.length):L3 (a.set i true) c=(L3 a c||decide (i=c)):=by
 unfold L3;rw[TI];by_cases e:i=c
 ·subst e;rw[A4 rfl,A4 b];simp
 ·rw[A5 e];simp[e]
theorem IJ{m:Mach}(d:MG A m){i:Int}(c:PZ A i){fr:Int}(k:Int):KY A (m.1++[⟨i,fr⟩],m.2.set i.toNat true) k↔KY A m k\/k=i:=by
 unfold KY;rw[FE (by rw[d.sl];have:=c.2;have:=c.1;omega),SB,decide_eq_true_eq];constructor
 ·rintro⟨a,b | b⟩
  ·exact .inl ⟨a,b⟩
  ·right;have:=c.1;have:=a.1;omega
 ·rintro (⟨a,b⟩ | rfl)
  ·exact⟨a,.inl b⟩
  ·exact⟨c,.inr rfl⟩
theorem Sy.push{p:Nat}{m:Mach}(h:Sy A p m){i:Int}(c:PZ A i){fr:Int}(b:0<=fr)(d:L3 m.2 i.toNat=false):Sy A p (m.1++[⟨i,fr⟩],m.2.set i.toNat true) where
 mg:=h.mg.push c fr d
 fr:=fun t a=>by
  rcases RL.1 a with a | a
  ·exact h.fr t a
  ·rw[List.mem_singleton.1 a];exact b
 sync:=fun k=>by
  rw[IJ h.mg c,h.sync k];constructor
  ·rintro (⟨t,a,e⟩ | rfl)
   ·exact⟨t,List.mem_append_left _ a,e⟩
   ·exact⟨⟨k,fr⟩,by simp,rfl⟩
  ·rintro⟨t,a,e⟩;rcases RL.1 a with a | a
   ·exact .inl ⟨t,a,e⟩
   ·right;rw[<-e,List.mem_singleton.1 a]
def Shut(A:Auto)(s:Str)(p:Nat)(m:Mach):Prop:=∀k,KY A m k->∀j∈KX A s p k,KY A m j
theorem Sy.first(A:Auto)(p:Nat):Sy A p ([],List.replicate A.States.length false) where
 mg:=MG.first A
 fr:=fun _ h=>by cases h
 sync:=fun k=>by
  constructor
  ·rintro⟨b,a⟩;unfold L3 at a;rw[List.getElem?_replicate]at a;split at a<;>cases a
  ·rintro⟨_,h,_⟩;cases h
structure NI (A:Auto) (s:Str) (a:Nat) (m:Mach):Prop where
 sy:Sy A a m
 shut:Shut A s a m
 sound:∀k,KY A m k->Run A s k a
 all:∀p k,p+1=a->Run A s k p->reads A s p k->KY A m (jG A k).Next
 no:∀p k,p<a->Run A s k p->(jG A k).Kind≠4
end
structure ChainA (A:Auto) (w:Str):Prop where
 ag:AG A
 start:A.Start=(w.length:Int)+2
 s0:(jG A ((w.length:Int)+2)).Kind=2/\(jG A ((w.length:Int)+2)).Next=(w.length:Int)+1
 lt:∀(j:Nat) (c:UInt8),w[j]?=some c->(jG A ((w.length:Int)+1-j)).Kind=0/\(jG A ((w.length:Int)+1-j)).Next=(w.length:Int)-j/\∀x:UInt8,IH (jG A ((w.length:Int)+1-j)).Set x.toNat=1↔x=c
 en:(jG A 1).Kind=3/\(jG A 1).Next=0
 ac:(jG A 0).Kind=4
structure Visit where
 Commit:Int
 Lines:Span
 deriving DecidableEq
structure LS where
 rs:List Span
 vis:List Visit
 lst:List Visit
theorem sR{n:Int}(g:0<=n)(h:n<=2147483647):M4 n≠[]/\(M4 n).all N1=true:=by
 have e:M4 n=Lib.decDigits n.toNat:=by
  unfold M4;rw[A5 (by omega)];obtain⟨k,rfl⟩:∃k:Nat,n=(k:Int):=⟨n.toNat,by omega⟩
  simp[Lib.itoa]
 obtain⟨b,_,d,_⟩:=gB n.toNat
 rw[e];refine⟨d,List.all_eq_true.2 fun c f=>?_⟩;have:=A0 (b c f);unfold N1;exact A2 (by omega)
theorem yD{n:Int}(a:0<=n)(b:n<=2147483647):dH (M4 n)=some (n.toNat,(M4 n).length):=by
 have:=JV (t:=[]) a b (fun c d=>by cases d)
 rwa[SJ]at this
theorem FF(ns:List Int):kE (M3 ns++[10])=M3 ns:=by
 unfold kE;have:ended (M3 ns++[10])=true:=by simp[ended]
 rw[A4 this];simp
def gJ(a b:Int):List Str:=[f0,M4 a,M4 b]
theorem gK(a b:Int):M3 [a,b]=N2 (gJ a b):=qM [a,b]
theorem uU{a b:Int}(ha:0<=a/\a<=2147483647)(hb:0<=b/\b<=2147483647):∀w∈gJ a b,w≠[]/\w.all N1=true:=by
 intro w c;unfold gJ at c;simp only[RN,TG,or_false]at c;rcases c with rfl | rfl | rfl
 ·exact⟨by decide,by decide⟩
 ·exact sR ha.1 ha.2
 ·exact sR hb.1 hb.2
theorem BD(a b:Int):(N2 (gJ a b)).length<=28:=by
 rw[<-gK];exact c8 [a,b] 2
theorem FG{a:Int}{t:Str}(ha:¬(a<0\/2147483647<a)):(dI ⟨8,a,0,0,false,t⟩).2=0:=by
 simp[dI,formsL,xD,mO,R9,bJ,Cmd.get,Cmd.put,kN,ha]
end Go.AL
