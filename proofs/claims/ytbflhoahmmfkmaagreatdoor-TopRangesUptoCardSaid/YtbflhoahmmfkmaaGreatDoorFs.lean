/- Plain facts about data; no project text. -/
import Derived.Test.YtbflhoahmmfkmaaGreatDoorD
import Derived.Lib.Strings
import Derived.Lib.Bytealg
import Derived.Lib.Join
import Derived.Lib.ItoaNum
import Derived.Test.YtbflhoahmmfkmaaGreatDoorAn
import Derived.Lib.IndexMore
set_option linter.all false
namespace Go.AL
open Go
theorem TQ(c:UInt8):((c.toNat:Int)=10)↔c=10:=by
 constructor
 ·intro h;have:c.toNat=10:=by omega
  exact UInt8.toNat_inj.1 (by simpa using this)
 ·rintro rfl;rfl
def I0(a:Str):Str->List Str
 | []=>if a=[] then [] else [a]
 | c::r=>if c=10 then (a++[c])::I0 [] r else I0 (a++[c]) r
def D4(b:Str):List Str:=I0 [] b
theorem eQ(a:Str)(s:Str):(I0 a s).length<=s.length+1:=by
 induction s generalizing a with
 | nil=>unfold I0;split<;>simp
 | cons c r b=>unfold I0;split<;>simp<;>(have:=b [];have:=b (a++[c]);omega)
theorem iB(s:Str):(I0 [] s).length<=s.length:=by
 have b:∀(s a:Str),a≠[]->(I0 a s).length<=s.length+1:=fun s a _=>eQ a s;induction s with
 | nil=>simp[I0]
 | cons c r d=>unfold I0;split<;>simp<;>(have:=eQ ([]++[c]) r;simp at this;omega)
theorem aM(b:Str):(D4 b).length<=b.length:=iB b
theorem cI(a r:Str)(c:UInt8):I0 a (c::r)=if c=10 then (a++[c])::I0 [] r else I0 (a++[c]) r:=rfl
theorem yA(a:Str)(h:a≠[]):I0 a []=[a]:=by simp[I0,h]
theorem or_pick{p q:Prop}[Decidable p][Decidable q]:(if decide p=true then true else decide q)=decide (p\/q):=by by_cases p<;>simp[*]
theorem and_pick{p q:Prop}[Decidable p][Decidable q]:(if decide p=true then decide q else false)=decide (p/\q):=by by_cases p<;>simp[*]
theorem bJ{α:Type}(l:List (List α))(i:Nat)(h:i<l.length):(l.take (i+1)).flatten=(l.take i).flatten++l[i]:=by
 rw[List.take_add_one,WT h,Option.toList_some,YL];simp
theorem eR{α:Type}(l:List (List α))(i:Nat):(l.take i).flatten.length<=l.flatten.length:=by
 conv=>rhs;rw[<-YH i l,YL,WX]
 omega
theorem EP(i:Nat):((i:Int)+1).toNat=i+1:=by omega
theorem vO{α:Type}(b:List α)(f i:Nat)(d:f<=i)(c:i<b.length):(b.drop f).take (i-f)++[b[i]]=(b.drop f).take (i+1-f):=by
 rw[show i+1-f=(i-f)+1 by omega,List.take_add_one,XY,show f+(i-f)=i by omega,WT c];rfl
def ended(s:Str):Bool:=s.getLast? == some 10
def M6:List Str->Str->Int->Int
 | [],_,_ => -1
 | x::r,s,i=>if x=s then i else M6 r s (i+1)
def Z3(s:Str):Bool:=s.dropLast.all (·≠10)&&s != []
def EQ:List Str->Bool
 | []=>true
 | s::r=>Z3 s&&(r.isEmpty||ended s)&&EQ r
def Y7(b:Str):Int:=if b.length>1048576\/(D4 b).length>4096 then 1 else 0
def RC(l:List Str):Str×Int:=if EQ l=false then ([],2) else if l.flatten.length>1048576\/l.length>4096 then ([],1) else (l.flatten,0)
def M7(a:List Str)(s:Str):List Str:=if s∈a then a else a++[s]
def F9(files:List (List Str)):List Str:=files.flatten.foldl M7 []
def K3(a:List Str)(b:List Str):List Int:=b.map (fun s=>M6 a s 0)
theorem nC(a:List Str)(s:Str):(M7 a s).length<=a.length+1:=by unfold M7;split<;>simp
theorem jQ(l a:List Str):(l.foldl M7 a).length<=a.length+l.length:=by
 induction l generalizing a with
 | nil=>simp
 | cons s r b=>have c:=b (M7 a s);have d:=nC a s;simp only[YA,WW];omega
theorem rT(a:List (List Str)):(F9 a).length<=a.flatten.length:=by have:=jQ a.flatten [];simpa[F9] using this
def V4(i j:Int):List Span->Int->Int->List Change
 | [],m,n=>if m>i\/n>j then [⟨i,m-i,j,n-j⟩] else []
 | x::r,m,n=>(if x.From>i\/x.To>j then [⟨i,x.From-i,j,x.To-j⟩] else [])++V4 (x.From+1) (x.To+1) r m n
def fP(p:List Span)(m n:Int):List Change:=V4 0 0 p m n
theorem tY(p:List Span)(i j m n:Int):(V4 i j p m n).length<=p.length+1:=by
 induction p generalizing i j with
 | nil=>unfold V4;split<;>simp
 | cons x r a=>unfold V4;have:=a (x.From+1) (x.To+1);split<;>simp<;>omega
def N9(i j:Int)(n:Nat):List Span:=(List.range n).map fun (t:Nat)=>⟨i+(t:Int),j+(t:Int)⟩
theorem X5(i j:Int)(n:Nat):(N9 i j n).length=n:=by simp[N9]
theorem yB(i j:Int)(n:Nat):N9 i j (n+1)=⟨i,j⟩::N9 (i+1) (j+1) n:=by
 unfold N9;rw[List.range_succ_eq_map,XK,YJ]
 congr 1
 ·simp
 ·refine List.map_congr_left fun t _=>?_;simp only[Function.comp,Span.mk.injEq];omega
def T4(i j:Int):List Change->Int->List Span
 | [],m=>N9 i j (m-i).toNat
 | c::r,m=>N9 i j (c.Old-i).toNat++T4 (max i c.Old+c.OldLen) (j+(c.Old-i).toNat+c.NewLen) r m
def R1(l:List Change)(m:Int):List Span:=T4 0 0 l m
def dist:List Int->List Int->Nat
 | [],b=>b.length
 | x::a,[]=>(x::a).length
 | x::a,y::b=>if x=y then dist a b else 1+min (dist a (y::b)) (dist (x::a) b)
theorem lJ(a:List Int):dist a []=a.length:=by cases a<;>simp[dist]
theorem yC(a b:List Int):dist a b<=a.length+b.length:=by
 induction a generalizing b with
 | nil=>simp[dist]
 | cons x a c =>
  induction b with
  | nil=>simp[dist]
  | cons y b d =>
   unfold dist;split
   ·have:=c b;simp;omega
   ·have:=c (y::b);have:=d;simp only[WW]at *;omega
def K6(i j:Int):List Int->List Int->List Span
 | [],_=>[]
 | _::_,[]=>[]
 | x::a,y::b=>if x=y then ⟨i,j⟩::K6 (i+1) (j+1) a b else if dist a (y::b)+1=dist (x::a) (y::b) then K6 (i+1) j a (y::b) else K6 i (j+1) (x::a) b
def jR(a b:List Int):List Change:=fP (K6 0 0 a b) a.length b.length
theorem JH(a b:List Int)(i j:Nat)(c:i<a.length)(d:j<b.length) :
  dist (a.drop i) (b.drop j)=if a[i]=b[j] then dist (a.drop (i+1)) (b.drop (j+1)) else 1+min (dist (a.drop (i+1)) (b.drop j)) (dist (a.drop i) (b.drop (j+1))):=by
 rw[XA c,XA d]
 conv=>lhs;rw[dist]
theorem oJ(a b:List Int)(i j:Nat)(c:i<a.length)(d:j<b.length)(p q:Int) :
  K6 p q (a.drop i) (b.drop j)=if a[i]=b[j] then ⟨p,q⟩::K6 (p+1) (q+1) (a.drop (i+1)) (b.drop (j+1)) else
   if dist (a.drop (i+1)) (b.drop j)+1=dist (a.drop i) (b.drop j) then K6 (p+1) q (a.drop (i+1)) (b.drop j) else K6 p (q+1) (a.drop i) (b.drop (j+1)):=by
 rw[XA c,XA d]
 conv=>lhs;rw[K6]
theorem c6(p q:Int)(b:List Int):K6 p q [] b=[]:=by simp[K6]
theorem p9(p q:Int)(a:List Int):K6 p q a []=[]:=by cases a<;>simp[K6]
theorem iS(p q:Int)(a b:List Int):(K6 p q a b).length<=a.length:=by
 induction a generalizing p q b with
 | nil=>simp[K6]
 | cons x a c =>
  induction b generalizing p q with
  | nil=>simp[K6]
  | cons y b d =>
   unfold K6;split
   ·have:=c (p+1) (q+1) b;simp;omega
   ·split
    ·have:=c (p+1) q (y::b);simp;omega
    ·exact d p (q+1)
universe u
theorem vP{α:Type u}(n k:Nat)(f g:Nat->α)(v:α)(i:k<n->g k=v)(h:∀q,q<n->q≠k->g q=f q):((List.range n).map f).set k v=(List.range n).map g:=by
 refine List.ext_getElem (by simp) fun q j d=>?_;have c:q<n:=by simpa using d
 rw[List.getElem_set];by_cases b:k=q
 ·subst b;simp[i c]
 ·rw[A5 b];simp[h q c (Ne.symm b)]
theorem JI{α:Type u}(n k:Nat)(f:Nat->α)(h:k<n):((List.range n).map f)[k]?=some (f k):=by simp[h]
theorem nD(l:List Change)(i j m:Int)(q:0<=i)(B:Nat)(s:m<=B)(b:∀c∈l,c.Old<=B/\0<=c.OldLen):((T4 i j l m).length:Int)<=max 0 (B-i):=by
 induction l generalizing i j with
 | nil=>simp only[T4,X5];omega
 | cons c r k =>
  have p:=b c (List.mem_cons_self ..);have:=k (max i c.Old+c.OldLen) (j+(c.Old-i).toNat+c.NewLen) (by omega) (fun d f=>b d (List.mem_cons_of_mem _ f));simp only[T4,WX,X5];omega
theorem y9(i j:Int):N9 i j 0=[]:=rfl
theorem lK(i j:Int)(n:Nat):N9 i j (n+1)=N9 i j n++[⟨i+n,j+n⟩]:=by simp[N9,YR]
def Asc(m n:Int):Int->Int->List Span->Prop
 | i,j,[]=>i<=m/\j<=n
 | i,j,x::r=>i<=x.From/\j<=x.To/\Asc m n (x.From+1) (x.To+1) r
theorem Asc.le{m n:Int}:∀{p:List Span} {i j:Int},Asc m n i j p->i<=m/\j<=n
 | [],i,j,h=>h
 | x::r,i,j,h=>by have:=Asc.le h.2.2;have:=h.1;have:=h.2.1;omega
theorem Asc.weaken{m n:Int}{p:List Span}{i j i' j':Int}(h:Asc m n i j p)(a:i'<=i)(b:j'<=j):Asc m n i' j' p:=by
 cases p with
 | nil=>exact⟨by have:=h.1;omega,by have:=h.2;omega⟩
 | cons x r=>exact⟨by have:=h.1;omega,by have:=h.2.1;omega,h.2.2⟩
theorem rU(a b:List Int):∀(p q:Int),Asc (p+a.length) (q+b.length) p q (K6 p q a b):=by
 induction a generalizing b with
 | nil=>intro p q;rw[c6];simp only[Asc,XD];omega
 | cons x a c =>
  induction b with
  | nil=>intro p q;rw[p9];simp only[Asc,XD];omega
  | cons y b d =>
   intro p q;rw[K6];split
   ·have:=c b (p+1) (q+1);refine⟨Int.le_refl _,Int.le_refl _,?_⟩;simp only[WW]
    rwa[show p+((a.length+1:Nat):Int)=p+1+a.length by omega,show q+((b.length+1:Nat):Int)=q+1+b.length by omega]
   ·split
    ·have:=(c (y::b) (p+1) q).weaken (i':=p) (j':=q) (by omega) (Int.le_refl _)
     rwa[show p+((x::a).length:Int)=p+1+a.length by simp;omega]
    ·have:=(d p (q+1)).weaken (i':=p) (j':=q) (Int.le_refl _) (by omega)
     rwa[show q+((y::b).length:Int)=q+1+b.length by simp;omega]
theorem Asc.made{m n:Int}:∀{p:List Span} {i j:Int},Asc m n i j p->∀c∈V4 i j p m n,i<=c.Old/\j<=c.New/\0<=c.OldLen/\0<=c.NewLen/\c.Old+c.OldLen<=m/\c.New+c.NewLen<=n
 | [],i,j,h,c,a=>by
  unfold V4 at a;split at a
  ·simp only[List.mem_singleton]at a;subst a;have:=h.1;have:=h.2;simp only;omega
  ·cases a
 | x::r,i,j,h,c,a=>by
  unfold V4 at a;obtain⟨d,e,b⟩:=h;have f:=b.le;rcases WZ.1 a with a | a
  ·split at a
   ·simp only[List.mem_singleton]at a;subst a;simp only;omega
   ·cases a
  ·have:=Asc.made b c a;omega
def TR(m:Int)(c:Nat):Bool:=m / 2 ^ c % 2 == 1
def VC(r:Row)(c:Int):Bool:=if c = -1 then !r.Lost else if c < -1\/32<=c then false else TR r.Marks c.toNat == r.Lost
def TS(b:List Row)(c:Int):List Str:=(b.filter (VC · c)).map (·.Text)
def RD(n:Nat)(r:Row):Bool:=r.Marks / 2 ^ n == 0&&!(r.Lost&&r.Marks == 0)
theorem RE(m c:Int)(b:Nat)(a:0<=c/\c<=b):m.fdiv (2 ^ (min c.toNat b))=m / 2 ^ c.toNat:=by
 rw[show min c.toNat b=c.toNat by omega,Int.fdiv_eq_ediv_of_nonneg _ (Int.pow_nonneg (by decide))]
abbrev Loom:=List Int×(Nat->List (List Int))
structure LoomOk (Q:Int->Prop) (B lines n:Nat) (s:Loom):Prop where
 len:s.1.length=lines
 marks:∀m∈s.1,0<=m/\m<4294967296
 gaps:∀k,(s.2 k).length=n/\∀x∈s.2 k,x.length<=B/\∀v∈x,Q v
theorem rV(l:List Str)(s:Str):∀k:Int,0<=k->s∈l->k<=M6 l s k/\M6 l s k<k+l.length:=by
 induction l with
 | nil=>intro k _ h;cases h
 | cons x r b =>
  intro k c h;unfold M6;by_cases a:x=s
  ·rw[A4 a];simp;omega
  ·rw[A5 a];have:=b (k+1) (by omega) (by rcases XB.1 h with rfl | h;exact absurd rfl a;exact h);simp only[WW];omega
theorem pJ(l:List Str):∀(a:List Str) (s:Str),s∈a\/s∈l->s∈l.foldl M7 a:=by
 induction l with
 | nil=>intro a s h;rcases h with h | h;exact h;cases h
 | cons x r b =>
  intro a s h;apply b;rcases h with h | h
  ·left;unfold M7;split;exact h;exact List.mem_append_left _ h
  ·rcases XB.1 h with rfl | h
   ·left;unfold M7;split;assumption;simp
   ·exact .inr h
theorem oK(a:List (List Str))(s:Str)(f:List Str)(b:f∈a)(c:s∈f):s∈F9 a:=pJ _ _ _ (.inr (List.mem_flatten.2 ⟨f,b,c⟩))
theorem yD(s:Str):Lib.hasSuffix s [10]=ended s:=by
 unfold Lib.hasSuffix ended;rw[Bool.eq_iff_iff,List.isSuffixOf_iff_suffix,beq_iff_eq];constructor
 ·rintro⟨t,rfl⟩;simp
 ·intro h;obtain⟨a,b⟩:=List.getLast?_eq_some_iff.1 h;exact⟨a,b.symm⟩
theorem c7(c:UInt8):∀l:Str,(c∉l/\Lib.indexByte l c = -1)\/∃a b,l=a++c::b/\c∉a/\Lib.indexByte l c=a.length
 | []=>.inl ⟨by simp,rfl⟩
 | x::l=>by
  unfold Lib.indexByte;by_cases d:x=c
  ·exact .inr ⟨[],l,by rw[d];rfl,by simp,by simp[d]⟩
  ·rcases c7 c l with ⟨e,f⟩ | ⟨a,b,e,f,h3⟩
   ·exact .inl ⟨by simp[e,Ne.symm d],by simp[d,f]⟩
   ·refine .inr ⟨x::a,b,by rw[e];rfl,by simp[f,Ne.symm d],?_⟩;have g:¬((a.length:Int) = -1):=by omega
    simp[d,h3,g]
theorem tZ(c:UInt8)(l:Str):0<=Lib.indexByte l c↔c∈l:=by
 rcases c7 c l with ⟨d,e⟩ | ⟨a,b,d,e,h3⟩
 ·rw[e];simp[d]
 ·rw[h3,d];simp
def TT(a b:Int):Int:=IntKind.u32.wrap ((BitVec.ofInt IntKind.u32.bits a &&& BitVec.ofInt IntKind.u32.bits b).toNat:Int)
def TU(a:Int):Int:=IntKind.u32.wrap ((BitVec.ofInt IntKind.u32.bits IntKind.u32.max ^^^ BitVec.ofInt IntKind.u32.bits a).toNat:Int)
def VD(r:Row):Int:=if r.Lost then r.Marks else TU r.Marks
def addOk(b:Bool)(a:Int)(r:Row):Bool:=decide (TT a (VD r)=0)&&(r.Lost||!b)
structure EndsAt (res:Bool) (par:Int) (bad:Int->Bool):Prop where
 res:res=bad (-1)
 par:∃p:Nat,p<4294967296/\par=p/\∀c:Nat,c<32->p.testBit c=bad c
def R9(c:UInt8):Bool:=decide (33<=c.toNat/\c.toNat<=126/\c.toNat≠34/\c.toNat≠92)
def digs8:Str:=[48,49,50,51,52,53,54,55]
def digs10:Str:=[48,49,50,51,52,53,54,55,56,57]
def AV(c:UInt8):Str:=(digs8.drop (c.toNat / 64)).take 1++(digs8.drop (c.toNat / 8 % 8)).take 1++(digs8.drop (c.toNat % 8)).take 1
def cW(c:UInt8):Str:=if c.toNat=34\/c.toNat=92 then [92,c] else if c.toNat=10 then [92,110] else if c.toNat=9 then [92,116] else if c.toNat<32\/126<c.toNat then 92::AV c else [c]
def c8(s:Str):Str:=if s≠[]/\s.all R9=true then s else 34::((s.map cW).flatten++[34])
theorem JJ(c:UInt8):(AV c).length<=3:=by unfold AV;simp only[WX,XG];omega
theorem vQ(c:UInt8):(cW c).length<=4:=by
 have:=JJ c;unfold cW;split
 ·simp
 ·split
  ·simp
  ·split
   ·simp
   ·split
    ·simp only[WW];omega
    ·simp
theorem lL(s:Str):((s.map cW).flatten).length<=4*s.length:=by
 induction s with
 | nil=>simp
 | cons c r b=>have:=vQ c;simp only[XK,YI,WX,WW];omega
theorem AW(s:Str):(c8 s).length<=4*s.length+2:=by
 unfold c8;have:=lL s;split
 ·omega
 ·simp only[WW,WX,XD];omega
def m8(n:Int):Str:=if n<0\/2147483647<n then [] else Lib.itoa n
def GQ(a n:Int):Str:=if a<0\/n<0\/2147483647<a\/2147483647-a<n then [] else if n=0 then m8 a++[44,48] else if n=1 then m8 (a+1) else m8 (a+1)++[44]++m8 n
theorem iT:∀(k u:Nat),u<10 ^ (k+1)->(Lib.decDigits u).length<=k+1
 | 0,u,h=>by rw[Lib.decDigits,dif_pos (by omega)];simp
 | k+1,u,h=>by
  rw[Lib.decDigits];split
  ·simp
  ·have:=iT k (u / 10) (by rw[Nat.div_lt_iff_lt_mul (by omega)];rw[Nat.pow_succ]at h;omega);simp only[WX,WW,XD];omega
theorem r5(n:Int):(m8 n).length<=10:=by
 unfold m8;split
 ·simp
 ·unfold Lib.itoa;rw[A5 (by omega)];exact iT 9 n.toNat (by omega)
theorem TV(k:Nat)(h:k<10):(digs10.drop k).take 1=[UInt8.ofNat (48+k)]:=by
 have:∀k:Fin 10,(digs10.drop k.1).take 1=[UInt8.ofNat (48+k.1)]:=by decide
 exact this ⟨k,h⟩
theorem JK(n:Int)(b:0<=n)(h:n<10):m8 n=(digs10.drop n.toNat).take 1:=by
 unfold m8 Lib.itoa;rw[A5 (by omega),A5 (by omega),TV _ (by omega),Lib.decDigits,dif_pos (by omega)]
theorem RF(k:Nat)(h:k<8):(digs8.drop k).take 1=[UInt8.ofNat (48+k)]:=by
 have:∀k:Fin 8,(digs8.drop k.1).take 1=[UInt8.ofNat (48+k.1)]:=by decide
 exact this ⟨k,h⟩
theorem AX(c:UInt8):AV c=[UInt8.ofNat (48+c.toNat / 64),UInt8.ofNat (48+c.toNat / 8 % 8),UInt8.ofNat (48+c.toNat % 8)]:=by
 have:=c.toNat_lt;unfold AV;rw[RF _ (by omega),RF _ (by omega),RF _ (by omega)];rfl
def escs(s:Str)(i:Nat):Str:=((s.take i).map cW).flatten
theorem JL(s:Str)(i:Nat)(h:i<s.length):escs s (i+1)=escs s i++cW s[i]:=by
 unfold escs;rw[XZ h,YC,YL];simp only[XK,List.map_nil,YI,List.flatten_nil,YB]
theorem MX(s:Str)(i:Nat)(h:i<=s.length):(escs s i).length<=4*i:=by
 have:=lL (s.take i);unfold escs;rw[XG]at this;omega
def plains(s:Str)(i:Nat):Bool:=decide (s≠[])&&(s.take i).all R9
theorem AY(s:Str):plains s 0=decide (s≠[]):=by simp[plains]
theorem AZ(s:Str)(i:Nat)(h:i<s.length):plains s (i+1)=(plains s i&&R9 s[i]):=by
 unfold plains;rw[XZ h,YS];simp only[List.all_cons,List.all_nil,Bool.and_true,Bool.and_assoc]
theorem rW(s:Str):c8 s=if plains s s.length=true then s else (34::escs s s.length)++[34]:=by
 unfold c8 plains escs;rw[XF];simp only[WU,decide_eq_true_eq,XQ]
structure File where
 Path:Str
 Blob:Str
 deriving DecidableEq
structure Delta where
 Path:Str
 Kind:Int
 deriving DecidableEq
structure Commit where
 Parents:List Int
 Date:Int
 Files:List File
 deriving DecidableEq
def Z9:File->Nat->Cell:=fun f j=>match j with
 | 0=>.v (.string ⟨f.Path.toArray⟩)
 | _=>.v (.string ⟨f.Blob.toArray⟩)
def H3:Commit->Nat->Cell:=fun c j=>match j with
 | 0=>.list Int 1 G1 c.Parents
 | 1=>.v (.int .i64 c.Date)
 | _=>.list File 2 Z9 c.Files
abbrev GR(f:File):PV:=.agg [.v (.string ⟨f.Path.toArray⟩),.v (.string ⟨f.Blob.toArray⟩)]
abbrev lM(c:Commit):PV:=.agg [.list Int 1 G1 c.Parents,.v (.int .i64 c.Date),.list File 2 Z9 c.Files]
abbrev x1(l:List File):PV:=.one (.list File 2 Z9 l)
abbrev H4(l:List Commit):PV:=.one (.list Commit 3 H3 l)
theorem vR(a b:Bool):(if a=true then b else false)=(a&&b):=by cases a<;>rfl
theorem TW(a b:Bool):(if a=true then true else b)=(a||b):=by cases a<;>rfl
abbrev pK(a b:Str):Bool:=Op.bytesLess a b
theorem GS(a:Str):pK a []=false:=by cases a<;>rfl
theorem lN(a b:UInt8)(x y:Str):pK (a::x) (b::y)=(decide (a<b)||(a == b&&pK x y)):=rfl
theorem jS:∀a:Str,pK a a=false
 | []=>rfl
 | c::r=>by
  rw[lN,jS r];have:¬c<c:=by rw[UInt8.lt_iff_toNat_lt];omega
  simp[this]
theorem nE:∀{a b c:Str},pK a b=true->pK b c=true->pK a c=true
 | _,[],_,h,_=>by rw[GS]at h;cases h
 | _,_::_,[],_,h=>by rw[GS]at h;cases h
 | [],_::_,_::_,_,_=>rfl
 | a::x,b::y,c::z,e,d=>by
  rw[lN,XR,WU,decide_eq_true_eq,UInt8.lt_iff_toNat_lt,beq_iff_eq]at e d;rw[lN,XR,WU,decide_eq_true_eq,UInt8.lt_iff_toNat_lt,beq_iff_eq];rcases e with e | ⟨rfl,e⟩
  ·rcases d with d | ⟨rfl,d⟩
   ·left;omega
   ·left;omega
  ·rcases d with d | ⟨rfl,d⟩
   ·left;omega
   ·right;exact⟨rfl,nE e d⟩
theorem JM{a b:Str}(h:pK a b=true):pK b a=false:=by
 cases c:pK b a
 ·rfl
 ·have:=nE h c;rw[jS]at this;cases this
theorem GW:∀(a:Str) (c:UInt8) (t:Str),pK a (a++c::t)=true
 | [],_,_=>rfl
 | x::r,c,t=>by rw[XQ,lN,GW r c t];simp
def S0(s:Str):Bool:=decide (s≠[]/\s≠[46]/\s≠[46,46])
def J6(a:Str):Str->List Str
 | []=>[a]
 | c::r=>if c=47 then a::J6 [] r else J6 (a++[c]) r
def JN(a:Str):Str->Bool
 | []=>S0 a
 | c::r=>if c=0 then false else if c=47 then S0 a&&JN [] r else JN (a++[c]) r
def j8(p:Str):Int:=if p.length<1\/p.length>200\/JN [] p=false then 210 else 0
theorem jT:∀(s b:Str),JN b s=(!s.contains 0&&(J6 b s).all S0)
 | [],b=>by simp[JN,J6]
 | c::r,b=>by
  rw[JN,J6];by_cases d:c=0
  ·subst d;simp
  ·rw[A5 d];have f:(c::r).contains 0=r.contains 0:=by
    rw[List.contains_cons];have:((0:UInt8) == c)=false:=by simpa using fun e=>d e.symm
    rw[this,Bool.false_or]
   rw[f];split
   ·rw[jT r [],List.all_cons];cases S0 b<;>cases r.contains 0<;>rfl
   ·rw[jT r]
theorem yE(p:Str):j8 p=if p.length>200\/p.contains 0=true then 210 else if (J6 [] p).all S0=true then 0 else 210:=by
 unfold j8;rw[jT];by_cases b:p.length>200
 ·rw[A4 (.inr (.inl b)),A4 (.inl b)]
 ·cases d:p.contains 0
  ·rw[A5 (show ¬(p.length>200\/false=true) by simp[b])];cases c:(J6 [] p).all S0
   ·simp
   ·have:¬p.length<1:=by
     intro h;have:p=[]:=List.length_eq_zero_iff.1 (by omega);subst this;simp[J6,S0]at c
    rw[A5 (fun h=>by
     rcases h with h | h | h
     ·exact this h
     ·exact b h
     ·cases h)];rfl
  ·rw[A4 (show p.length>200\/true=true from .inr rfl),A4 (.inr (.inr (by simp)))]
def above(a b:Str):Bool:=decide (b.length>a.length/\b.take a.length=a/\b[a.length]?=some 47)
theorem MY{a b:Str}(h:above a b=true):pK a b=true:=by
 obtain⟨c,f,d⟩:=A0 h;have e:b=a++47::b.drop (a.length+1):=by
  conv=>lhs;rw[<-YH a.length b,f]
  rw[XA c];rw[WT c]at d;rw[Option.some.inj d]
 rw[e];exact GW _ _ _
def Y8:List File->Bool
 | []=>true
 | f::r=>r.all (fun x=>pK f.Path x.Path&&!above f.Path x.Path)&&Y8 r
def K1(l:List File):Int:=if l.length>200 then 1 else if l.any (fun f=>decide (j8 f.Path≠0))=true then 210 else if Y8 l=false then 211 else if l.any (fun f=>decide (Y7 f.Blob≠0))=true then 1 else 0
def Q1(p:Str)(ps:List Str):Bool:=(List.range p.length).any fun i=>decide (p.take i∈ps)&&decide (p[i]?=some 47)
def ascend:List File->Bool
 | []=>true
 | [_]=>true
 | f::g::r=>pK f.Path g.Path&&ascend (g::r)
def u6(l:List File):Bool:=ascend l&&l.all fun f=>!Q1 f.Path (l.map (·.Path))
theorem rX(p:Str)(ps:List Str):Q1 p ps=true↔∃a∈ps,above a p=true:=by
 unfold Q1;rw[List.any_eq_true];constructor
 ·rintro⟨i,k,h⟩;rw[WU,decide_eq_true_eq,decide_eq_true_eq]at h;have c:i<p.length:=XE.1 k;have b:(p.take i).length=i:=by rw[XG];omega
  exact⟨_,h.1,A2 ⟨by rw[b];exact c,by rw[b],by rw[b];exact h.2⟩⟩
 ·rintro⟨a,ha,h⟩;obtain⟨d,f,j⟩:=A0 h;exact⟨a.length,XE.2 d,by rw[WU,decide_eq_true_eq,decide_eq_true_eq,f];exact⟨ha,j⟩⟩
theorem bK:∀{f:File} {r:List File},ascend (f::r)=true->∀x∈r,pK f.Path x.Path=true
 | _,[],_,_,hx=>by cases hx
 | f,g::r,h,x,hx=>by
  unfold ascend at h;rw[WU]at h;rcases XB.1 hx with rfl | hx
  ·exact h.1
  ·exact nE h.1 (bK h.2 x hx)
theorem oL{f:File}{r:List File}(h:ascend (f::r)=true):ascend r=true:=by
 cases r with
 | nil=>rfl
 | cons g r=>unfold ascend at h;rw[WU]at h;exact h.2
theorem m9:∀{l:List File},Y8 l=true->ascend l=true
 | [],_=>rfl
 | [_],_=>rfl
 | f::g::r,h=>by
  unfold Y8 at h;rw[WU,List.all_eq_true]at h;have a:=h.1 g (by simp);rw[WU]at a;unfold ascend;rw[a.1,m9 h.2];rfl
theorem iU:∀{l:List File},Y8 l=true->∀x∈l,∀y∈l,above x.Path y.Path=false
 | [],_,x,hx,_,_=>by cases hx
 | f::r,h,x,hx,y,hy=>by
  have ha:=m9 h;unfold Y8 at h;rw[WU,List.all_eq_true]at h;cases a:above x.Path y.Path
  ·rfl
  have b:=MY a;rcases XB.1 hx with rfl | hx0
  ·rcases XB.1 hy with rfl | hy
   ·rw[jS]at b;cases b
   ·have:=h.1 y hy;rw[a,Bool.not_true,Bool.and_false]at this;cases this
  ·have c:=hx0;rcases XB.1 hy with d | hy2
   ·have:=bK ha x c;rw[<-d,JM b]at this;cases this
   ·rw[iU h.2 x c y hy2]at a;cases a
theorem jU:∀{l:List File},ascend l=true->(∀x∈l,∀y∈l,above x.Path y.Path=false)->Y8 l=true
 | [],_,_=>rfl
 | f::r,h,ha=>by
  unfold Y8;rw[WU,List.all_eq_true];refine⟨fun x a=>?_,jU (oL h) fun x a y b=>ha x (by simp[a]) y (by simp[b])⟩;rw[bK h x a,ha f (by simp) x (by simp[a])];rfl
theorem ER(l:List File):u6 l=Y8 l:=by
 cases h:Y8 l
 ·cases c:u6 l
  ·rfl
  unfold u6 at c;rw[WU,List.all_eq_true]at c;have:Y8 l=true:=jU c.1 fun x d y e=>by
   cases b:above x.Path y.Path
   ·rfl
   have f:=c.2 y e;rw[(rX _ _).2 ⟨x.Path,List.mem_map_of_mem d,b⟩]at f;cases f
  rw[this]at h;cases h
 ·unfold u6;rw[WU,List.all_eq_true];refine⟨m9 h,fun y e=>?_⟩;cases g:Q1 y.Path (l.map (·.Path))
  ·rfl
  obtain⟨a,ha,b⟩:=(rX _ _).1 g;obtain⟨x,d,rfl⟩:=XU.1 ha;rw[iU h x d y e]at b;cases b
def F5:List File->Str->Option Str
 | [],_=>none
 | f::r,p=>if f.Path=p then some f.Blob else F5 r p
abbrev VE(l:List Str):Prop:=l.Pairwise fun x y=>pK x y=true
theorem rY:∀{l:List File} {p x:Str},F5 l p=some x->∃f∈l,f.Path=p/\f.Blob=x
 | [],_,_,h=>by cases h
 | f::r,p,x,h=>by
  unfold F5 at h;split at h
  ·rename_i e;exact⟨f,by simp,e,Option.some.inj h⟩
  ·obtain⟨g,b,a⟩:=rY h;exact⟨g,by simp[b],a⟩
theorem ES{p:Str}:∀{l:List File},F5 l p=none↔p∉l.map (·.Path)
 | []=>by simp[F5]
 | f::r=>by
  unfold F5;split
  ·rename_i e;simp[e]
  ·rename_i e;rw[ES (l:=r),XK,XB,not_or];exact⟨fun h=>⟨fun b=>e b.symm,h⟩,fun h=>h.2⟩
theorem uA{l:List File}(h:K1 l=0):ascend l=true/\l.length<=200/\(∀f∈l,Y7 f.Blob=0)/\∀f∈l,j8 f.Path=0:=by
 unfold K1 at h;split at h
 ·cases h
 ·rename_i g;split at h
  ·cases h
  ·rename_i b;split at h
   ·cases h
   ·rename_i c;split at h
    ·cases h
    ·rename_i d;refine⟨m9 (by simpa using c),by omega,fun f a=>?_,fun f a=>?_⟩
     ·have:=fun e=>d (List.any_eq_true.2 ⟨f,a,e⟩);simpa using this
     ·have:=fun e=>b (List.any_eq_true.2 ⟨f,a,e⟩);simpa using this
def O1(a:Str):Str->List Str
 | []=>[a]
 | c::r=>if c=10 then (a++[c])::O1 [] r else O1 (a++[c]) r
def Q5(b:Str):List Str:=O1 [] b
theorem uB(a b:Str)(h:(10:UInt8)∉a):O1 b a=[b++a]:=by
 induction a generalizing b with
 | nil=>simp[O1]
 | cons c r d =>
  simp only[XB,not_or]at h;rw[O1,A5 (fun e=>h.1 e.symm),d _ h.2];simp
theorem yF(a b d:Str)(h:(10:UInt8)∉a):O1 d (a++10::b)=(d++a++[10])::O1 [] b:=by
 induction a generalizing d with
 | nil=>simp[O1]
 | cons c r f =>
  simp only[XB,not_or]at h;rw[XQ,O1,A5 (fun e=>h.1 e.symm),f _ h.2];simp
theorem X6(s a:Str):(O1 a s).length=s.count 10+1:=by
 induction s generalizing a with
 | nil=>rfl
 | cons c r d =>
  by_cases b:c=10
  ·subst b;rw[O1,A4 rfl,WW,d,List.count_cons_self]
  ·rw[O1,A5 b,d,List.count_cons_of_ne b]
theorem BA(s b:Str):I0 b s=if (O1 b s).getLastD []=[] then (O1 b s).dropLast else O1 b s:=by
 induction s generalizing b with
 | nil=>by_cases h:b=[]<;>simp[I0,O1,h]
 | cons c r j =>
  rw[I0,O1];by_cases f:c=10
  ·rw[A4 f,A4 f,j];have l:O1 [] r≠[]:=fun e=>by have:=X6 r [];rw[e]at this;simp at this
   obtain⟨x,y,i⟩:=List.exists_cons_of_ne_nil l;rw[i];have k:((b++[c])::x::y).getLastD []=(x::y).getLastD []:=by cases y<;>simp[List.getLastD]
   rw[k];split
   ·rfl
   ·rfl
  ·rw[A5 f,A5 f,j]
theorem rZ(s a:Str):(I0 a s).length=s.count 10+if s=[] then (if a=[] then 0 else 1) else if ended s=true then 0 else 1:=by
 induction s generalizing a with
 | nil=>by_cases h:a=[]<;>simp[I0,h]
 | cons c r i =>
  have j:ended (c::r)=if r=[] then c == 10 else ended r:=by
   cases r with
   | nil=>simp[ended]
   | cons d t=>simp[ended,List.getLast?_cons_cons]
  rw[I0,A5 (List.cons_ne_nil _ _),j];by_cases b:c=10
  ·subst b;rw[A4 rfl,WW,i,List.count_cons_self];by_cases f:r=[]<;>simp[f];omega
  ·rw[A5 b,i,List.count_cons_of_ne b];by_cases f:r=[]<;>simp[f,b]
theorem cJ(s:Str):(D4 s).length=s.count 10+if s≠[]/\ended s=false then 1 else 0:=by
 unfold D4;rw[rZ];by_cases a:s=[]<;>simp[a];cases ended s<;>simp
theorem ET{P:List Str}{i:Nat}{r a b:Str}(h:P.drop i=Q5 r)(c:r=a++10::b)(ha:(10:UInt8)∉a):P[i]?=some (a++[10])/\P.drop (i+1)=Q5 b:=by
 have e:Q5 r=(a++[10])::Q5 b:=by rw[c];unfold Q5;rw[yF _ _ _ ha];rfl
 rw[e]at h;refine⟨by rw[<-List.head?_drop,h];rfl,?_⟩;rw[<-List.tail_drop,h];rfl
theorem vS{α:Type}(P:List α)(z x:α)(i:Nat)(h:P[i]?=some x):(P.take i++List.replicate (P.length-i) z).set i x=P.take (i+1)++List.replicate (P.length-(i+1)) z:=by
 obtain⟨a,c⟩:=List.getElem?_eq_some_iff.1 h;have b:(P.take i).length=i:=by rw[XG];omega
 rw[List.set_append_right _ _ (by omega),b,YK,show P.length-i=(P.length-(i+1))+1 by omega,List.replicate_succ,List.set_cons_zero,XZ a,c,XH];rfl
def Q6(b:Str):List Str×Int:=if b.length>1048576\/(D4 b).length>4096 then ([],1) else (D4 b,0)
def J2(n:Int):Prop:=0<=n/\n<=4096
instance (n:Int):Decidable (J2 n):=by unfold J2;exact inferInstance
def sA(k:Nat)(i j:Int)(c:Change):Prop:=((((((¬J2 c.Old\/¬J2 c.OldLen)\/¬J2 c.New)\/¬J2 c.NewLen)\/c.OldLen+c.NewLen=0)\/c.Old-i≠c.New-j)\/c.Old<i)\/(0<(k:Int)/\c.Old=i)
instance (k:Nat) (i j:Int) (c:Change):Decidable (sA k i j c):=by unfold sA;exact inferInstance
def K7(k:Nat)(i j:Int):List Change->Int->Int->Bool
 | [],m,n=>decide (¬(m-i≠n-j\/m<i))
 | c::r,m,n=>decide (¬sA k i j c)&&K7 (k+1) (c.Old+c.OldLen) (c.New+c.NewLen) r m n
def cK(l:List Change)(m n:Int):Int:=if ¬J2 m\/¬J2 n then 80 else if K7 0 0 0 l m n=true then 0 else 80
def ScOk(i j:Int):List Change->Int->Int->Prop
 | [],m,n=>i<=m/\j<=n
 | c::r,m,n=>J2 c.Old/\J2 c.OldLen/\J2 c.New/\J2 c.NewLen/\i<=c.Old/\j<=c.New/\ScOk (c.Old+c.OldLen) (c.New+c.NewLen) r m n
theorem bL:∀(l:List Change) (k:Nat) (i j m n:Int),K7 k i j l m n=true->ScOk i j l m n
 | [],k,i,j,m,n,h=>by simp only[K7,decide_eq_true_eq]at h;simp only[ScOk];omega
 | c::r,k,i,j,m,n,h=>by
  simp only[K7,WU,decide_eq_true_eq]at h;obtain⟨a,d⟩:=h;unfold sA at a;refine⟨?_,?_,?_,?_,?_,?_,bL r _ _ _ m n d⟩
  all_goals (by_cases b:J2 c.Old<;>by_cases a2:J2 c.OldLen<;>by_cases a3:J2 c.New<;>by_cases a4:J2 c.NewLen<;>simp[b,a2,a3,a4]at a ⊢<;>omega)
theorem nF{l:List Change}{m n:Int}(h:cK l m n=0):J2 m/\J2 n/\ScOk 0 0 l m n:=by
 unfold cK at h;split at h
 ·omega
 ·rename_i b;split at h
  ·rename_i c;by_cases a:J2 m<;>by_cases a2:J2 n<;>simp[a,a2]at b;exact⟨a,a2,bL _ _ _ _ _ _ c⟩
  ·omega
def J7(l:List Change)(k:Nat):Change:=l.getD k ⟨0,0,0,0⟩
theorem ScOk.end_le:∀{l:List Change} {i j m n:Int},ScOk i j l m n->i<=m/\j<=n
 | [],_,_,_,_,h=>h
 | c::r,i,j,m,n,⟨h1,h2,h3,h4,h5,h6,h7⟩=>by have:=h7.end_le;unfold J2 at *;omega
theorem ScOk.get:∀{l:List Change} {i j m n:Int} (k:Nat),ScOk i j l m n->k<l.length->J2 (J7 l k).Old/\J2 (J7 l k).OldLen/\J2 (J7 l k).New/\J2 (J7 l k).NewLen/\(J7 l k).Old+(J7 l k).OldLen<=m/\(J7 l k).New+(J7 l k).NewLen<=n
 | c::r,i,j,m,n,0,⟨h1,h2,h3,h4,h5,h6,h7⟩,_=>by have:=h7.end_le;exact⟨h1,h2,h3,h4,this.1,this.2⟩
 | c::r,i,j,m,n,k+1,⟨h1,h2,h3,h4,h5,h6,h7⟩,hk=>by
  have:=h7.get k (by simpa using hk);simpa[J7] using this
theorem ScOk.next:∀{l:List Change} {i j m n:Int} (k:Nat),ScOk i j l m n->k+1<l.length->(J7 l k).Old+(J7 l k).OldLen<=(J7 l (k+1)).Old
 | [c],_,_,_,_,_,_,hk=>by simp at hk
 | c::c2::r,i,j,m,n,0,⟨_,_,_,_,_,_,h7⟩,_=>by simpa[J7] using h7.2.2.2.2.1
 | c::c2::r,i,j,m,n,k+1,⟨_,_,_,_,_,_,h7⟩,hk=>by
  have:=h7.next k (by simpa using hk);simpa[J7] using this
theorem ScOk.mono{l:List Change}{m n:Int}(h:ScOk 0 0 l m n):∀(a b:Nat),a<=b->b<l.length->(J7 l a).Old<=(J7 l b).Old/\(J7 l a).Old+(J7 l a).OldLen<=(J7 l b).Old+(J7 l b).OldLen
 | a,0,h1,h2=>by rw[show a=0 by omega];omega
 | a,b+1,h1,h2=>by
  by_cases c:a=b+1
  ·subst c;omega
  ·have f:=h.mono a b (by omega) (by omega);have g:=h.next b h2;have i:=h.get b (by omega);have j:=h.get (b+1) h2;unfold J2 at *;omega
def yG(a b:Int):Int:=if b<a then b else a
def opens(l:List Change)(a:Int)(k:Nat):Prop:=k=0\/2*a<(J7 l k).Old-(J7 l (k-1)).Old-(J7 l (k-1)).OldLen
instance (l:List Change) (ctx:Int) (k:Nat):Decidable (opens l ctx k):=by unfold opens;exact inferInstance
def GX:Hunk:=⟨0,0,⟨0,0⟩,⟨0,0⟩⟩
def cX(l:List Change)(a:Int)(k:Nat):Hunk:=⟨k,0,⟨(J7 l k).Old-yG a (J7 l k).Old,0⟩,⟨(J7 l k).New-yG a (J7 l k).Old,0⟩⟩
def lO(l:List Change)(m b:Int)(k:Nat)(h:Hunk):Hunk :=
 let c:=J7 l k;let a:=yG b (m-(c.Old+c.OldLen))
 ⟨h.First,k+1,⟨h.Old.From,c.Old+c.OldLen+a⟩,⟨h.New.From,c.New+c.NewLen+a⟩⟩
def nG(l:List Change)(a:Int)(k:Nat)(b:List Hunk):List Hunk:=if opens l a k then b++[cX l a k] else b
def V7(l:List Change)(m b:Int):Nat->List Hunk
 | 0=>[]
 | k+1=>let a:=nG l b k (V7 l m b k);a.set (a.length-1) (lO l m b k (a.getD (a.length-1) GX))
theorem oM(l:List Change)(m a:Int):∀k,(V7 l m a k).length<=k/\(0<k->0<(V7 l m a k).length)
 | 0=>by simp[V7]
 | k+1=>by
  have h:=oM l m a k;simp only[V7,XX,nG];split
  ·simp only[WX,WW,XD];omega
  ·rename_i b;have:k≠0:=fun e=>b (.inl e);omega
def MZ(s:Str):Bool:=decide (1<=s.length/\s.length<=200)
def G6(b:List PatchLine)(k:UInt8):List Str:=(b.filter (fun x=>decide (x.Kind≠k))).map (·.Text)
def NA(x:PatchLine):Prop:=((x.Kind≠32/\x.Kind≠45)/\x.Kind≠43)\/Z3 x.Text=false
instance (x:PatchLine):Decidable (NA x):=by unfold NA;exact inferInstance
def jV(x:PatchLine):Bool:=decide (¬NA x)
def cL(a:List PatchLine):Bool:=a.any (fun x=>decide (x.Kind≠32))
def lP(some:Bool)(i j:Int)(h:PatchHunk):Prop:=((((some=false\/h.Old<i)\/h.New<j)\/4096<h.Old)\/4096<h.New)\/h.Old-i≠h.New-j
instance (s:Bool) (i j:Int) (h:PatchHunk):Decidable (lP s i j h):=by unfold lP;exact inferInstance
def aU(h:PatchHunk):Int:=(G6 h.Lines 43).length
def cY(h:PatchHunk):Int:=(G6 h.Lines 45).length
def nH(i j:Int):List PatchHunk->Bool
 | []=>true
 | h::r=>h.Lines.all jV&&(decide (¬lP (cL h.Lines) i j h)&&(decide (¬(4096<h.Old+aU h\/4096<h.New+cY h))&&nH (h.Old+aU h) (h.New+cY h) r))
def N7(b:List PatchHunk)(k:UInt8):List Str:=(b.map (fun h=>G6 h.Lines k)).flatten
def u7:List Str->Bool
 | []=>true
 | x::r=>(r.isEmpty||ended x)&&u7 r
def EU(a:List PatchHunk)(k:UInt8):Bool:=u7 (N7 a k)
def nI(a:List PatchHunk):Bool:=nH 0 0 a&&(EU a 43&&EU a 45)
def TX:Str:=[10,92,32,78,111,32,110,101,119,108,105,110,101,32,97,116,32,101,110,100,32,111,102,32,102,105,108,101,10]
def RG(x:PatchLine):List Str:=if ended x.Text then [[x.Kind]++x.Text] else [[x.Kind]++x.Text,TX]
def TY(h:PatchHunk):Str:=[64,64,32,45]++GQ h.Old (aU h)++[32,43]++GQ h.New (cY h)++[32,64,64,10]
def RH(h:PatchHunk):List Str:=TY h::(h.Lines.map RG).flatten
def RI(p:Patch):List Str:=[[45,45,45,32]++c8 p.OldName++[10],[43,43,43,32]++c8 p.NewName++[10]]
def PH(p:Patch):List Str:=RI p++(p.Hunks.map RH).flatten
def GY(p:Patch):Str:=(PH p).flatten
def dS(p:Patch):Int:=if MZ p.OldName=false\/MZ p.NewName=false then 120 else if nI p.Hunks=false then 121 else if 16777216<(GY p).length then 1 else 0
def RJ(x:PatchLine):Nat:=x.Text.length+64
def VF(h:PatchHunk):Nat:=64+(h.Lines.map RJ).sum
def OB(a:List PatchHunk):Nat:=(a.map VF).sum
structure PFit (p:Patch):Prop where
 old:p.OldName.length<=4194304
 new:p.NewName.length<=4194304
 hunks:OB p.Hunks<=268435456
theorem PI(a:List PatchLine):64*a.length<=(a.map RJ).sum:=by
 induction a with
 | nil=>simp
 | cons x r b=>simp only[XK,List.sum_cons,WW,RJ];omega
def bM(k:UInt8)(a:List Str):List PatchLine:=a.map fun t=>⟨k,t⟩
def sub(x:List Str)(a b:Int):List Str:=(x.drop a.toNat).take (b.toNat-a.toNat)
def eT(c:Change):Int:=c.Old+c.OldLen
def bN(l:List Change)(i0:Int)(a t:Nat):Int:=if t=0 then i0 else eT (J7 l (a+t-1))
theorem EV(l:List Change)(i0:Int)(a t:Nat):bN l i0 a (t+1)=eT (J7 l (a+t)):=by
 unfold bN;rw[A5 (by omega)];congr 2
def x2(l:List Change)(x y:List Str)(i0:Int)(a:Nat):Nat->List PatchLine
 | 0=>[]
 | t+1=>x2 l x y i0 a t++bM 32 (sub x (bN l i0 a t) (J7 l (a+t)).Old)++bM 45 (sub x (J7 l (a+t)).Old (eT (J7 l (a+t))))++bM 43 (sub y (J7 l (a+t)).New ((J7 l (a+t)).New+(J7 l (a+t)).NewLen))
def V8(l:List Change)(x y:List Str)(h:Hunk):PatchHunk :=
 ⟨h.Old.From,h.New.From,x2 l x y h.Old.From h.First.toNat (h.Last.toNat-h.First.toNat)++bM 32 (sub x (bN l h.Old.From h.First.toNat (h.Last.toNat-h.First.toNat)) h.Old.To)⟩
def P1(x y:List Str):List Change:=jR (K3 (F9 [x,y]) x) (K3 (F9 [x,y]) y)
theorem yH(x y:List Str):(P1 x y).length<=x.length+1:=by
 unfold P1 jR fP;have a:=tY (K6 0 0 (K3 (F9 [x,y]) x) (K3 (F9 [x,y]) y)) 0 0 ((K3 (F9 [x,y]) x).length) ((K3 (F9 [x,y]) y).length);have b:=iS 0 0 (K3 (F9 [x,y]) x) (K3 (F9 [x,y]) y);have c:(K3 (F9 [x,y]) x).length=x.length:=by simp[K3]
 omega
def RK(h:PatchHunk)(b:List Str):Bool:=if (b.length:Int)<h.Old+aU h then false else decide ((b.drop h.Old.toNat).take (G6 h.Lines 43).length=G6 h.Lines 43)
def TZ:List PatchHunk->List Str->Nat
 | [],_=>0
 | h::r,x=>if RK h x=true then TZ r x+1 else 0
def EW(p:Patch)(a:Str):Int×Int:=if dS p≠0 then (0,dS p) else if (Q6 a).2≠0 then (0,(Q6 a).2) else (TZ p.Hunks (Q6 a).1,0)
def UT(a:List PatchHunk)(k:Nat):PatchHunk:=a.getD k ⟨0,0,[]⟩
def UA(a:List PatchHunk)(k:Nat):Int:=if k=0 then 0 else (UT a (k-1)).Old+aU (UT a (k-1))
def QJ(a:List PatchHunk)(x:List Str):Nat->List Str
 | 0=>[]
 | k+1=>QJ a x k++sub x (UA a k) (UT a k).Old++G6 (UT a k).Lines 45
def PJ(c:List PatchHunk)(x:List Str):Str×Int :=
 let b:=QJ c x c.length++x.drop (UA c c.length).toNat
 if EQ b=false then ([],140) else RC b
def GZ(p:Patch)(a:Str):Str×Int:=if (EW p a).2≠0 then ([],(EW p a).2) else if (EW p a).1<p.Hunks.length then ([],140) else PJ p.Hunks (D4 a)
def BB(i j:Int)(h:PatchHunk):Prop:=((((h.Old<0\/h.New<0)\/4096<h.Old)\/4096<h.New)\/h.Old<i)\/h.Old-i≠h.New-j
instance (i j:Int) (h:PatchHunk):Decidable (BB i j h):=by unfold BB;exact inferInstance
theorem pS{x:List Str}{a b:Int}{s:Str}(h:s∈sub x a b):s∈x:=by
 unfold sub at h;exact List.mem_of_mem_drop (List.mem_of_mem_take h)
def yI(c:Change):Int:=c.New+c.NewLen
def z1(i:Int)(l:List Change)(k:Nat):Int:=if k=0 then i else eT (J7 l (k-1))
def eV(j:Int)(l:List Change)(k:Nat):Int:=if k=0 then j else yI (J7 l (k-1))
theorem u9(i:Int)(c:Change)(r:List Change)(k:Nat):z1 i (c::r) (k+1)=z1 (eT c) r k:=by
 cases k<;>rfl
theorem v6(j:Int)(c:Change)(r:List Change)(k:Nat):eV j (c::r) (k+1)=eV (yI c) r k:=by
 cases k<;>rfl
theorem fQ(i:Int)(l:List Change)(k:Nat):z1 i l (k+1)=eT (J7 l k):=rfl
theorem fR(j:Int)(l:List Change)(k:Nat):eV j l (k+1)=yI (J7 l k):=rfl
theorem lQ(c:Change)(r:List Change)(k:Nat):J7 (c::r) (k+1)=J7 r k:=rfl
def fS(x y:List Str)(i j:Int):List Change->Prop
 | []=>sub x i x.length=sub y j y.length
 | c::r=>sub x i c.Old=sub y j c.New/\fS x y (eT c) (yI c) r
theorem x3(m n:Int):∀(l:List Change) (b:Nat) (i j:Int),K7 b i j l m n=true->∀k,k<l.length ->
  J2 (J7 l k).Old/\J2 (J7 l k).OldLen/\J2 (J7 l k).New/\J2 (J7 l k).NewLen/\(J7 l k).OldLen+(J7 l k).NewLen≠0/\(J7 l k).Old-z1 i l k=(J7 l k).New-eV j l k/\z1 i l k<=(J7 l k).Old/\(0<b+k->z1 i l k<(J7 l k).Old)
 | [],_,_,_,_,k,hk=>by simp at hk
 | c :: r,b,i,j,h,k,hk=>by
  simp only[K7,WU,decide_eq_true_eq]at h;obtain⟨a,C⟩:=h;cases k with
  | zero =>
   unfold sA at a;show J2 c.Old/\J2 c.OldLen/\J2 c.New/\J2 c.NewLen/\c.OldLen+c.NewLen≠0/\c.Old-i=c.New-j/\i<=c.Old/\(0<b+0->i<c.Old)
   have f:J2 c.Old:=by by_cases q:J2 c.Old;exact q;exact absurd (.inl (.inl (.inl (.inl (.inl (.inl (.inl q))))))) a
   have g:J2 c.OldLen:=by by_cases q:J2 c.OldLen;exact q;exact absurd (.inl (.inl (.inl (.inl (.inl (.inl (.inr q))))))) a
   have o:J2 c.New:=by by_cases q:J2 c.New;exact q;exact absurd (.inl (.inl (.inl (.inl (.inl (.inr q)))))) a
   have p:J2 c.NewLen:=by by_cases q:J2 c.NewLen;exact q;exact absurd (.inl (.inl (.inl (.inl (.inr q))))) a
   refine⟨f,g,o,p,fun q=>a (.inl (.inl (.inl (.inr q)))),?_,?_,fun B=>?_⟩
   ·by_cases q:c.Old-i=c.New-j
    ·exact q
    ·exact absurd (.inl (.inl (.inr q))) a
   ·by_cases q:c.Old<i
    ·exact absurd (.inl (.inr q)) a
    ·omega
   ·by_cases q:c.Old<i
    ·exact absurd (.inl (.inr q)) a
    ·by_cases D:c.Old=i
     ·exact absurd (.inr ⟨by omega,D⟩) a
     ·omega
  | succ k =>
   have:=x3 m n r (b+1) _ _ C k (by simpa using hk);rw[lQ,u9,v6];obtain⟨s,t,u,v,x,y,z,A⟩:=this;exact⟨s,t,u,v,x,y,z,fun B=>A (by omega)⟩
theorem yJ(m n:Int):∀(l:List Change) (a:Nat) (i j:Int),K7 a i j l m n=true->m-z1 i l l.length=n-eV j l l.length/\z1 i l l.length<=m
 | [],_,i,j,h=>by
  simp only[K7,decide_eq_true_eq]at h;show m-i=n-j/\i<=m;omega
 | c::r,a,i,j,h=>by
  simp only[K7,WU,decide_eq_true_eq]at h;rw[WW,u9,v6];exact yJ m n r _ _ _ h.2
theorem sB(x y:List Str):∀(l:List Change) (i j:Int),fS x y i j l->∀k,k<l.length->sub x (z1 i l k) (J7 l k).Old=sub y (eV j l k) (J7 l k).New
 | [],_,_,_,k,hk=>by simp at hk
 | c::r,i,j,h,k,hk=>by
  cases k with
  | zero=>exact h.1
  | succ k=>rw[u9,v6,lQ];exact sB x y r _ _ h.2 k (by simpa using hk)
theorem yK(x y:List Str):∀(l:List Change) (i j:Int),fS x y i j l->sub x (z1 i l l.length) x.length=sub y (eV j l l.length) y.length
 | [],_,_,h=>h
 | c::r,i,j,h=>by rw[WW,u9,v6];exact yK x y r _ _ h.2
def vT(l:List Change)(m c:Int)(a b:Nat):Hunk:=lO l m c (b-1) (cX l c a)
def GrOk(l:List Change)(m c:Int):Nat->List Hunk->Nat->Prop
 | a,[],k=>a=k
 | a,h::r,k=>∃b,a<b/\opens l c a/\h=vT l m c a b/\GrOk l m c b r k
theorem GrOk.le{l:List Change}{m c:Int}:∀{d:List Hunk} {a k:Nat},GrOk l m c a d k->a<=k
 | [],a,k,h=>Nat.le_of_eq h
 | _::_,a,k,⟨b,h1,_,_,h2⟩=>by have:=GrOk.le h2;omega
theorem GrOk.snoc{l:List Change}{m c:Int}{k:Nat}(d:opens l c k):∀{e:List Hunk} {a:Nat},GrOk l m c a e k->GrOk l m c a (e++[vT l m c k (k+1)]) (k+1)
 | [],a,h=>by
  obtain rfl:a=k:=h;exact⟨a+1,by omega,d,rfl,rfl⟩
 | _::_,a,⟨b,h1,h2,h3,h4⟩=>⟨b,h1,h2,h3,GrOk.snoc d h4⟩
theorem GrOk.last{l:List Change}{m c:Int}{k:Nat}:∀{d:List Hunk} {a:Nat},GrOk l m c a d k->d≠[]->GrOk l m c a (d.set (d.length-1) (lO l m c k (d.getD (d.length-1) GX))) (k+1)
 | [],_,_,h0=>absurd rfl h0
 | [h],a,⟨b,h1,h2,h3,h4⟩,_=>by
  obtain rfl:b=k:=h4;subst h3;exact⟨b+1,by omega,h2,rfl,rfl⟩
 | h::h'::r,a,⟨b,h1,h2,h3,h4⟩,_=>by
  have e:=GrOk.last h4 (by simp);refine⟨b,h1,h2,h3,?_⟩;simpa using e
theorem dT(l:List Change)(m a:Int):∀k,GrOk l m a 0 (V7 l m a k) k
 | 0=>rfl
 | k+1=>by
  have d:=dT l m a k;have c:=(oM l m a k).2;simp only[V7,nG];by_cases b:opens l a k
  ·rw[A4 b];have e:(V7 l m a k++[cX l a k]).set ((V7 l m a k++[cX l a k]).length-1) (lO l m a k ((V7 l m a k++[cX l a k]).getD ((V7 l m a k++[cX l a k]).length-1) GX))=V7 l m a k++[vT l m a k (k+1)]:=by
    simp[vT]
   rw[e];exact d.snoc b
  ·rw[A5 b];refine d.last ?_;have:k≠0:=fun e=>b (.inl e);have:=c (by omega);intro e;rw[e]at this;simp at this
theorem dU(x:List Str){a b c:Int}(f:0<=a)(g:a<=b)(h:b<=c):sub x a b++sub x b c=sub x a c:=by
 unfold sub;obtain⟨u,rfl⟩:∃u:Nat,(u:Int)=a:=⟨a.toNat,by omega⟩
 obtain⟨v,rfl⟩:∃v:Nat,(v:Int)=b:=⟨b.toNat,by omega⟩
 obtain⟨w,rfl⟩:∃w:Nat,(w:Int)=c:=⟨c.toNat,by omega⟩
 simp only[WV];have e:x.drop v=(x.drop u).drop (v-u):=by rw[List.drop_drop];congr 1;omega
 rw[e,show w-u=(v-u)+(w-v) by omega,List.take_add]
theorem bO(x:List Str)(a:Int):sub x a a=[]:=by simp[sub]
theorem dV(x:List Str){a b:Int}(c:0<=a)(d:a<=b)(f:b<=x.length):((sub x a b).length:Int)=b-a:=by
 unfold sub;rw[XG,XS];omega
theorem fT{x y:List Str}{p q g f e:Int}(h:sub x p q=sub y g f)(j:0<=p)(i:0<=g)(m:0<=e)(k:e<=q-p)(l:q-p=f-g):sub x (q-e) q=sub y (f-e) f:=by
 have c:∀(z:List Str) (a b:Int),0<=a->e<=b-a->sub z (b-e) b=(sub z a b).drop (b-a-e).toNat:=by
  intro z a b ha hb;unfold sub;rw[List.drop_take,List.drop_drop]
  congr 1
  ·omega
  ·congr 1;omega
 rw[c x p q j k,c y g f i (by omega),h,l]
theorem sC{x y:List Str}{p q c g e:Int}(h:sub x p q=sub y c g)(i:0<=p)(f:0<=c)(m:0<=e)(j:e<=q-p)(l:q-p=g-c):sub x p (p+e)=sub y c (c+e):=by
 have d:∀(z:List Str) (a b:Int),0<=a->e<=b-a->sub z a (a+e)=(sub z a b).take e.toNat:=by
  intro z a b ha hb;unfold sub;rw[List.take_take]
  congr 1
  omega
 rw[d x p q i j,d y c g f (by omega),h]
theorem dW(p q:List PatchLine)(k:UInt8):G6 (p++q) k=G6 p k++G6 q k:=by simp[G6]
theorem dX(k a:UInt8)(b:List Str):G6 (bM k b) a=if k=a then [] else b:=by
 unfold G6 bM;by_cases h:k=a
 ·rw[A4 h];subst h;simp[List.filter_eq_nil_iff]
 ·rw[A5 h];rw[List.filter_eq_self.2 (by simp[h])];simp[Function.comp_def]
structure ScFit (x y:List Str) (l:List Change):Prop where
 lx:(x.length:Int)<=4096
 ly:(y.length:Int)<=4096
 sc:K7 0 0 0 l x.length y.length=true
 eq:fS x y 0 0 l
variable {x y:List Str}{l:List Change}
theorem ScFit.ok(h:ScFit x y l):ScOk 0 0 l x.length y.length:=bL _ _ _ _ _ _ h.sc
theorem ScFit.check(h:ScFit x y l):cK l x.length y.length=0:=by
 have a:=h.lx;have b:=h.ly;unfold cK;rw[A5 (by unfold J2;omega),A4 h.sc]
theorem ScFit.nn(h:ScFit x y l)(k:Nat)(m:k<=l.length):0<=z1 0 l k/\0<=eV 0 l k/\z1 0 l k<=x.length/\eV 0 l k<=y.length:=by
 cases k with
 | zero=>exact⟨Int.le_refl _,Int.le_refl _,Int.natCast_nonneg _,Int.natCast_nonneg _⟩
 | succ k =>
  obtain⟨⟨a,a2⟩,⟨b,c⟩,⟨d,e⟩,⟨f,g⟩,i,j⟩:=h.ok.get k (by omega);rw[fQ,fR];unfold eT yI;omega
def eA(l:List Change)(b:Int)(a:Nat):Int:=yG b (J7 l a).Old
def eB(l:List Change)(m a:Int)(b:Nat):Int:=yG a (m-z1 0 l b)
theorem HA{a b:Int}(h:0<=a)(c:0<=b):0<=yG a b/\yG a b<=a/\yG a b<=b:=by unfold yG;split<;>omega
theorem gS{b:Int}{a:Nat}(c:opens l b a)(ha:a≠0):2*b<(J7 l a).Old-z1 0 l a:=by
 rcases c with h | h
 ·exact absurd h ha
 ·unfold z1;rw[A5 ha];unfold eT;omega
theorem ScFit.before(h:ScFit x y l){b:Int}(f:0<=b){a:Nat}(ha:a<l.length)(g:opens l b a) :
  0<=eA l b a/\eA l b a<=b/\eA l b a<=(J7 l a).Old-z1 0 l a:=by
 obtain⟨⟨e,a2⟩,_⟩:=h.ok.get a ha;have i:=HA f e;unfold eA;by_cases c:a=0
 ·subst c;show _/\_/\_<=(J7 l 0).Old-0;omega
 ·have:=gS g c;omega
theorem ScFit.after(h:ScFit x y l){a:Int}(k:0<=a){b:Nat}(hb:b<=l.length)(m:b<l.length->opens l a b)(f:b≠0) :
  0<=eB l x.length a b/\eB l x.length a b<=a/\z1 0 l b+eB l x.length a b<=x.length/\eV 0 l b+eB l x.length a b<=y.length /\
   sub x (z1 0 l b) (z1 0 l b+eB l x.length a b)=sub y (eV 0 l b) (eV 0 l b+eB l x.length a b):=by
 obtain⟨g,i,C,D⟩:=h.nn b hb;have d:=HA k (show 0<=(x.length:Int)-z1 0 l b by omega);unfold eB;rcases Nat.lt_or_ge b l.length with c | hge
 ·obtain⟨g1,j,u,v,w,z,A,B⟩:=x3 _ _ _ _ _ _ h.sc b c;obtain⟨⟨n,a2⟩,⟨o,p⟩,⟨q,r⟩,⟨s,t⟩,k5,k6⟩:=h.ok.get b c;have E:=gS (m c) f;refine⟨d.1,d.2.1,by omega,by omega,sC (sB x y l 0 0 h.eq b c) g i d.1 (by omega) (by omega)⟩
 ·have e:b=l.length:=by omega
  subst e;obtain⟨g1,j⟩:=yJ _ _ _ _ _ _ h.sc;refine⟨d.1,d.2.1,by omega,by omega,sC (yK x y l 0 0 h.eq) g i d.1 (by omega) (by omega)⟩
def yL(l:List Change)(b:Int)(a t:Nat):Int:=if t=0 then b else yI (J7 l (a+t-1))
theorem sD(i0:Int)(a t:Nat)(b:t≠0):bN l i0 a t=z1 0 l (a+t):=by
 unfold bN z1;rw[A5 b,A5 (by omega)]
theorem HB(c:Int)(a t:Nat)(b:t≠0):yL l c a t=eV 0 l (a+t):=by
 unfold yL eV;rw[A5 b,A5 (by omega)]
theorem ScFit.made(h:ScFit x y l){b:Int}(H:0<=b){a:Nat}(I:opens l b a):∀t,a+t<=l.length->(t=0->a<l.length) ->
  G6 (x2 l x y ((J7 l a).Old-eA l b a) a t) 43=sub x ((J7 l a).Old-eA l b a) (bN l ((J7 l a).Old-eA l b a) a t) /\
  G6 (x2 l x y ((J7 l a).Old-eA l b a) a t) 45=sub y ((J7 l a).New-eA l b a) (yL l ((J7 l a).New-eA l b a) a t)
 | 0,_,_=>by
  unfold bN yL;rw[A4 rfl,A4 rfl,bO,bO];exact⟨rfl,rfl⟩
 | t + 1,hl,_=>by
  have j:a+t<l.length:=by omega
  have f:a<l.length:=by omega
  obtain⟨B,C⟩:=ScFit.made h H I t (by omega) (fun _=>f);obtain⟨U,q2,q3⟩:=h.before H f I;obtain⟨p1,p2,p3,p4⟩:=h.nn (a+t) (by omega);obtain⟨V,W,r3,r4⟩:=h.nn a (by omega);obtain⟨g1,g2,g3,g4,g5,g6,g7,g8⟩:=x3 _ _ _ _ _ _ h.sc (a+t) j;obtain⟨k1,⟨k2,R⟩,k3,⟨k4,S⟩,k5,k6,k7,k8⟩:=x3 _ _ _ _ _ _ h.sc a f;obtain⟨⟨X,a2⟩,⟨Y,Z⟩,⟨c1,c2⟩,⟨d1,d2⟩,w5,w6⟩:=h.ok.get (a+t) j
  have c:sub x (bN l ((J7 l a).Old-eA l b a) a t) (J7 l (a+t)).Old=sub y (yL l ((J7 l a).New-eA l b a) a t) (J7 l (a+t)).New /\
    (J7 l a).Old-eA l b a<=bN l ((J7 l a).Old-eA l b a) a t/\bN l ((J7 l a).Old-eA l b a) a t<=(J7 l (a+t)).Old /\
    (J7 l a).New-eA l b a<=yL l ((J7 l a).New-eA l b a) a t/\yL l ((J7 l a).New-eA l b a) a t<=(J7 l (a+t)).New:=by
   have c:=sB x y l 0 0 h.eq (a+t) j;by_cases k:t=0
   ·subst k;unfold bN yL;rw[A4 rfl,A4 rfl];rw[show a+0=a from rfl]at *;exact⟨fT c V W U (by omega) (by omega),by omega,by omega,by omega,by omega⟩
   ·rw[sD _ _ _ k,HB _ _ _ k];have m1:=h.ok.mono a (a+t-1) (by omega) (by omega);have m2:z1 0 l (a+t)=(J7 l (a+t-1)).Old+(J7 l (a+t-1)).OldLen:=by unfold z1;rw[A5 (by omega)];rfl
    have T:∀u,u<=t->(J7 l a).New<=eV 0 l (a+u)\/u=0:=by
     intro u;induction u with
     | zero=>exact fun _=>.inr rfl
     | succ u D =>
      intro hu;obtain⟨E,F,⟨e3,K⟩,⟨M,P⟩,e5,e6,e7,e8⟩:=x3 _ _ _ _ _ _ h.sc (a+u) (by omega);have Q:eV 0 l (a+(u+1))=(J7 l (a+u)).New+(J7 l (a+u)).NewLen:=rfl;rcases D (by omega) with G | G
      ·left;omega
      ·left;subst G;rw[Q];show (J7 l a).New<=(J7 l a).New+(J7 l a).NewLen;exact Int.le_add_of_nonneg_right M
    have m5:=(T t (Nat.le_refl _)).resolve_right k;refine⟨c,by omega,by omega,by omega,by omega⟩
  obtain⟨m,p,q,z,A⟩:=c;simp (decide:=true) only [x2,dW,dX,B,C,if_true,if_false,YB];have E:bN l ((J7 l a).Old-eA l b a) a (t+1)=eT (J7 l (a+t)):=EV _ _ _ _;have F:yL l ((J7 l a).New-eA l b a) a (t+1)=yI (J7 l (a+t)):=rfl;rw[E,F];have J:0<=(J7 l a).Old-eA l b a:=by omega
  have s1:0<=(J7 l a).New-eA l b a:=by omega
  refine⟨?_,?_⟩
  ·rw[dU x J p q,dU x J (by omega) (by unfold eT;omega)]
  ·rw[m,dU y s1 z A];exact dU y s1 (by omega) (by omega)
structure HunkIs (x y:List Str) (l:List Change) (ctx:Int) (a b:Nat) (h:PatchHunk):Prop where
 old:h.Old=(J7 l a).Old-eA l ctx a
 new:h.New=(J7 l a).New-eA l ctx a
 o0:0<=h.Old
 n0:0<=h.New
 oe:h.Old+aU h=z1 0 l b+eB l x.length ctx b
 ne:h.New+cY h=eV 0 l b+eB l x.length ctx b
 ox:h.Old+aU h<=x.length
 ny:h.New+cY h<=y.length
 ol:G6 h.Lines 43=sub x h.Old (h.Old+aU h)
 nl:G6 h.Lines 45=sub y h.New (h.New+cY h)
 ch:cL h.Lines=true
 gl:(∀s∈x,Z3 s=true)->(∀s∈y,Z3 s=true)->h.Lines.all jV=true
theorem sE(p q:List PatchLine):cL (p++q)=(cL p||cL q):=by simp[cL]
theorem sF{k:UInt8}{a:List Str}(b:k≠32)(h:a≠[]):cL (bM k a)=true:=by
 cases a with
 | nil=>exact absurd rfl h
 | cons t a=>simp[cL,bM,b]
theorem dY{k:UInt8}{d:List Str}(i:k=32\/k=45\/k=43)(h:∀t∈d,Z3 t=true):(bM k d).all jV=true:=by
 rw[List.all_eq_true];intro q c;unfold bM at c;obtain⟨t,j,rfl⟩:=XU.1 c;unfold jV;refine A2 ?_;rintro (⟨⟨b,f⟩,g⟩ | b)
 ·rcases i with e | e | e
  ·exact b e
  ·exact f e
  ·exact g e
 ·rw[show (PatchLine.mk k t).Text=t from rfl,h t j]at b;cases b
theorem oN(c:∀s∈x,Z3 s=true)(d:∀s∈y,Z3 s=true)(i0:Int)(a:Nat):∀t,(x2 l x y i0 a t).all jV=true
 | 0=>rfl
 | t+1=>by
  simp only[x2,YS,oN c d i0 a t,Bool.true_and,WU];exact⟨⟨dY (.inl rfl) (fun s b=>c s (pS b)),dY (.inr (.inl rfl)) (fun s b=>c s (pS b))⟩,dY (.inr (.inr rfl)) (fun s b=>d s (pS b))⟩
theorem ScFit.hunk(h:ScFit x y l){c:Int}(I:0<=c){a b:Nat}(ag:a<b)(hb:b<=l.length)(V:opens l c a)(K:b<l.length->opens l c b) :
  HunkIs x y l c a b (V8 l x y (vT l x.length c a b)):=by
 have z:a<l.length:=by omega
 obtain⟨q1,q2,q3⟩:=h.before I z V;obtain⟨w1,w2,w3,w4,w5⟩:=h.after I hb K (by omega);obtain⟨R,S⟩:=h.made I V (b-a) (by omega) (fun e=>by omega);rw[sD _ _ _ (by omega)]at R;rw[HB _ _ _ (by omega)]at S;rw[show a+(b-a)=b by omega]at R S;obtain⟨r1,r2,r3,r4⟩:=h.nn a (by omega);obtain⟨s1,s2,s3,s4⟩:=h.nn b hb;obtain⟨k1,⟨k2,aj⟩,k3,⟨k4,ak⟩,k5,k6,k7,k8⟩:=x3 _ _ _ _ _ _ h.sc a z;have J:b-1<l.length:=by omega
 obtain⟨g1,⟨g2,ac⟩,g3,⟨g4,ae⟩,g5,g6,g7,g8⟩:=x3 _ _ _ _ _ _ h.sc (b-1) J;have eo:z1 0 l b=(J7 l (b-1)).Old+(J7 l (b-1)).OldLen:=by unfold z1;rw[A5 (by omega)];rfl
 have en:eV 0 l b=(J7 l (b-1)).New+(J7 l (b-1)).NewLen:=by unfold eV;rw[A5 (by omega)];rfl
 have mo:=h.ok.mono a (b-1) (by omega) (by omega);have mn:(J7 l a).New<=eV 0 l b:=by
  have m4:∀u,a+u<=l.length->(J7 l a).New<=eV 0 l (a+u)\/u=0:=by
   intro u;induction u with
   | zero=>exact fun _=>.inr rfl
   | succ u M =>
    intro hu;obtain⟨C,e2,⟨e3,X⟩,⟨Y,Z⟩,e5,e6,e7,e8⟩:=x3 _ _ _ _ _ _ h.sc (a+u) (by omega);have e9:eV 0 l (a+(u+1))=(J7 l (a+u)).New+(J7 l (a+u)).NewLen:=rfl;rcases M (by omega) with U | U
    ·left;omega
    ·left;subst U;rw[e9];show (J7 l a).New<=(J7 l a).New+(J7 l a).NewLen;exact Int.le_add_of_nonneg_right Y
  have:=(m4 (b-a) (by omega)).resolve_right (by omega)
  rwa[show a+(b-a)=b by omega]at this
 have hF:(vT l x.length c a b).First.toNat=a:=by show ((a:Int)).toNat=a;omega
 have hL:(vT l x.length c a b).Last.toNat-(vT l x.length c a b).First.toNat=b-a:=by
  show (((b-1:Nat):Int)+1).toNat-((a:Int)).toNat=b-a;omega
 have G:(vT l x.length c a b).Old.From=(J7 l a).Old-eA l c a:=rfl;have af:(vT l x.length c a b).New.From=(J7 l a).New-eA l c a:=rfl;have H:(vT l x.length c a b).Old.To=z1 0 l b+eB l x.length c b:=by
  unfold eB;rw[eo];rfl
 obtain⟨P,A⟩:∃P,P=V8 l x y (vT l x.length c a b):=⟨_,rfl⟩
 have f:P.Lines=x2 l x y ((J7 l a).Old-eA l c a) a (b-a)++bM 32 (sub x (z1 0 l b) (z1 0 l b+eB l x.length c b)):=by
  rw[A];unfold V8;show x2 l x y _ (vT l x.length c a b).First.toNat ((vT l x.length c a b).Last.toNat-(vT l x.length c a b).First.toNat)++bM 32 (sub x (bN l _ (vT l x.length c a b).First.toNat ((vT l x.length c a b).Last.toNat-(vT l x.length c a b).First.toNat)) _)=_;rw[hL,hF,G,H,sD _ _ _ (by omega),show a+(b-a)=b by omega]
 have q:P.Old=(J7 l a).Old-eA l c a:=by rw[A];rfl
 have p:P.New=(J7 l a).New-eA l c a:=by rw[A];rfl
 have j:G6 P.Lines 43=sub x ((J7 l a).Old-eA l c a) (z1 0 l b+eB l x.length c b):=by
  rw[f,dW,dX,A5 (by decide),R];exact dU x (by omega) (by omega) (by omega)
 have k:G6 P.Lines 45=sub y ((J7 l a).New-eA l c a) (eV 0 l b+eB l x.length c b):=by
  rw[f,dW,dX,A5 (by decide),S,w5];exact dU y (by omega) (by omega) (by omega)
 have ai:aU P=z1 0 l b+eB l x.length c b-((J7 l a).Old-eA l c a):=by
  unfold aU;rw[j];exact dV x (by omega) (by omega) (by omega)
 have ah:cY P=eV 0 l b+eB l x.length c b-((J7 l a).New-eA l c a):=by
  unfold cY;rw[k];exact dV y (by omega) (by omega) (by omega)
 rw[<-A];refine⟨q,p,by omega,by omega,by omega,by omega,by omega,by omega,?_,?_,?_,?_⟩
 ·rw[j];congr 1
  ·exact q.symm
  ·omega
 ·rw[k];congr 1
  ·exact p.symm
  ·omega
 ·rw[f,sE];have e:x2 l x y ((J7 l a).Old-eA l c a) a (b-a)=x2 l x y ((J7 l a).Old-eA l c a) a (b-1-a+1):=by congr 1;omega
  rw[e];simp only[x2,sE];rw[show a+(b-1-a)=b-1 by omega];have Q:cL (bM 45 (sub x (J7 l (b-1)).Old (eT (J7 l (b-1)))))=true\/cL (bM 43 (sub y (J7 l (b-1)).New ((J7 l (b-1)).New+(J7 l (b-1)).NewLen)))=true:=by
   obtain⟨E,ad⟩:=g3;obtain⟨D,ab⟩:=g1;by_cases h0:(J7 l (b-1)).OldLen=0
   ·right;refine sF (by decide) fun B=>?_;have:=dV y (a:=(J7 l (b-1)).New) (b:=(J7 l (b-1)).New+(J7 l (b-1)).NewLen) E (by omega) (by omega);rw[B]at this;simp at this;omega
   ·left;refine sF (by decide) fun B=>?_;have:=dV x (a:=(J7 l (b-1)).Old) (b:=eT (J7 l (b-1))) D (by unfold eT;omega) (by unfold eT;omega);rw[B]at this;unfold eT at this;simp at this;omega
  rcases Q with C | C<;>rw[C]<;>simp
 ·intro W hy;rw[f,YS,oN W hy,Bool.true_and];exact dY (.inl rfl) (fun s hs=>W s (pS hs))
theorem ScFit.hunks(h:ScFit x y l){c:Int}(D:0<=c)(L:∀s∈x,Z3 s=true)(M:∀s∈y,Z3 s=true):∀(g:List Hunk) (a:Nat),GrOk l x.length c a g l.length ->
  ∀(i j e:Int),i=z1 0 l a+e->j=eV 0 l a+e->0<=e->e<=c->(a=0->e=0) ->
  nH i j (g.map (V8 l x y))=true/\(N7 (g.map (V8 l x y)) 43).Sublist (x.drop i.toNat)/\(N7 (g.map (V8 l x y)) 45).Sublist (y.drop j.toNat) /\
   ∀p∈g.map (V8 l x y),(p.Old+aU p<=x.length/\p.New+cY p<=y.length/\0<=p.Old/\0<=p.New)/\G6 p.Lines 43=sub x p.Old (p.Old+aU p)/\G6 p.Lines 45=sub y p.New (p.New+cY p)
 | [],a,_,i,j,e,_,_,_,_,_=>⟨rfl,by simp[N7],by simp[N7],by simp⟩
 | K::g,a,⟨b,hab,ho,hE,w⟩,i,j,e,hi,hj,he,hec,he0=>by
  have hb:=w.le;have A:b<l.length->opens l c b:=by
   intro X;cases g with
   | nil=>exact absurd w (by show ¬b=l.length;omega)
   | cons I Y=>obtain⟨_,_,F,_⟩:=w;exact F
  obtain⟨w1,w2,w3,w4,w5⟩:=h.after D hb A (by omega);obtain⟨q1,q2,q3⟩:=h.before D (show a<l.length by omega) ho;have H:=h.hunk D hab hb ho A;rw[<-hE]at H;obtain⟨P,C⟩:∃P,P=V8 l x y K:=⟨_,rfl⟩
  rw[<-C]at H;obtain⟨Z,i2,i3,i4⟩:=ScFit.hunks h D L M g b w (P.Old+aU P) (P.New+cY P) (eB l x.length c b) H.oe H.ne w1 w2 (by omega);obtain⟨k1,⟨k2,ab⟩,k3,⟨k4,ac⟩,k5,k6,k7,k8⟩:=x3 _ _ _ _ _ _ h.sc a (show a<l.length by omega);have R:=H.old;have I:=H.new;have T:=H.o0;have U:=H.n0;have V:=H.ox;have W:=H.ny;have h7:=h.lx;have h8:=h.ly;have n1:0<=aU P:=by unfold aU;omega
  have n2:0<=cY P:=by unfold cY;omega
  have J:e+eA l c a<=(J7 l a).Old-z1 0 l a:=by
   by_cases E:a=0
   ·have:=he0 E;omega
   ·have:=gS ho E;omega
  obtain⟨r1,r2,r3,r4⟩:=h.nn a (by omega);have n:i<=P.Old/\j<=P.New/\P.Old-i=P.New-j/\0<=i/\0<=j:=by omega
  have q:∀(z:List Str) (i f t:Int),0<=i->i<=f->f<=t->∀r:List Str,r.Sublist (z.drop t.toNat)->(sub z f t++r).Sublist (z.drop i.toNat):=by
   intro z i f t E R I r w;have N:z.drop f.toNat=sub z f t++z.drop t.toNat:=by
    unfold sub;rw[show t.toNat=f.toNat+(t.toNat-f.toNat) by omega,<-List.drop_drop,show f.toNat+(t.toNat-f.toNat)-f.toNat=t.toNat-f.toNat by omega,YH]
   have Q:z.drop f.toNat=(z.drop i.toNat).drop (f.toNat-i.toNat):=by rw[List.drop_drop];congr 1;omega
   refine List.Sublist.trans ?_ (List.drop_sublist (f.toNat-i.toNat) (z.drop i.toNat));rw[<-Q,N];exact List.Sublist.append_left w _
  have B:∀(k:UInt8),N7 ((K::g).map (V8 l x y)) k=G6 P.Lines k++N7 (g.map (V8 l x y)) k:=by
   intro k;rw[C];simp[N7]
  refine⟨?_,?_,?_,?_⟩
  ·rw[XK,<-C];simp only[nH,H.gl L M,Z,Bool.and_true,Bool.true_and,WU,decide_eq_true_eq];refine⟨?_,by omega⟩;unfold lP;rw[H.ch];rintro (((((v | v) | v) | v) | v) | v)
   ·cases v
   all_goals omega
  ·rw[B,H.ol];exact q x i P.Old (P.Old+aU P) n.2.2.2.1 n.1 (by omega) _ i2
  ·rw[B,H.nl];exact q y j P.New (P.New+cY P) n.2.2.2.2 n.2.1 (by omega) _ i3
  ·rw[XK,<-C];intro p G;rcases XB.1 G with rfl | G
   ·exact⟨⟨V,W,T,U⟩,H.ol,H.nl⟩
   ·exact i4 p G
theorem lR:∀{s z:List Str},s.Sublist z->u7 z=true->u7 s=true:=by
 intro s z e;induction e with
 | slnil=>exact fun h=>h
 | cons a _ d =>
  intro h;simp only[u7,WU]at h;exact d h.2
 | cons_cons a b d =>
  intro h;simp only[u7,WU,XR]at h ⊢;refine⟨?_,d h.2⟩;rcases h.1 with c | c
  ·left;rw[List.isEmpty_iff]at c ⊢;rw[c]at b;exact List.sublist_nil.1 b
  ·exact .inr c
def c9(l:List Change)(x y:List Str)(b:Int):List PatchHunk:=(V7 l x.length b l.length).map (V8 l x y)
theorem ScFit.good(h:ScFit x y l){a:Int}(b:0<=a)(i:∀s∈x,Z3 s=true)(j:∀s∈y,Z3 s=true)(c:u7 x=true)(d:u7 y=true):nI (c9 l x y a)=true:=by
 obtain⟨e,f,g,_⟩:=h.hunks b i j _ 0 (dT l x.length a l.length) 0 0 0 rfl rfl (Int.le_refl _) b (fun _=>rfl);unfold nI EU c9;rw[e,lR f (by simpa using c),lR g (by simpa using d)];rfl
theorem ScFit.texts(h:ScFit x y l){a:Int}(b:0<=a)(c:∀s∈x,Z3 s=true)(d:∀s∈y,Z3 s=true):∀p∈c9 l x y a,(p.Old+aU p<=x.length/\p.New+cY p<=y.length/\0<=p.Old/\0<=p.New)/\G6 p.Lines 43=sub x p.Old (p.Old+aU p)/\G6 p.Lines 45=sub y p.New (p.New+cY p) :=
 (h.hunks b c d _ 0 (dT l x.length a l.length) 0 0 0 rfl rfl (Int.le_refl _) b (fun _=>rfl)).2.2.2
theorem nJ{m n:Int}(c:J2 m)(d:J2 n):∀(p:List Span) (i j i0 a:Int) (b:Nat),Asc m n i j p->0<=i0->0<=a->i0<=i->i-i0=j-a->(0<b->i0<i)->K7 b i0 a (V4 i j p m n) m n=true
 | [],i,j,i0,a,b,ha,h1,h2,h3,h4,h5=>by
  obtain⟨e,a2⟩:i<=m/\j<=n:=ha;obtain⟨k,l⟩:=c;obtain⟨o,q⟩:=d;unfold V4;split
  ·rename_i f;simp only[K7,WU,decide_eq_true_eq];refine⟨?_,by omega⟩;unfold sA J2;show ¬(((((((¬(0<=i/\i<=4096)\/¬(0<=m-i/\m-i<=4096))\/¬(0<=j/\j<=4096))\/¬(0<=n-j/\n-j<=4096))\/m-i+(n-j)=0)\/i-i0≠j-a)\/i<i0)\/(0<(b:Int)/\i=i0));omega
  ·simp only[K7,decide_eq_true_eq];omega
 | x::r,i,j,i0,a,b,ha,h1,h2,h3,h4,h5=>by
  obtain⟨e,a2,a3⟩:=ha;have g:=a3.le;unfold V4;split
  ·rename_i f;simp only[XQ,YD,K7,WU,decide_eq_true_eq];refine⟨?_,?_⟩
   ·obtain⟨k,l⟩:=c;obtain⟨o,q⟩:=d;unfold sA J2;show ¬(((((((¬(0<=i/\i<=4096)\/¬(0<=x.From-i/\x.From-i<=4096))\/¬(0<=j/\j<=4096))\/¬(0<=x.To-j/\x.To-j<=4096))\/x.From-i+(x.To-j)=0)\/i-i0≠j-a)\/i<i0)\/(0<(b:Int)/\i=i0));omega
   ·exact nJ c d r _ _ _ _ _ a3 (by omega) (by omega) (by omega) (by omega) (fun _=>by omega)
  ·rw[YD];exact nJ c d r _ _ _ _ _ a3 h1 h2 (by omega) (by omega) (fun h=>by omega)
def PK(X Y:List Str)(s:Span):Prop:=0<=s.From/\0<=s.To/\∃v,X[s.From.toNat]?=some v/\Y[s.To.toNat]?=some v
theorem cZ{X:List Str}{a b:Int}{v:Str}(c:0<=a)(d:a<=b)(g:X[b.toNat]?=some v):sub X a (b+1)=sub X a b++[v]:=by
 rw[<-dU X c d (by omega:b<=b+1)]
 congr 1
 unfold sub;obtain⟨f,e⟩:=List.getElem?_eq_some_iff.1 g;rw[XA f,e,show (b+1).toNat-b.toNat=1 by omega];rfl
theorem nK{X Y:List Str}:∀(p:List Span) (i j i0 b:Int),Asc X.length Y.length i j p->0<=i0->0<=b->i0<=i->b<=j->(∀s∈p,PK X Y s)->sub X i0 i=sub Y b j->fS X Y i0 b (V4 i j p X.length Y.length)
 | [],i,j,i0,b,ha,h1,h2,h3,h4,he,a=>by
  obtain⟨g,a2⟩:i<=(X.length:Int)/\j<=(Y.length:Int):=ha;unfold V4;split
  ·refine⟨a,?_⟩;show sub X (i+(X.length-i)) X.length=sub Y (j+(Y.length-j)) Y.length;rw[show i+((X.length:Int)-i)=X.length by omega,show j+((Y.length:Int)-j)=Y.length by omega,bO,bO]
  ·have c:(X.length:Int)=i:=by omega
   have d:(Y.length:Int)=j:=by omega
   show sub X i0 X.length=sub Y b Y.length;rw[c,d];exact a
 | x::r,i,j,i0,b,ha,h1,h2,h3,h4,he,a=>by
  obtain⟨g,a2,a3⟩:=ha;obtain⟨_,_,v,f,v2⟩:=he x (by simp);have e:∀s∈r,PK X Y s:=fun s a=>he s (by simp[a]);unfold V4;split
  ·refine⟨a,?_⟩;show fS X Y (i+(x.From-i)) (j+(x.To-j)) (V4 (x.From+1) (x.To+1) r X.length Y.length);rw[show i+(x.From-i)=x.From by omega,show j+(x.To-j)=x.To by omega];refine nK r _ _ _ _ a3 (by omega) (by omega) (by omega) (by omega) e ?_;rw[cZ (by omega) (Int.le_refl _) f,cZ (by omega) (Int.le_refl _) v2,bO,bO]
  ·have c:x.From=i:=by omega
   have d:x.To=j:=by omega
   rw[YD];refine nK r _ _ _ _ a3 h1 h2 (by omega) (by omega) e ?_;rw[cZ h1 (by omega) f,cZ h2 (by omega) v2,c,d,a]
theorem JO:∀(a b:List Int) (p q:Int),∀s∈K6 p q a b,p<=s.From/\q<=s.To/\∃v,a[(s.From-p).toNat]?=some v/\b[(s.To-q).toNat]?=some v:=by
 intro a;induction a with
 | nil=>intro b p q s c;simp[K6]at c
 | cons x a g =>
  intro b;induction b with
  | nil=>intro p q s c;simp[K6]at c
  | cons y b h =>
   intro p q s c;unfold K6 at c;split at c
   ·rename_i e;rcases XB.1 c with rfl | c
    ·exact⟨Int.le_refl _,Int.le_refl _,x,by simp,by simp[e]⟩
    ·obtain⟨i,j,v,d,f⟩:=g b (p+1) (q+1) s c;refine⟨by omega,by omega,v,?_,?_⟩
     ·rw[show (s.From-p).toNat=(s.From-(p+1)).toNat+1 by omega];simpa using d
     ·rw[show (s.To-q).toNat=(s.To-(q+1)).toNat+1 by omega];simpa using f
   ·split at c
    ·obtain⟨i,j,v,d,f⟩:=g (y::b) (p+1) q s c;refine⟨by omega,by omega,v,?_,f⟩;rw[show (s.From-p).toNat=(s.From-(p+1)).toNat+1 by omega];simpa using d
    ·obtain⟨i,j,v,d,f⟩:=h p (q+1) s c;refine⟨by omega,by omega,v,d,?_⟩;rw[show (s.To-q).toNat=(s.To-(q+1)).toNat+1 by omega];simpa using f
theorem oO:∀(l:List Str) (s t:Str) (k:Int),0<=k->s∈l->t∈l->M6 l s k=M6 l t k->s=t
 | [],_,_,_,_,h,_,_=>by simp at h
 | x::r,s,t,k,hk,hs,ht,e=>by
  unfold M6 at e;by_cases b:x=s
  ·by_cases a:x=t
   ·exact b.symm.trans a
   ·rw[A4 b,A5 a]at e;have d:t∈r:=(XB.1 ht).resolve_left (fun q=>a q.symm);have:=rV r t (k+1) (by omega) d;omega
  ·have c:s∈r:=(XB.1 hs).resolve_left (fun q=>b q.symm);by_cases a:x=t
   ·rw[A5 b,A4 a]at e;have:=rV r s (k+1) (by omega) c;omega
   ·rw[A5 b,A5 a]at e;exact oO r s t (k+1) (by omega) c ((XB.1 ht).resolve_left (fun q=>a q.symm)) e
theorem vU{a f:List Str}{i:Nat}{v:Int}(h:(K3 a f)[i]?=some v):∃s,f[i]?=some s/\M6 a s 0=v:=by
 unfold K3 at h;rw[YE]at h;cases b:f[i]? with
 | none=>rw[b]at h;cases h
 | some s=>rw[b]at h;exact⟨s,rfl,Option.some.inj h⟩
theorem jW(x y:List Str)(q:x.length<=4096)(r:y.length<=4096):ScFit x y (P1 x y):=by
 have b:(K3 (F9 [x,y]) x).length=x.length:=by simp[K3]
 have c:(K3 (F9 [x,y]) y).length=y.length:=by simp[K3]
 have a:=rU (K3 (F9 [x,y]) x) (K3 (F9 [x,y]) y) 0 0;rw[b,c,Int.zero_add,Int.zero_add]at a;refine⟨by omega,by omega,?_,?_⟩
 ·unfold P1 jR fP;rw[b,c];exact nJ ⟨by omega,by omega⟩ ⟨by omega,by omega⟩ _ _ _ _ _ _ a (Int.le_refl _) (Int.le_refl _) (Int.le_refl _) rfl (fun h=>absurd h (by omega))
 ·unfold P1 jR fP;rw[b,c];refine nK _ _ _ _ _ a (Int.le_refl _) (Int.le_refl _) (Int.le_refl _) (Int.le_refl _) ?_ (by rw[bO,bO]);intro s m;obtain⟨j,k,v,d,f⟩:=JO _ _ _ _ s m;rw[Int.sub_zero]at d f;obtain⟨u,i,o⟩:=vU d;obtain⟨w,w1,p⟩:=vU f;have e:u=w:=oO (F9 [x,y]) u w 0 (Int.le_refl _) (oK _ _ x (by simp) (XL i)) (oK _ _ y (by simp) (XL w1)) (o.trans p.symm);subst e;exact⟨j,k,u,i,w1⟩
theorem vV:∀(b:List PatchLine),b.all jV=true->(b.map RJ).sum<=64*((G6 b 43).length+(G6 b 45).length)+((G6 b 43).flatten.length+(G6 b 45).flatten.length)
 | [],_=>by simp
 | q::b,h=>by
  rw[List.all_cons,WU]at h;have x:=vV b h.2;have v:q.Kind=32\/q.Kind=45\/q.Kind=43:=by
   have c:=h.1;unfold jV at c;have c:=A0 c;by_cases d:q.Kind=32
   ·exact .inl d
   by_cases j:q.Kind=45
   ·exact .inr (.inl j)
   by_cases o:q.Kind=43
   ·exact .inr (.inr o)
   exact absurd (.inl ⟨⟨d,j⟩,o⟩) c
  have p:∀k:UInt8,G6 (q::b) k=if q.Kind≠k then q.Text::G6 b k else G6 b k:=by
   intro k;unfold G6;by_cases e:q.Kind=k
   ·rw[A5 (by simpa using e),List.filter_cons_of_neg (by simpa using e)]
   ·rw[A4 e,List.filter_cons_of_pos (by simpa using e)];rfl
  rw[p 43,p 45,XK,List.sum_cons];have w:RJ q=q.Text.length+64:=rfl;rcases v with e | e | e<;>rw[e]<;>simp (decide:=true) only [if_true,if_false,ne_eq,not_true_eq_false,not_false_eq_true,WW,YI,WX]<;>omega
theorem lS:∀(c:List PatchHunk) (i j:Int),nH i j c=true->OB c<=128*((N7 c 43).length+(N7 c 45).length)+((N7 c 43).flatten.length+(N7 c 45).flatten.length)
 | [],_,_,_=>by simp[OB]
 | h :: c,i,j,hg=>by
  simp only[nH,WU,decide_eq_true_eq]at hg;obtain⟨z,A,F,B⟩:=hg;have E:=lS c _ _ B;have G:=vV h.Lines z;have C:1<=h.Lines.length:=by
   cases D:h.Lines with
   | nil=>exact absurd (.inl (.inl (.inl (.inl (.inl (by rw[D];rfl)))))) A
   | cons a b=>simp
  have w:h.Lines.length<=(G6 h.Lines 43).length+(G6 h.Lines 45).length:=by
   have:64*h.Lines.length<=(h.Lines.map RJ).sum:=PI h.Lines;have v:∀d:List PatchLine,d.length<=(G6 d 43).length+(G6 d 45).length:=by
    intro d;induction d with
    | nil=>simp
    | cons q d E =>
     have x:∀k:UInt8,(G6 (q::d) k).length=if q.Kind≠k then (G6 d k).length+1 else (G6 d k).length:=by
      intro k;unfold G6;by_cases e:q.Kind=k
      ·rw[A5 (by simpa using e),List.filter_cons_of_neg (by simpa using e)]
      ·rw[A4 e,List.filter_cons_of_pos (by simpa using e)];simp
     rw[x 43,x 45,WW];by_cases e:q.Kind=43
     ·have y:q.Kind≠45:=by rw[e];decide
      rw[A4 y];split<;>omega
     ·rw[A4 e];split<;>omega
   exact v h.Lines
  have r:OB (h::c)=VF h+OB c:=by simp[OB]
  have p:VF h=64+(h.Lines.map RJ).sum:=rfl;have o:∀k,N7 (h::c) k=G6 h.Lines k++N7 c k:=by intro k;simp[N7]
  rw[r,p,o 43,o 45];simp only[WX,YL];omega
theorem oP:∀{s z:List Str},s.Sublist z->s.flatten.length<=z.flatten.length:=by
 intro s z b;induction b with
 | slnil=>exact Nat.le_refl _
 | cons a _ c=>simp only[YI,WX];omega
 | cons_cons a _ c=>simp only[YI,WX];omega
theorem ScFit.size{x y:List Str}{l:List Change}(h:ScFit x y l){c:Int}(k:0<=c)(q:∀s∈x,Z3 s=true)(r:∀s∈y,Z3 s=true):OB (c9 l x y c)<=128*(x.length+y.length)+(x.flatten.length+y.flatten.length):=by
 obtain⟨n,g,j,_⟩:=h.hunks k q r _ 0 (dT l x.length c l.length) 0 0 0 rfl rfl (Int.le_refl _) k (fun _=>rfl);have o:=lS _ _ _ n;have e:c9 l x y c=(V7 l x.length c l.length).map (V8 l x y):=rfl;rw[<-e]at g j o;have d:(N7 (c9 l x y c) 43).Sublist x:=by simpa using g
 have f:(N7 (c9 l x y c) 45).Sublist y:=by simpa using j
 have:=d.length_le;have:=f.length_le;have:=oP d;have:=oP f;omega
theorem sG(s:Str):∀b:Str,(I0 b s).flatten=b++s:=by
 induction s with
 | nil=>intro b;unfold I0;split<;>simp[*]
 | cons c r d=>intro b;rw[cI];split<;>simp[d]
theorem EX(a:Str):(D4 a).flatten.length=a.length/\(D4 a).length<=a.length:=⟨by unfold D4;rw[sG];rfl,aM a⟩
abbrev jX:Int->Nat->Cell:=fun x _=>.v (.int .u16 x)
abbrev UB(l:List Int):PV:=.one (.list Int 1 jX l)
theorem EY(n:Int)(h:0<=n/\n<65536):IntKind.u16.wrap n=n:=by
 simp[IntKind.wrap,IntKind.signed,IntKind.bits];omega
def flat(a b:List Int)(done:Nat->Nat->Bool):List Int :=
 (List.range ((a.length+1)*(b.length+1))).map fun p=>if done (p / (b.length+1)) (p % (b.length+1))=true then (dist (a.drop (p / (b.length+1))) (b.drop (p % (b.length+1))):Int) else 0
theorem oQ(a b:List Int)(done:Nat->Nat->Bool):(flat a b done).length=(a.length+1)*(b.length+1):=by simp[flat]
theorem pT{a b:List Int}{i j:Nat}(c:i<=a.length)(d:j<=b.length):i*(b.length+1)+j<(a.length+1)*(b.length+1)/\(i*(b.length+1)+j) / (b.length+1)=i/\(i*(b.length+1)+j) % (b.length+1)=j:=by
 refine⟨?_,?_,?_⟩
 ·have:(i+1)*(b.length+1)<=(a.length+1)*(b.length+1):=XI _ (by omega);rw[XV,Nat.one_mul]at this;omega
 ·rw[Nat.mul_comm,Nat.mul_add_div (by omega),Nat.div_eq_of_lt (by omega),Nat.add_zero]
 ·rw[Nat.mul_comm,Nat.mul_add_mod,Nat.mod_eq_of_lt (by omega)]
theorem sH{a b:List Int}{done:Nat->Nat->Bool}{i j:Nat}(f:i<=a.length)(g:j<=b.length):(flat a b done)[i*(b.length+1)+j]?=some (if done i j=true then (dist (a.drop i) (b.drop j):Int) else 0):=by
 obtain⟨c,d,e⟩:=pT f g;unfold flat
 rw[JI _ _ _ c,d,e]
theorem BC{a b:List Int}{done c:Nat->Nat->Bool}{i j:Nat}{v:Int}(n:i<=a.length)(o:j<=b.length)(x:v=(dist (a.drop i) (b.drop j):Int))(m:c i j=true)
  (p:∀r q,r<=a.length->q<=b.length->¬(r=i/\q=j)->c r q=done r q):(flat a b done).set (i*(b.length+1)+j) v=flat a b c:=by
 obtain⟨y,k,l⟩:=pT n o;unfold flat
 refine vP _ _ _ _ _ (fun _=>?_) (fun q u d=>?_)
 ·rw[k,l,A4 m,x]
 ·have f:0<b.length+1:=by omega
  have e:=Nat.div_add_mod q (b.length+1);have w:q / (b.length+1)<=a.length:=by
   have:=(Nat.div_lt_iff_lt_mul f).2 u;omega
  have z:=Nat.mod_lt q f;rw[p _ _ w (by omega) (fun ⟨g,h⟩=>d (by rw[g,h,Nat.mul_comm]at e;exact e.symm))]
theorem JP(a b:List Int):List.replicate ((a.length+1)*(b.length+1)) 0=flat a b (fun _ _=>false):=by
 unfold flat
 simp only[Bool.false_eq_true,if_false];rw[List.map_const',YG]
theorem dZ{a b:List Int}{done c:Nat->Nat->Bool}(h:∀r q,r<=a.length->q<=b.length->(done r q=c r q\/dist (a.drop r) (b.drop q)=0)):flat a b done=flat a b c:=by
 unfold flat
 apply List.map_congr_left;intro p d;have d:=XE.1 d;have f:0<b.length+1:=by omega
 have g:p / (b.length+1)<=a.length:=by have:=(Nat.div_lt_iff_lt_mul f).2 d;omega
 have i:=Nat.mod_lt p f;rcases h (p / (b.length+1)) (p % (b.length+1)) g (by omega) with e | e
 ·rw[e]
 ·rw[e];simp
def T8:List Int->List Int->Nat
 | x::a,y::b=>if x=y then T8 a b+1 else 0
 | _,_=>0
theorem BD:∀(a b:List Int),T8 a b<=a.length/\T8 a b<=b.length
 | [],_=>by simp[T8]
 | _::_,[]=>by simp[T8]
 | x::a,y::b=>by
  have:=BD a b;unfold T8;simp only[WW];split<;>omega
theorem sJ(a b:List Int)(k:Nat)(d:k<a.length)(c:k<b.length):T8 (a.drop k) (b.drop k)=if a[k]=b[k] then T8 (a.drop (k+1)) (b.drop (k+1))+1 else 0:=by
 rw[XA d,XA c];rfl
theorem JQ(a b:List Int)(k:Nat)(h:¬(k<a.length/\k<b.length)):T8 (a.drop k) (b.drop k)=0:=by
 by_cases c:k<a.length
 ·rw[XO (as:=b) (by omega)];cases a.drop k<;>rfl
 ·rw[XO (as:=a) (by omega)];rfl
theorem sK:∀(a b:List Int) (p q:Int),K6 p q a b=N9 p q (T8 a b)++K6 (p+T8 a b) (q+T8 a b) (a.drop (T8 a b)) (b.drop (T8 a b))
 | [],b,p,q=>by simp[T8,y9]
 | x::a,[],p,q=>by simp[T8,y9]
 | x::a,y::b,p,q=>by
  unfold T8;by_cases h:x=y
  ·rw[A4 h]
   conv=>lhs;unfold K6
   rw[A4 h,sK a b (p+1) (q+1),yB];simp only[List.drop_succ_cons,XQ];rw[show p+1+(T8 a b:Int)=p+((T8 a b+1:Nat):Int) by omega,show q+1+(T8 a b:Int)=q+((T8 a b+1:Nat):Int) by omega]
  ·rw[A5 h];simp[y9]
def GrX(l:List Change)(m d:Int):Nat->List Hunk->Nat->Prop
 | a,[],k=>a=k
 | a,h::r,k=>∃b,a<b/\opens l d a/\(∀c,a<c->c<b->¬opens l d c)/\h=vT l m d a b/\GrX l m d b r k
theorem GrX.le{l:List Change}{m c:Int}:∀{d:List Hunk} {a k:Nat},GrX l m c a d k->a<=k
 | [],a,k,h=>Nat.le_of_eq h
 | _::_,a,k,⟨b,h1,_,_,_,h2⟩=>by have:=GrX.le h2;omega
theorem GrX.snoc{l:List Change}{m d:Int}{k n:Nat}(g:opens l d k)(f:k<n)(e:∀c,k<c->c<n->¬opens l d c):∀{i:List Hunk} {a:Nat},GrX l m d a i k->GrX l m d a (i++[vT l m d k n]) n
 | [],a,h=>by
  obtain rfl:a=k:=h;exact⟨n,f,g,e,rfl,rfl⟩
 | _::_,a,⟨b,h1,h2,h3,h4,h5⟩=>⟨b,h1,h2,h3,h4,GrX.snoc g f e h5⟩
theorem GrX.last{l:List Change}{m d:Int}{k:Nat}(f:¬opens l d k):∀{e:List Hunk} {a:Nat},GrX l m d a e k->e≠[]->GrX l m d a (e.set (e.length-1) (lO l m d k (e.getD (e.length-1) GX))) (k+1)
 | [],_,_,h0=>absurd rfl h0
 | [h],a,⟨b,h1,h2,h3,h4,h5⟩,_=>by
  obtain rfl:b=k:=h5;subst h4;refine⟨b+1,by omega,h2,fun c g j=>?_,rfl,rfl⟩;by_cases i:c=b
  ·rw[i];exact f
  ·exact h3 c g (by omega)
 | h::h'::r,a,⟨b,h1,h2,h3,h4,h5⟩,_=>by
  have n:=GrX.last f h5 (by simp);refine⟨b,h1,h2,h3,h4,?_⟩;simpa using n
theorem GrX.len{l:List Change}{m c:Int}:∀{d:List Hunk} {a k:Nat},GrX l m c a d k->d.length<=k-a
 | [],_,_,_=>Nat.zero_le _
 | _::_,a,k,⟨b,h1,_,_,_,h2⟩=>by have:=GrX.len h2;have:=h2.le;simp only[WW];omega
def z6:List Str->Int->List (Str×Cell)
 | [],_=>[]
 | s::r,i=>(s,.v (.int .i64 i))::z6 r (i+1)
theorem vW(s:Str):∀(l:List Str) (i:Int),z6 (l++[s]) i=z6 l i++[(s,.v (.int .i64 (i+l.length)))]
 | [],i=>by simp[z6]
 | x::r,i=>by
  simp only[XQ,z6,vW s r,WW];rw[show i+1+(r.length:Int)=i+((r.length+1:Nat):Int) by omega]
theorem vX(s:Str):∀(l:List Str) (i:Int),s∈l->L6 (z6 l i) s=some (.v (.int .i64 (M6 l s i)))
 | [],_,h=>by simp at h
 | x::r,i,h=>by
  simp only[z6,L6,M6];by_cases a:x=s
  ·rw[A4 a,A4 a]
  ·rw[A5 a,A5 a];exact vX s r (i+1) ((XB.1 h).resolve_left (fun q=>a q.symm))
theorem sL(s:Str):∀(l:List Str) (i:Int),s∉l->L6 (z6 l i) s=none
 | [],_,_=>rfl
 | x::r,i,h=>by
  simp only[z6,L6];rw[A5 (fun q=>h (by simp[q]))];exact sL s r (i+1) (fun q=>h (by simp[q]))
theorem fU(s:Str)(r:List Str):∀(l:List Str) (i:Int),s∈l->M6 (l++r) s i=M6 l s i
 | [],_,h=>by simp at h
 | x::l,i,h=>by
  simp only[XQ,M6];by_cases a:x=s
  ·rw[A4 a,A4 a]
  ·rw[A5 a,A5 a];exact fU s r l (i+1) ((XB.1 h).resolve_left (fun q=>a q.symm))
theorem oR(s:Str):∀(l:List Str) (i:Int),s∉l->M6 (l++[s]) s i=i+l.length
 | [],i,_=>by simp[M6]
 | x::l,i,h=>by
  simp only[XQ,M6,WW];rw[A5 (fun q=>h (by simp[q])),oR s l (i+1) (fun q=>h (by simp[q]))];omega
theorem lT:∀(l a:List Str),∃r,l.foldl M7 a=a++r
 | [],a=>⟨[],by simp⟩
 | s::l,a=>by
  obtain⟨r,b⟩:=lT l (M7 a s);rw[YA,b];unfold M7;split
  ·exact⟨r,rfl⟩
  ·exact⟨s::r,by simp⟩
def O0(files:List (List Str))(k j:Nat):List Str:=((files.take k).flatten++(files.getD k []).take j).foldl M7 []
theorem BE(files:List (List Str))(k:Nat):O0 files (k+1) 0=O0 files k (files.getD k []).length:=by
 unfold O0;rw[List.take_zero,YB,XF];by_cases h:k<files.length
 ·rw[bJ files k h]
  congr 2
  simp[h]
 ·rw[XN (by omega),XN (by omega)];have:files.getD k []=[]:=by simp[show files.length<=k by omega]
  rw[this,YB]
theorem yM(files:List (List Str))(k j:Nat)(s:Str)(h:(files.getD k [])[j]?=some s):O0 files k (j+1)=M7 (O0 files k j) s:=by
 unfold O0;have b:j<(files.getD k []).length:=(List.getElem?_eq_some_iff.1 h).1;have a:=(List.getElem?_eq_some_iff.1 h).2;rw[XZ b,a,<-XH,YP];rfl
theorem BF(files:List (List Str)):O0 files files.length 0=F9 files:=by
 unfold O0 F9;rw[XF];simp
theorem oS(files:List (List Str))(k j:Nat):∃r,F9 files=O0 files k j++r:=by
 have h:∃m,files.flatten=((files.take k).flatten++(files.getD k []).take j)++m:=by
  refine⟨(files.getD k []).drop j++(files.drop (k+1)).flatten,?_⟩;by_cases b:k<files.length
  ·have e:files=files.take k++files.getD k []::files.drop (k+1):=by
    have:files.getD k []=files[k]:=by simp[b]
    rw[this,List.getElem_cons_drop,YH]
   conv=>lhs;rw[e]
   rw[YL,YI,XH]
   congr 1
   rw[<-XH,YH]
  ·have:files.getD k []=[]:=by simp[show files.length<=k by omega]
   rw[this,XN (by omega:files.length<=k),XO (by omega:files.length<=k+1)];simp
 obtain⟨m,c⟩:=h;unfold F9 O0;rw[c,YP];obtain⟨r,g⟩:=lT m (((files.take k).flatten++(files.getD k []).take j).foldl M7 []);exact⟨r,g⟩
theorem sM(files:List (List Str))(k j:Nat):(O0 files k j).length<=files.flatten.length:=by
 obtain⟨r,a⟩:=oS files k j;have:=rT files;rw[a,WX]at this;omega
def O7(files:List (List Str))(k:Nat):List TC:=(List.range files.length).map fun r=>if r<k then .p (.list Int 1 G1 (K3 (F9 files) (files.getD r []))) else .p (.v (.slice none 0 0))
theorem JR{files:List (List Str)}{k:Nat}(h:k<files.length):(O7 files k)[k]?=some (.p (.v (.slice none 0 0))):=by
 simp[O7,h]
theorem yN(files:List (List Str))(k m:Nat)(_h:k<files.length):((O7 files k).set k (.buf m Int 1 G1 (K3 (F9 files) (files.getD k [])))).map (TC.forget m)=O7 files (k+1):=by
 have c:(O7 files k).map (TC.forget m)=O7 files k:=by
  unfold O7;rw[YJ];apply List.map_congr_left;intro r _;simp only[Function.comp];split<;>rfl
 rw[List.map_set,c];have d:(TC.buf m Int 1 G1 (K3 (F9 files) (files.getD k []))).forget m=.p (.list Int 1 G1 (K3 (F9 files) (files.getD k []))):=by simp[TC.forget]
 rw[d];unfold O7;refine vP _ _ _ _ _ (fun _=>by simp) (fun q n j=>?_);simp only[show (q<k+1)=(q<k) from propext ⟨fun h=>by omega,fun h=>by omega⟩]
theorem EZ(files:List (List Str)):List.replicate files.length (TC.p (.v (.slice none 0 0)))=O7 files 0:=by
 unfold O7;simp only[Nat.not_lt_zero,if_false,List.map_const',YG]
theorem FA(files:List (List Str)):O7 files files.length=(files.map (K3 (F9 files))).map fun x=>TC.p (intsC x 0):=by
 unfold O7;apply List.ext_getElem
 ·simp
 ·intro i b d;have c:i<files.length:=by simpa using b
  simp[c,intsC]
theorem HC(m n:Int):∀(l:List Change) (a:Nat) (i j:Int),(∀k,k<l.length->J2 (J7 l k).Old/\J2 (J7 l k).OldLen/\J2 (J7 l k).New/\J2 (J7 l k).NewLen/\(J7 l k).OldLen+(J7 l k).NewLen≠0/\(J7 l k).Old-z1 i l k=(J7 l k).New-eV j l k/\z1 i l k<=(J7 l k).Old/\(0<a+k->z1 i l k<(J7 l k).Old)) ->
  (m-z1 i l l.length=n-eV j l l.length/\z1 i l l.length<=m)->K7 a i j l m n=true
 | [],a,i,j,_,h=>by
  have b:m-i=n-j/\i<=m:=h;simp only[K7,decide_eq_true_eq];omega
 | c::r,a,i,j,h,he=>by
  simp only[K7,WU,decide_eq_true_eq];refine⟨?_,HC m n r (a+1) _ _ (fun k E=>?_) ?_⟩
  ·obtain⟨b,f,g,o,p,s,u,t⟩:=h 0 (by simp);have b:J2 c.Old:=b;have f:J2 c.OldLen:=f;have g:J2 c.New:=g;have o:J2 c.NewLen:=o;have p:c.OldLen+c.NewLen≠0:=p;have s:c.Old-i=c.New-j:=s;have u:i<=c.Old:=u;have t:0<a+0->i<c.Old:=t;unfold sA;rintro (((((((q | q) | q) | q) | q) | q) | q) | ⟨q,G⟩)
   ·exact q b
   ·exact q f
   ·exact q g
   ·exact q o
   ·exact p q
   ·exact q s
   ·omega
   ·have:=t (by omega);omega
  ·have:=h (k+1) (by simpa using E);rw[lQ,u9,v6]at this;obtain⟨v,x,y,z,A,B,C,D⟩:=this;exact⟨v,x,y,z,A,B,C,fun F=>D (by omega)⟩
  ·rw[WW,u9,v6]at he;exact he
theorem HD(x y:List Str):∀(l:List Change) (i j:Int),(∀k,k<l.length->sub x (z1 i l k) (J7 l k).Old=sub y (eV j l k) (J7 l k).New)->sub x (z1 i l l.length) x.length=sub y (eV j l l.length) y.length->fS x y i j l
 | [],_,_,_,h=>h
 | c::r,i,j,h,he=>by
  refine⟨h 0 (by simp),HD x y r _ _ (fun k a=>?_) ?_⟩
  ·have:=h (k+1) (by simpa using a);rw[lQ,u9,v6]at this;exact this
  ·rw[WW,u9,v6]at he;exact he
theorem HF{x:List Str}{p q:Int}{t:Nat}(b:0<=p)(h:p+t<q):(sub x p q)[t]?=x[(p+t).toNat]?:=by
 unfold sub;rw[List.getElem?_take,A4 (by omega),XY]
 congr 1;omega
theorem yO{x y:List Str}{p q b d:Int}(h:sub x p q=sub y b d)(f:0<=p)(c:0<=b)(j:q<=x.length)(i:q-p=d-b){t:Nat}(g:p+t<q):∃v,x[(p+t).toNat]?=some v/\y[(b+t).toNat]?=some v:=by
 have e:x[(p+t).toNat]?=some x[(p+t).toNat]:=WT (by omega);refine⟨_,e,?_⟩;rw[<-HF (q:=d) c (by omega),<-h,HF f g];exact e
theorem oT{i j:Int}{n:Nat}{p:Span}(h:p∈N9 i j n):∃t:Nat,t<n/\p=⟨i+t,j+t⟩:=by
 unfold N9 at h;obtain⟨t,a,b⟩:=XU.1 h;exact⟨t,XE.1 a,b.symm⟩
theorem sN{x y:List Str}:∀(l:List Change) (e:Nat) (i j:Int),K7 e i j l x.length y.length=true->fS x y i j l->0<=i->0<=j->∀p∈T4 i j l x.length,PK x y p
 | [],e,i,j,hs,d,hi,hj,p,b=>by
  simp only[K7,decide_eq_true_eq]at hs;unfold T4 at b;obtain⟨t,s,rfl⟩:=oT b;have d:sub x i x.length=sub y j y.length:=d;exact⟨by dsimp only;omega,by dsimp only;omega,yO d hi hj (by omega) (by omega) (by omega)⟩
 | c::r,e,i,j,hs,d,hi,hj,p,b=>by
  have m:=bL _ _ _ _ _ _ hs;have g:=x3 x.length y.length (c::r) e i j hs 0 (by simp);obtain⟨g1,f,h,k,u,n,q,_⟩:=g;have g1:J2 c.Old:=g1;have f:J2 c.OldLen:=f;have h:J2 c.New:=h;have k:J2 c.NewLen:=k;have n:c.Old-i=c.New-j:=n;have q:i<=c.Old:=q;simp only[K7,WU,decide_eq_true_eq]at hs;unfold T4 at b;unfold J2 at g1 f h k;have v:=m.2.2.2.2.2.2.end_le;rcases WZ.1 b with b | b
  ·obtain⟨t,s,rfl⟩:=oT b;exact⟨by dsimp only;omega,by dsimp only;omega,yO d.1 hi hj (by omega) (by omega) (by omega)⟩
  ·rw[show max i c.Old+c.OldLen=c.Old+c.OldLen by omega,show j+((c.Old-i).toNat:Int)+c.NewLen=c.New+c.NewLen by omega]at b;exact sN r (e+1) _ _ hs.2 d.2 (by omega) (by omega) p b
theorem ScFit.pairs{x y:List Str}{l:List Change}(h:ScFit x y l):∀p∈R1 l x.length,PK x y p:=sN l 0 0 0 h.sc h.eq (Int.le_refl _) (Int.le_refl _)
def nL(c:Change):Change:=⟨c.Old+1,c.OldLen,c.New+1,c.NewLen⟩
def eC(l:List Change)(k:Nat):List Change:=l.set k (nL (J7 l k))
def OC(t:List Int)(i:Int):Int:=t.getD i.toNat 0
def HG(l:List Change)(k:Nat)(t:List Int)(f n:Int):Prop:=(f+n<t.length/\OC t f=OC t (f+n))/\(k+1=l.length\/(J7 l k).Old+(J7 l k).OldLen+1<(J7 l (k+1)).Old)
instance (l:List Change) (k:Nat) (t:List Int) (f n:Int):Decidable (HG l k t f n):=by unfold HG;exact inferInstance
def pU(l:List Change)(a b:List Int)(k:Nat):Bool :=
 if (J7 l k).NewLen=0 then decide (HG l k a (J7 l k).Old (J7 l k).OldLen) else if (J7 l k).OldLen=0 then decide (HG l k b (J7 l k).New (J7 l k).NewLen) else false
theorem n8(l:List Change)(k:Nat):(eC l k).length=l.length:=by simp[eC]
theorem gT(l:List Change){k:Nat}(a:k<l.length)(q:Nat):J7 (eC l k) q=if q=k then nL (J7 l k) else J7 l q:=by
 unfold eC;by_cases h:q=k
 ·subst h;have:∀z,J7 (l.set q z) q=z:=fun z=>by unfold J7;simp[a]
  rw[A4 rfl,this]
 ·rw[A5 h];unfold J7;simp only[XC];rw[List.getElem?_set_ne (Ne.symm h)]
theorem lU(l:List Change){k:Nat}(a:k<l.length)(q:Nat):z1 0 (eC l k) q=z1 0 l q+(if q=k+1 then 1 else 0):=by
 cases q with
 | zero=>simp[z1]
 | succ q =>
  rw[fQ,fQ,gT l a];by_cases h:q=k
  ·subst h;rw[A4 rfl,A4 rfl];simp only[eT,nL];omega
  ·rw[A5 h,A5 (by omega)];omega
theorem lV(l:List Change){k:Nat}(a:k<l.length)(q:Nat):eV 0 (eC l k) q=eV 0 l q+(if q=k+1 then 1 else 0):=by
 cases q with
 | zero=>simp[eV]
 | succ q =>
  rw[fR,fR,gT l a];by_cases h:q=k
  ·subst h;rw[A4 rfl,A4 rfl];simp only[yI,nL];omega
  ·rw[A5 h,A5 (by omega)];omega
structure IdsOf (x:List Str) (a:List Int):Prop where
 len:a.length=x.length
 inj:∀(i j:Nat) (u v:Str) (z:Int),x[i]?=some u->x[j]?=some v->a[i]?=some z->a[j]?=some z->u=v
theorem ScFit.down{x y:List Str}{l:List Change}{a b:List Int}(h:ScFit x y l)(ha:IdsOf x a)(hb:IdsOf y b){k:Nat}(m:k<l.length)(g:pU l a b k=true):ScFit x y (eC l k):=by
 have X:=h.lx;have Y:=h.ly;have Q:=x3 _ _ _ 0 0 0 h.sc;have u:=yJ _ _ _ 0 0 0 h.sc;have hq:=sB _ _ _ _ _ h.eq;have r:=yK _ _ _ _ _ h.eq;have K:=h.ok;obtain⟨c,p⟩:∃c,c=J7 l k:=⟨_,rfl⟩
 obtain⟨g1,T,g3,U,g5,g6,g7,g8⟩:=Q k m;have W:=K.get k m;rw[<-p]at g1 T g3 U g5 g6 g7 g8 W;unfold J2 at g1 T g3 U;have i:z1 0 l (k+1)=c.Old+c.OldLen:=by rw[fQ,<-p];rfl
 have j:eV 0 l (k+1)=c.New+c.NewLen:=by rw[fR,<-p];rfl
 obtain⟨E,E',H,I,V,ac,ad,J⟩:∃E E':Int,sub x (c.Old+c.OldLen) E=sub y (c.New+c.NewLen) E'/\E-(c.Old+c.OldLen)=E'-(c.New+c.NewLen)/\E<=x.length/\E'<=y.length/\(c.Old+c.OldLen<E)/\(k+1<l.length->E=(J7 l (k+1)).Old/\E'=(J7 l (k+1)).New/\c.Old+c.OldLen+1<E):=by
  by_cases B:k+1=l.length
  ·rw[<-B,i,j]at u r;refine⟨x.length,y.length,r,by omega,by omega,by omega,?_,fun q=>absurd B (by omega)⟩;unfold pU at g;rw[<-p]at g;split at g
   ·have:=(A0 g).1.1;rw[ha.len]at this;omega
   ·split at g
    ·have:=(A0 g).1.1;rw[hb.len]at this;omega
    ·cases g
  ·have B:k+1<l.length:=by omega
   obtain⟨M,F,P,G,f5,f6,f7,S⟩:=Q (k+1) B;have f9:=hq (k+1) B;have ab:=K.get (k+1) B;rw[i,j]at f6 f9;rw[i]at f7;unfold J2 at F G;have z:c.Old+c.OldLen+1<(J7 l (k+1)).Old:=by
    unfold pU at g;rw[<-p]at g;split at g
    ·have:=(A0 g).2;rw[<-p]at this;omega
    ·split at g
     ·have:=(A0 g).2;rw[<-p]at this;omega
     ·cases g
   exact⟨_,_,f9,by omega,by omega,by omega,by omega,fun _=>⟨rfl,rfl,z⟩⟩
 have hv:∃v,x[c.Old.toNat]?=some v/\y[c.New.toNat]?=some v:=by
  obtain⟨v,C,v2⟩:=yO (t:=0) H (by omega) (by omega) (by omega) I (by omega);simp only[Int.natCast_zero,Int.add_zero]at C v2;unfold pU at g;rw[<-p]at g;split at g
  ·rename_i Z;have:=(A0 g).1.2;rw[Z,Int.add_zero]at v2;refine⟨v,?_,v2⟩;have l1:c.Old.toNat<a.length:=by rw[ha.len];omega
   have l2:(c.Old+c.OldLen).toNat<a.length:=by rw[ha.len];omega
   have L:x[c.Old.toNat]?=some x[c.Old.toNat]:=WT (by omega);have R:a[c.Old.toNat]?=some (OC a c.Old):=by unfold OC;rw[XC,WT l1];rfl
   have D:a[(c.Old+c.OldLen).toNat]?=some (OC a (c.Old+c.OldLen)):=by unfold OC;rw[XC,WT l2];rfl
   rw[<-this]at D;have:=ha.inj _ _ _ _ _ L C R D;rw[L,this]
  ·split at g
   ·rename_i _ Z;have:=(A0 g).1.2;rw[Z,Int.add_zero]at C;refine⟨v,C,?_⟩;have l1:c.New.toNat<b.length:=by rw[hb.len];omega
    have l2:(c.New+c.NewLen).toNat<b.length:=by rw[hb.len];omega
    have L:y[c.New.toNat]?=some y[c.New.toNat]:=WT (by omega);have R:b[c.New.toNat]?=some (OC b c.New):=by unfold OC;rw[XC,WT l1];rfl
    have D:b[(c.New+c.NewLen).toNat]?=some (OC b (c.New+c.NewLen)):=by unfold OC;rw[XC,WT l2];rfl
    rw[<-this]at D;have:=hb.inj _ _ _ _ _ L v2 R D;rw[L,this]
   ·cases g
 obtain⟨v,C,v2⟩:=hv;have s:0<=z1 0 l k/\0<=eV 0 l k:=by
  cases k with
  | zero=>simp[z1,eV]
  | succ k =>
   obtain⟨M,F,P,G,_⟩:=Q k (by omega);unfold J2 at M F P G;rw[fQ,fR];unfold eT yI;omega
 have A:sub x (c.Old+c.OldLen+1) E=sub y (c.New+c.NewLen+1) E':=by
  have:=fT (e:=E-(c.Old+c.OldLen)-1) H (by omega) (by omega) (by omega) (by omega) I;rw[show E-(E-(c.Old+c.OldLen)-1)=c.Old+c.OldLen+1 by omega,show E'-(E-(c.Old+c.OldLen)-1)=c.New+c.NewLen+1 by omega]at this;exact this
 refine⟨X,Y,HC _ _ _ 0 0 0 (fun q n=>?_) ?_,HD _ _ _ 0 0 (fun q n=>?_) ?_⟩
 ·rw[n8]at n;rw[gT l m,lU l m,lV l m];by_cases e:q=k
  ·rw[A4 e,A5 (show ¬q=k+1 by omega),e,<-p];unfold J2;simp only[nL];refine⟨by omega,T,by omega,U,g5,by omega,by omega,fun _=>by omega⟩
  ·rw[A5 e];obtain⟨M,F,P,G,f5,f6,f7,S⟩:=Q q n;refine⟨M,F,P,G,f5,?_,?_,?_⟩
   ·by_cases f:q=k+1
    ·rw[A4 f];omega
    ·rw[A5 f];omega
   ·by_cases f:q=k+1
    ·rw[A4 f];have:=S (by omega);omega
    ·rw[A5 f];omega
   ·intro h0;by_cases f:q=k+1
    ·rw[A4 f,f,i];have:=(J (by omega))
     omega
    ·rw[A5 f];have:=S h0;omega
 ·rw[n8,lU l m,lV l m];by_cases f:l.length=k+1
  ·rw[A4 f,f,i,j];rw[f,i,j]at u;have h1:E<=x.length:=V;omega
  ·rw[A5 f];omega
 ·rw[n8]at n;rw[gT l m,lU l m,lV l m];by_cases e:q=k
  ·rw[A4 e,A5 (show ¬q=k+1 by omega),e,<-p];simp only[nL,Int.add_zero];have:=hq k m;rw[<-p]at this;rw[cZ s.1 g7 C,cZ s.2 (by omega) v2,this]
  ·rw[A5 e];by_cases f:q=k+1
   ·rw[A4 f];subst f;obtain⟨q1,q2,_⟩:=J n;rw[i,j,<-q1,<-q2];exact A
   ·rw[A5 f,Int.add_zero,Int.add_zero];exact hq q n
 ·rw[n8,lU l m,lV l m];by_cases f:l.length=k+1
  ·rw[A4 f];rw[f,i,j]at r u ⊢;have:=fT (e:=x.length-(c.Old+c.OldLen)-1) r (by omega) (by omega) (by omega) (by omega) (by omega);rw[show (x.length:Int)-(x.length-(c.Old+c.OldLen)-1)=c.Old+c.OldLen+1 by omega,show (y.length:Int)-(x.length-(c.Old+c.OldLen)-1)=c.New+c.NewLen+1 by omega]at this;exact this
  ·rw[A5 f,Int.add_zero,Int.add_zero];exact r
section
variable {x y:List Str}{a b:List Int} (ha:IdsOf x a) (hb:IdsOf y b)
include ha hb
end
structure Made12 (on nn a b:Str) (l:List Change) (ctx:Int):Prop where
 chk:dS ⟨on,nn,c9 l (D4 a) (D4 b) ctx⟩=0
 wr:(GY ⟨on,nn,c9 l (D4 a) (D4 b) ctx⟩).length<=16777216
 fit:PFit ⟨on,nn,c9 l (D4 a) (D4 b) ctx⟩
 rg:∀h∈c9 l (D4 a) (D4 b) ctx,(-4611686018427387904<=h.Old/\h.Old<=4611686018427387904)/\(-4611686018427387904<=h.New/\h.New<=4611686018427387904)
 sz:OB (c9 l (D4 a) (D4 b) ctx)<=268435456
def Few(a:Str):Prop:=a.length<=1048576/\(D4 a).length<=4096
theorem bP{a:Str}(h:Few a):Q6 a=(D4 a,0):=by
 obtain⟨b,c⟩:=h;unfold Q6;rw[A5 (by omega)]
def NB(x y:List Str)(i j:Int):List PatchHunk->Prop
 | []=>sub x i x.length=sub y j y.length/\0<=i/\0<=j/\i<=x.length/\j<=y.length
 | h::r=>(sub x i h.Old=sub y j h.New/\G6 h.Lines 43=sub x h.Old (h.Old+aU h)/\G6 h.Lines 45=sub y h.New (h.New+cY h))/\(0<=i/\0<=j/\i<=h.Old/\j<=h.New/\h.Old+aU h<=x.length/\h.New+cY h<=y.length)/\NB x y (h.Old+aU h) (h.New+cY h) r
theorem ScFit.chain{x y:List Str}{l:List Change}(h:ScFit x y l){c:Int}(o:0<=c):∀(n:List Hunk) (a:Nat),GrOk l x.length c a n l.length ->
  ∀(i j e:Int),i=z1 0 l a+e->j=eV 0 l a+e->0<=e->e<=c->(a=0->e=0)->i<=x.length->j<=y.length->NB x y i j (n.map (V8 l x y))
 | [],a,f,i,j,e,hi,hj,he,_,_,hix,hjy=>by
  have f:a=l.length:=f;have z:=yK _ _ _ _ _ h.eq;have p:=yJ _ _ _ 0 0 0 h.sc;obtain⟨r,s,I,J⟩:=h.nn a (by omega);rw[<-f]at z p;refine⟨?_,by omega,by omega,hix,hjy⟩;have:=fT (e:=x.length-i) z r s (by omega) (by omega) (by omega);rw[show (x.length:Int)-(x.length-i)=i by omega,show (y.length:Int)-(x.length-i)=j by omega]at this;exact this
 | hk::n,a,⟨b,hab,ho,hE,f⟩,i,j,e,hi,hj,he,hec,he0,hix,hjy=>by
  have hb:=f.le;have k:b<l.length->opens l c b:=by
   intro C;cases n with
   | nil=>exact absurd f (by show ¬b=l.length;omega)
   | cons B D=>obtain⟨_,_,q,_⟩:=f;exact q
  obtain⟨w1,K,U,V,W⟩:=h.after o hb k (by omega);obtain⟨R,S,T⟩:=h.before o (show a<l.length by omega) ho;have H:=h.hunk o hab hb ho k;rw[<-hE]at H;obtain⟨P,u⟩:∃P,P=V8 l x y hk:=⟨_,rfl⟩
  rw[<-u]at H;have E:=ScFit.chain h o n b f (P.Old+aU P) (P.New+cY P) (eB l x.length c b) H.oe H.ne w1 K (by omega) H.ox H.ny;obtain⟨k1,⟨k2,F⟩,k3,⟨k4,G⟩,k5,k6,k7,k8⟩:=x3 _ _ _ _ _ _ h.sc a (show a<l.length by omega);have L:=H.old;have B:=H.new;have M:=H.o0;have Q:=H.n0;have v:e+eA l c a<=(J7 l a).Old-z1 0 l a:=by
   by_cases t:a=0
   ·have:=he0 t;omega
   ·have:=gS ho t;omega
  obtain⟨r,s,I,J⟩:=h.nn a (by omega);have g:i<=P.Old/\j<=P.New/\P.Old-i=P.New-j/\0<=i/\0<=j:=by omega
  have m:=sB _ _ _ _ _ h.eq a (show a<l.length by omega);have A:=fT (e:=(J7 l a).Old-i) m r s (by omega) (by omega) (by omega);rw[show (J7 l a).Old-((J7 l a).Old-i)=i by omega,show (J7 l a).New-((J7 l a).Old-i)=j by omega]at A;have t2:=sC (e:=P.Old-i) A (by omega) (by omega) (by omega) (by omega) (by omega);rw[show i+(P.Old-i)=P.Old by omega,show j+(P.Old-i)=P.New by omega]at t2;rw[XK,<-u];exact⟨⟨t2,H.ol,H.nl⟩,⟨by omega,by omega,g.1,g.2.1,H.ox,H.ny⟩,E⟩
def jY(c:UInt8):Bool:=decide (48<=c.toNat/\c.toNat<=57)
def P4(s:Str):Str:=s.takeWhile jY
def eU(a:Str):Nat:=a.foldl (fun n c=>10*n+(c.toNat-48)) 0
def oU(s:Str):Option (Nat×Nat) :=
 if P4 s=[]\/(s.head?=some 48/\1<(P4 s).length)\/2147483647<eU (P4 s) then none else some (eU (P4 s),(P4 s).length)
theorem JS(a:Str)(c:UInt8):eU (a++[c])=10*eU a+(c.toNat-48):=by
 unfold eU;rw[YP];rfl
structure Cmd where
 Kind:Int
 A:Int
 B:Int
 C:Int
 Dense:Bool
 Text:Str
 deriving DecidableEq
abbrev VG(c:Cmd):List Cell:=[.v (.int .i64 c.Kind),.v (.int .i64 c.A),.v (.int .i64 c.B),.v (.int .i64 c.C),.v (.bool c.Dense),.v (.string ⟨c.Text.toArray⟩)]
abbrev dA(c:Cmd):PV:=.agg (VG c)
abbrev lW(c:Cmd):List TC:=[.p (.v (.int .i64 c.Kind)),.p (.v (.int .i64 c.A)),.p (.v (.int .i64 c.B)),.p (.v (.int .i64 c.C)),.p (.v (.bool c.Dense)),.p (.v (.string ⟨c.Text.toArray⟩))]
abbrev NC(c:Cmd):List Value:=[.int .i64 c.Kind,.int .i64 c.A,.int .i64 c.B,.int .i64 c.C,.bool c.Dense,.string ⟨c.Text.toArray⟩]
def nM:Cmd:=⟨0,0,0,0,false,[]⟩
structure CForm where
 word:Str
 kind:Int
 dense:Bool
 b:Bool
 c:Bool
 text:Bool
 deriving DecidableEq
def sO:CForm->Nat->Cell:=fun f j=>match j with
 | 0=>.v (.string ⟨f.word.toArray⟩)
 | 1=>.v (.int .i64 f.kind)
 | 2=>.v (.bool f.dense)
 | 3=>.v (.bool f.b)
 | 4=>.v (.bool f.c)
 | _=>.v (.bool f.text)
abbrev ND(f:CForm):List TC:=[.p (.v (.string ⟨f.word.toArray⟩)),.p (.v (.int .i64 f.kind)),.p (.v (.bool f.dense)),.p (.v (.bool f.b)),.p (.v (.bool f.c)),.p (.v (.bool f.text))]
abbrev NE(f:CForm):PV:=.agg [.v (.string ⟨f.word.toArray⟩),.v (.int .i64 f.kind),.v (.bool f.dense),.v (.bool f.b),.v (.bool f.c),.v (.bool f.text)]
abbrev NF(l:List CForm):PV:=.one (.list CForm 6 sO l)
def formsL:List CForm:=[⟨[108,111,103],1,false,false,false,false⟩,⟨[115,104,111,119],2,false,false,false,false⟩,⟨[100,105,102,102],3,false,true,true,true⟩,⟨[99,111,109,98,105,110,101,100],4,false,false,true,true⟩,
 ⟨[99,99],4,true,false,true,true⟩,⟨[108,105,116,101,114,97,108],5,false,false,false,true⟩,⟨[114,101,103,101,120],6,false,false,false,true⟩,⟨[108,105,110,101,115],7,false,true,true,true⟩,⟨[98,108,97,109,101],8,false,false,false,true⟩,⟨[98,97,115,101,115],9,false,true,false,false⟩]
def V5(f:CForm):List Nat:=1::((if f.b=true then [2] else [])++(if f.c=true then [3] else []))
def Cmd.get(c:Cmd)(o:Nat):Int:=match o with
 | 1=>c.A
 | 2=>c.B
 | _=>c.C
def Cmd.put(c:Cmd)(o:Nat)(n:Int):Cmd:=match o with
 | 1=>{ c with A:=n }
 | 2=>{ c with B:=n }
 | _=>{ c with C:=n }
theorem HH{f:CForm}{o:Nat}(h:o∈V5 f):o=1\/o=2\/o=3:=by
 unfold V5 at h;rcases XB.1 h with h | h
 ·exact .inl h
 rcases WZ.1 h with h | h
 ·split at h
  ·exact .inr (.inl (List.mem_singleton.1 h))
  ·cases h
 ·split at h
  ·exact .inr (.inr (List.mem_singleton.1 h))
  ·cases h
theorem BG(f:CForm):(V5 f).length<=3:=by unfold V5;cases f.b<;>cases f.c<;>decide
theorem NG{c:Cmd}{o:Nat}(h:o=1\/o=2\/o=3):(lW c)[o]?=some (.p (.v (.int .i64 (c.get o)))):=by
 rcases h with rfl | rfl | rfl<;>rfl
theorem BH{c:Cmd}{o:Nat}(n:Int)(h:o=1\/o=2\/o=3):setTs (lW c) o [.p (.v (.int .i64 n))]=lW (c.put o n):=by
 rcases h with rfl | rfl | rfl<;>rfl
theorem yP(c:Cmd)(o:Nat)(n:Int):(c.put o n).Text=c.Text:=by
 unfold Cmd.put;split<;>rfl
def eD:List Nat->Cmd->Str->Option (Cmd×Str)
 | [],c,s=>some (c,s)
 | o::r,c,s=>if c.get o<0\/2147483647<c.get o then none else eD r (c.put o 0) (s++([32]++m8 (c.get o)))
def nN(f:CForm)(c:Cmd)(s:Str):Str×Int:=if c=⟨f.kind,0,0,0,f.dense,[]⟩ then (s,0) else ([],2)
def pV(f:CForm)(c:Cmd):Str×Int:=match eD (V5 f) c f.word with
 | none=>([],2)
 | some (c',s)=>if f.text=true then nN f { c' with Text:=[] } (s++([32]++c8 c'.Text)) else nN f c' s
def BI(c:Cmd):List CForm->Str×Int
 | []=>([],2)
 | f::r=>if f.kind≠c.Kind\/f.dense≠c.Dense then BI c r else pV f c
def jZ(c:Cmd):Str×Int:=BI c formsL
theorem JT{f:CForm}(h:f∈formsL):f.word.length<=8:=by
 unfold formsL at h;simp only[XB,List.not_mem_nil,or_false]at h;rcases h with h | h | h | h | h | h | h | h | h | h<;>(rw[h];decide)
def eE:List Nat->List Str->Cmd->Option Cmd
 | o::r,w::ws,c=>match oU w with
  | some (n,e)=>if e=w.length then eE r ws (c.put o n) else none
  | none=>none
 | _,_,c=>some c
def aN(f:CForm)(a:List Str):Option Cmd :=
 let b:Cmd:=⟨f.kind,0,0,0,f.dense,[]⟩
 if f.text=true then
  if a=[] then none
  else if a.length-1≠(V5 f).length then none
  else eE (V5 f) a.dropLast { b with Text:=a.getLastD [] }
 else if a.length≠(V5 f).length then none
 else eE (V5 f) a b
def eF(w:Str)(a:List Str):List CForm->Option Cmd
 | []=>none
 | f::r=>if f.word≠w then eF w a r else match aN f a with
  | some c=>some c
  | none=>eF w a r
def T5:List Str->Str
 | []=>[]
 | [w]=>w
 | w::x::r=>w++32::T5 (x::r)
theorem sP(w:Str):T5 [w]=w:=rfl
theorem dB(w x:Str)(r:List Str):T5 (w::x::r)=w++32::T5 (x::r):=rfl
theorem JU{w:Str}(b:w.all R9=true)(r:List Str):(T5 (w::r)).takeWhile R9=w:=by
 have ha:∀c∈w,R9 c=true:=List.all_eq_true.1 b;cases r with
 | nil =>
  rw[sP];have:=List.takeWhile_append_of_pos (l₂:=[]) ha;simpa using this
 | cons x r =>
  rw[dB,List.takeWhile_append_of_pos ha,List.takeWhile_cons];rw[show R9 32=false by rfl];simp
theorem BJ(w:Str)(r:List Str):w.length<=(T5 (w::r)).length:=by
 cases r with
 | nil=>exact Nat.le_refl _
 | cons x r=>rw[dB,WX];omega
theorem BK{w:Str}(a:w≠[])(b:w.all R9=true):c8 w=w:=by unfold c8;rw[A4 ⟨a,b⟩]
theorem check12_good{p:Patch}(h:dS p=0):nI p.Hunks=true:=by
 unfold dS at h;split at h
 ·cases h
 ·split at h
  ·cases h
  ·rename_i a;simpa using a
theorem RL(a b:Cmd):xD (NC a) (NC b)=decide (a=b):=by
 obtain⟨c,a2,a3,a4,a5,d⟩:=a;obtain⟨e,f,g,h,i,j⟩:=b;rw[Bool.eq_iff_iff,decide_eq_true_eq];simp only[NC,xD,US,ByteArray.toList_mk,Bool.and_true,WU,beq_iff_eq,Cmd.mk.injEq]
def sQ(f:CForm)(a:List Str):Cmd:=if f.text=true then ⟨f.kind,0,0,0,f.dense,a.getLastD []⟩ else ⟨f.kind,0,0,0,f.dense,[]⟩
def iV(f:CForm)(a:List Str):List Str:=if f.text=true then a.dropLast else a
theorem BL(f:CForm)(a:List Str):aN f a=if f.text=true/\a=[] then none else if (iV f a).length≠(V5 f).length then none else eE (V5 f) (iV f a) (sQ f a):=by
 unfold aN iV sQ;by_cases b:f.text=true
 ·by_cases c:a=[]
  ·simp only[A4 b,A4 c,A4 (And.intro b c)]
  ·simp only[A4 b,A5 c,A5 (fun h:f.text=true/\a=[]=>c h.2),List.length_dropLast]
 ·simp only[A5 b,A5 (fun h:f.text=true/\a=[]=>b h.1)]
theorem JV{f:CForm}{a:List Str}{w:Str}(h:w∈iV f a):w∈a:=by
 unfold iV at h;split at h
 ·exact (List.dropLast_sublist a).subset h
 ·exact h
theorem JW(f:CForm)(a:List Str):(iV f a).length<=a.length:=by
 unfold iV;split
 ·rw[List.length_dropLast];omega
 ·exact Nat.le_refl _
def nO(a:List Str):Cmd×Int:=match a with
 | []=>(nM,320)
 | w::r=>match eF w r formsL with
  | some c=>(c,0)
  | none=>(nM,320)
theorem sR:∀(a:List Str),(∀w∈a,w≠[])->a.length<=(T5 a).length
 | [],_=>Nat.zero_le _
 | [w],h=>by
  have:=List.length_pos_iff.2 (h w (by simp));rw[sP,List.length_singleton];exact this
 | w::x::r,h=>by
  have:=sR (x::r) fun v b=>h v (by simp[b]);rw[dB];simp only[WX,WW]at this ⊢;omega
theorem JX(w t:Str)(c:UInt8):(w++c::t).drop (w.length+1)=t:=by
 rw[show w++c::t=(w++[c])++t by simp];exact List.drop_left' (by simp)
def lX:Str:=[99,111,109,109,105,116]
def aO(ns:List Int)(i:Nat):Str:=lX++((ns.take i).map fun n=>32::m8 n).flatten
def n9(ns:List Int):Str:=aO ns ns.length
theorem sS{ns:List Int}{i:Nat}{n:Int}(h:ns[i]?=some n):aO ns (i+1)=aO ns i++([32]++m8 n):=by
 unfold aO;rw[List.take_add_one,h,XH];simp
theorem aB(ns:List Int):∀i,(aO ns i).length<=6+11*i
 | 0=>by simp[aO,lX]
 | i+1=>by
  have:=aB ns i;by_cases h:i<ns.length
  ·rw[sS (WT h)];have:=r5 ns[i];simp only[WX,WW,XD];omega
  ·have:aO ns (i+1)=aO ns i:=by
    unfold aO;rw[XN (by omega),XN (by omega)]
   rw[this];omega
def V9(L:List (List Int))(i:Nat):Str:=((L.take i).map fun ns=>n9 ns++[10]).flatten
def x8(L:List (List Int)):Str:=V9 L L.length
theorem aP{L:List (List Int)}{i:Nat}{ns:List Int}(h:L[i]?=some ns):V9 L (i+1)=V9 L i++(n9 ns++[10]):=by
 unfold V9;rw[List.take_add_one,h];simp
theorem dC{L:List (List Int)}{m:Nat}(b:∀ns∈L,ns.length<=m):∀i,(V9 L i).length<=(7+11*m)*i
 | 0=>by simp[V9]
 | i+1=>by
  have:=dC b i;by_cases h:i<L.length
  ·rw[aP (WT h)];have a:=aB L[i] L[i].length;have c:=b L[i] (WY h);have d:(n9 L[i]).length<=6+11*m:=by
    unfold n9;have:11*L[i].length<=11*m:=Nat.mul_le_mul_left _ c;omega
   simp only[WX,WW,XD];rw[Nat.mul_succ];omega
  ·have a:V9 L (i+1)=V9 L i:=by
    unfold V9;rw[XN (by omega),XN (by omega)]
   rw[a,Nat.mul_succ];omega
theorem gU(L:List (List Int)):V9 L 0=[]:=by simp[V9]
def yQ(e:Int):Str:=[101,114,114,111,114,32]++m8 e++[10]
def fV(a b:Str)(e:Int):Str:=[62,32]++a++[10]++(if e≠0 then yQ e else b)
theorem gV{α:Type}[DecidableEq α]:∀{l m:List α},l.Nodup->(∀x∈l,x∈m)->l.length<=m.length
 | [],_,_,_=>Nat.zero_le _
 | x::l,m,h,hs=>by
  have b:=List.nodup_cons.1 h;have d:l.length<=(m.erase x).length:=gV b.2 fun y c=>by
   have a:y≠x:=fun e=>b.1 (e ▸ c);exact (List.mem_erase_of_ne a).2 (hs y (by simp[c]))
  have f:=List.length_erase_of_mem (hs x (by simp));have i:0<m.length:=List.length_pos_of_mem (hs x (by simp));rw[WW];omega
theorem X7{l:List Int}{n:Nat}(h:l.Nodup)(b:∀x∈l,0<=x/\x<n):l.length<=n:=by
 have:=gV (m:=(List.range n).map fun i:Nat=>(i:Int)) h fun x c=>by
  have:=b x c;exact XU.2 ⟨x.toNat,XE.2 (by omega),by omega⟩
 simpa using this
theorem NH{l:List Int}{n:Nat}(h:l.Nodup)(d:∀x∈l,0<=x/\x<n)(f:n<=l.length)(c:Nat)(e:c<n):(c:Int)∈l:=by
 apply Classical.byContradiction;intro b;have:=X7 (l:=(c:Int)::l) (n:=n) (List.nodup_cons.2 ⟨b,h⟩) fun x a=>by
  rcases XB.1 a with rfl | a
  ·exact⟨by omega,by omega⟩
  ·exact d x a
 rw[WW]at this;omega
theorem kA{q r:Nat->Bool}(x:Nat)(d:∀y,r y=(q y&&decide (y≠x))):∀{L:List Nat},L.Nodup->L.countP q=L.countP r+(if x∈L/\q x=true then 1 else 0)
 | [],_=>by simp
 | y :: L,h=>by
  have c:=List.nodup_cons.1 h;have g:=kA x d c.2;rw[List.countP_cons,List.countP_cons,g,d y];by_cases e:y=x
  ·subst e;have:¬(y∈L/\q y=true):=fun e=>c.1 e.1;rw[A5 this];cases j:q y<;>simp
  ·have f:(x∈y::L/\q x=true)↔(x∈L/\q x=true):=by
    rw[XB];constructor
    ·rintro⟨a | a,b⟩
     ·exact absurd a.symm e
     ·exact⟨a,b⟩
    ·exact fun ⟨a,b⟩=>⟨.inr a,b⟩
   rw[show (if x∈y::L/\q x=true then 1 else 0)=(if x∈L/\q x=true then 1 else 0) by simp only[f]];simp only[e,ne_eq,not_false_eq_true,decide_true,Bool.and_true];omega
abbrev Graph:=List Commit
def E1(g:Graph)(c:Nat):List Int:=(g[c]?.map (·.Parents)).getD []
def fW(n:Int)(a:List Int):List Int->Bool
 | []=>true
 | p::r=>decide (0<=p/\p<n/\p∉a)&&fW n (a++[p]) r
def related(g:Graph):Bool:=g.all fun c=>fW g.length [] c.Parents
theorem BM{n:Int}:∀{ps a:List Int},fW n a ps=true->(∀p∈ps,0<=p/\p<n/\p∉a)/\ps.Nodup
 | [],_,_=>⟨(fun _ h=>by cases h),List.nodup_nil⟩
 | p::r,a,h=>by
  unfold fW at h;rw[WU,decide_eq_true_eq]at h;obtain⟨c,d⟩:=BM h.2;refine⟨fun q b=>?_,List.nodup_cons.2 ⟨fun e=>(c p e).2.2 (by simp),d⟩⟩;rcases XB.1 b with rfl | b
  ·exact h.1
  ·have:=c q b;exact⟨this.1,this.2.1,fun f=>this.2.2 (by simp[f])⟩
theorem X8{g:Graph}{c:Nat}(b:c<g.length):E1 g c=g[c].Parents:=by unfold E1;rw[WT b];rfl
theorem lY{g:Graph}{c:Nat}(a:¬c<g.length):E1 g c=[]:=by unfold E1;rw[XP (by omega)];rfl
theorem K2{g:Graph}(h:related g=true)(c:Nat):(∀p∈E1 g c,0<=p/\p<g.length)/\(E1 g c).Nodup:=by
 by_cases a:c<g.length
 ·rw[X8 a];have:=BM (List.all_eq_true.1 h g[c] (WY a));exact⟨fun p b=>⟨(this.1 p b).1,(this.1 p b).2.1⟩,this.2⟩
 ·rw[lY a];exact⟨(fun _ h=>by cases h),List.nodup_nil⟩
inductive Reaches (g:Graph):Nat->Nat->Prop
 | one {c p:Nat} (h:(p:Int)∈E1 g c):Reaches g c p
 | more {c d p:Nat} (h:Reaches g c d) (h2:(p:Int)∈E1 g d):Reaches g c p
theorem Reaches.trans{g:Graph}{a b c:Nat}(h:Reaches g a b)(d:Reaches g b c):Reaches g a c:=by
 induction d with
 | one d=>exact .more h d
 | more _ f i=>exact .more i f
theorem Reaches.lt{g:Graph}(i:related g=true){a b:Nat}(h:Reaches g a b):a<g.length/\b<g.length:=by
 have d:∀{c p:Nat},(p:Int)∈E1 g c->c<g.length/\p<g.length:=fun {c p} h=>by
  refine⟨?_,by have:=(K2 i c).1 p h;omega⟩;apply Classical.byContradiction;intro f;rw[lY f]at h;cases h
 induction h with
 | one h=>exact d h
 | more _ e j=>exact⟨j.1,(d e).2⟩
def r7(ps:List Int)(l:List Bool):List Bool:=ps.foldl (fun l p=>l.set p.toNat true) l
def L4(l:List Bool)(c:Nat):Bool:=l[c]?.getD false
def o7(g:Graph)(l:List Bool)(c:Nat):List Bool:=if L4 l c=true then r7 (E1 g c) l else l
def kB(g:Graph)(l:List Bool):List Bool:=(List.range g.length).foldl (o7 g) l
def v7(g:Graph):Nat->List Bool->List Bool
 | 0,l=>l
 | k+1,l=>v7 g k (kB g l)
def J3(g:Graph)(a:List Int):List Bool:=v7 g g.length (r7 a (List.replicate g.length false))
theorem NJ{l:List Bool}{i c:Nat}:L4 (l.set i true) c=(L4 l c||decide (i=c/\c<l.length)):=by
 unfold L4;rw[YQ];split
 ·rename_i e;subst e;split
  ·rename_i h;simp[h]
  ·rename_i h;simp[h,XP (Nat.le_of_not_lt h)]
 ·rename_i h;simp[h]
theorem d9:∀(ps:List Int) (l:List Bool),(r7 ps l).length=l.length
 | [],_=>rfl
 | p::r,l=>by show (r7 r (l.set p.toNat true)).length=_;rw[d9 r];simp
theorem j9:∀(ps:List Int) (l:List Bool) (c:Nat),L4 (r7 ps l) c=(L4 l c||(decide (c<l.length)&&ps.any fun p=>decide (p.toNat=c)))
 | [],l,c=>by simp[r7]
 | p::r,l,c=>by
  show L4 (r7 r (l.set p.toNat true)) c=_;rw[j9 r,NJ,XX,List.any_cons];by_cases a:p.toNat=c<;>by_cases b:c<l.length<;>simp[a,b]
theorem JY(g:Graph)(l:List Bool)(c:Nat):(o7 g l c).length=l.length:=by unfold o7;split<;>simp[d9]
theorem vY(g:Graph):∀(a:List Nat) (l:List Bool),(a.foldl (o7 g) l).length=l.length
 | [],_=>rfl
 | c::r,l=>by rw[YA,vY g r,JY]
theorem sT(g:Graph)(l:List Bool):(kB g l).length=l.length:=vY g _ l
theorem nP(g:Graph):∀(k:Nat) (l:List Bool),(v7 g k l).length=l.length
 | 0,_=>rfl
 | k+1,l=>by rw[v7,nP g k,sT]
theorem BN(g:Graph)(s:List Int):(J3 g s).length=g.length:=by unfold J3;rw[nP,d9];simp
def LeB(a b:List Bool):Prop:=a.length=b.length/\∀c,L4 a c=true->L4 b c=true
theorem LeB.refl(a:List Bool):LeB a a:=⟨rfl,fun _ h=>h⟩
theorem LeB.trans{a b c:List Bool}(h:LeB a b)(d:LeB b c):LeB a c:=⟨h.1.trans d.1,fun x e=>d.2 x (h.2 x e)⟩
theorem gW:∀{a b:List Bool},LeB a b->a=b\/a.countP id<b.countP id
 | [],[],_=>.inl rfl
 | [],_::_,h=>by have:=h.1;simp at this
 | _::_,[],h=>by have:=h.1;simp at this
 | x::a,y::b,h=>by
  have e:LeB a b:=⟨by simpa using h.1,fun c f=>h.2 (c+1) f⟩
  have d:x=true->y=true:=fun g=>by simpa[L4] using h.2 0 (by simpa[L4] using g)
  rw[List.countP_cons,List.countP_cons];rcases gW e with rfl | h3
  ·cases x<;>cases y
   ·exact .inl rfl
   ·right;simp
   ·exact absurd (d rfl) (by decide)
   ·exact .inl rfl
  ·right;cases x<;>cases y
   ·simpa using h3
   ·simp;omega
   ·exact absurd (d rfl) (by decide)
   ·simpa using h3
theorem BO{a b:List Bool}(h:LeB a b)(d:LeB b a):a=b:=by
 rcases gW h with e | e
 ·exact e
 ·rcases gW d with c | c
  ·exact c.symm
  ·omega
theorem vZ(ps:List Int)(l:List Bool):LeB l (r7 ps l):=⟨(d9 ps l).symm,fun c h=>by rw[j9,h];rfl⟩
theorem BP(g:Graph)(l:List Bool)(c:Nat):LeB l (o7 g l c):=by unfold o7;split<;>first | exact vZ _ _ | exact LeB.refl _
theorem lZ(g:Graph):∀(b:List Nat) (l:List Bool),LeB l (b.foldl (o7 g) l)
 | [],l=>LeB.refl l
 | c::r,l=>(BP g l c).trans (lZ g r _)
theorem BQ(g:Graph):∀(k:Nat) (l:List Bool),LeB l (v7 g k l)
 | 0,l=>LeB.refl l
 | k+1,l=>(lZ g _ l).trans (BQ g k _)
def bQ(g:Graph)(l:List Bool):Prop:=∀c,L4 l c=true->∀p∈E1 g c,L4 l p.toNat=true
theorem BR(g:Graph):∀(a:List Nat) (l:List Bool),a.foldl (o7 g) l=l->∀c∈a,o7 g l c=l
 | [],_,_,_,h=>by cases h
 | d::r,l,h,c,hc=>by
  rw[YA]at h;have b:o7 g l d=l:=BO (by have:=lZ g r (o7 g l d);rw[h]at this;exact this) (BP g l d);rcases XB.1 hc with rfl | hc
  ·exact b
  ·rw[b]at h;exact BR g r l h c hc
theorem HI{l:List Bool}{c:Nat}(h:L4 l c=true):c<l.length:=by
 unfold L4 at h;apply Classical.byContradiction;intro a;rw[XP (by omega)]at h;cases h
theorem FB{g:Graph}{l:List Bool}(f:related g=true)(e:l.length=g.length)(h:kB g l=l):bQ g l:=by
 intro c b p d;have a:=BR g _ l h c (XE.2 (by rw[<-e];exact HI b));unfold o7 at a;rw[A4 b]at a;rw[<-a,j9];have:=(K2 f c).1 p d;rw[XR];right;rw[WU,decide_eq_true_eq,List.any_eq_true];exact⟨by omega,p,d,by simp⟩
theorem mA{g:Graph}{l:List Bool}(h:bQ g l):kB g l=l:=by
 have d:∀(b:List Nat),b.foldl (o7 g) l=l:=by
  intro b;induction b with
  | nil=>rfl
  | cons c r i =>
   rw[YA];have:o7 g l c=l:=by
    unfold o7;split
    ·rename_i f;refine BO ⟨d9 _ _,fun x a=>?_⟩ (vZ _ _);rw[j9,XR,WU,List.any_eq_true]at a;rcases a with a | ⟨_,p,hp,e⟩
     ·exact a
     ·rw[<-A0 e];exact h c f p hp
    ·rfl
   rw[this];exact i
 exact d _
theorem oV{g:Graph}(b:related g=true):∀(k:Nat) {l:List Bool},l.length=g.length->bQ g (v7 g k l)\/l.countP id+k<=(v7 g k l).countP id
 | 0,l,_=>.inr (by simp[v7])
 | k+1,l,hl=>by
  rw[v7];rcases gW (lZ g (List.range g.length) l) with e | e
  ·left;have a:bQ g l:=FB b hl e.symm;rw[show kB g l=l from e.symm];have:∀k,v7 g k l=l:=fun k=>by
    induction k with
    | zero=>rfl
    | succ k d=>rw[v7,mA a];exact d
   rw[this];exact a
  ·rcases oV b k (l:=kB g l) (by rw[sT];exact hl) with h | h
   ·exact .inl h
   ·right;have e:l.countP id<(kB g l).countP id:=e;omega
theorem eG{g:Graph}(j:related g=true)(s:List Int)(m:∀f∈s,0<=f/\f<g.length):bQ g (J3 g s):=by
 by_cases i:s=[]
 ·subst i;have:bQ g (List.replicate g.length false):=fun c d=>by
   unfold L4 at d;rw[List.getElem?_replicate]at d;split at d<;>cases d
  have e:∀k,v7 g k (List.replicate g.length false)=List.replicate g.length false:=fun k=>by
   induction k with
   | zero=>rfl
   | succ k q=>rw[v7,mA this];exact q
  unfold J3;show bQ g (v7 g g.length (List.replicate g.length false));rw[e];exact this
 ·rcases oV j g.length (l:=r7 s (List.replicate g.length false)) (by rw[d9];simp) with h | h
  ·exact h
  ·obtain⟨f,r,rfl⟩:=List.exists_cons_of_ne_nil i;have v:(v7 g g.length (r7 (f::r) (List.replicate g.length false))).countP id<=g.length:=by
    have:=List.countP_le_length (p:=id) (l:=v7 g g.length (r7 (f::r) (List.replicate g.length false)));rw[nP,d9,XT]at this;exact this
   have w:0<(r7 (f::r) (List.replicate g.length false)).countP id:=by
    rw[List.countP_pos_iff];have x:=m f (by simp);have a:L4 (r7 (f::r) (List.replicate g.length false)) f.toNat=true:=by
     rw[j9,XR];right;rw[WU,decide_eq_true_eq,List.any_eq_true];exact⟨by rw[XT];omega,f,by simp,by simp⟩
    have b:=HI a;unfold L4 at a;rw[WT b]at a;exact⟨_,WY b,a⟩
   omega
theorem dD{g:Graph}(y:related g=true){s:List Int}(u:∀f∈s,0<=f/\f<g.length)(x:Nat):L4 (J3 g s) x=true↔∃f:Nat,(f:Int)∈s/\(f=x\/Reaches g f x):=by
 constructor
 ·let Good:List Bool->Prop:=fun l=>∀x,L4 l x=true->∃f:Nat,(f:Int)∈s/\(f=x\/Reaches g f x)
  have z:∀l c,Good l->Good (o7 g l c):=by
   intro l c h x a;unfold o7 at a;split at a
   ·rename_i B;rw[j9,XR,WU,List.any_eq_true]at a;rcases a with a | ⟨_,p,hp,e⟩
    ·exact h x a
    ·have e:=A0 e;have C:=(K2 y c).1 p hp;have v:((x:Nat):Int)=p:=by omega
     obtain⟨f,q,b⟩:=h c B;refine⟨f,q,.inr ?_⟩;rcases b with rfl | b
     ·exact .one (by rw[v];exact hp)
     ·exact .more b (by rw[v];exact hp)
   ·exact h x a
  have b:∀(t:List Nat) l,Good l->Good (t.foldl (o7 g) l):=by
   intro t;induction t with
   | nil=>exact fun l h=>h
   | cons c r j=>exact fun l h=>j _ (z l c h)
  have A:∀k l,Good l->Good (v7 g k l):=by
   intro k;induction k with
   | zero=>exact fun l h=>h
   | succ k j=>exact fun l h=>j _ (b _ l h)
  refine A _ _ (fun x a=>?_) x;rw[j9,XR,WU,List.any_eq_true]at a;rcases a with a | ⟨_,p,hp,e⟩
  ·unfold L4 at a;rw[List.getElem?_replicate]at a;split at a<;>cases a
  ·have e:=A0 e;have:=u p hp;exact⟨x,by rw[show ((x:Nat):Int)=p by omega];exact hp,.inl rfl⟩
 ·rintro⟨f,q,h⟩;have d:=eG y s u;have w:L4 (J3 g s) f=true:=by
   refine (BQ g _ _).2 f ?_;rw[j9,XR];right;rw[WU,decide_eq_true_eq,List.any_eq_true];have:=u f q;exact⟨by rw[XT];omega,f,q,by simp⟩
  rcases h with rfl | h
  ·exact w
  ·induction h with
   | one h=>exact d _ w _ h
   | more _ b j=>exact d _ j _ b
def cyclic(g:Graph):Bool:=(List.range g.length).any fun c=>decide (E1 g c≠[])&&L4 (J3 g (E1 g c)) c
theorem eH{g:Graph}(k:related g=true):cyclic g=true↔∃c,Reaches g c c:=by
 unfold cyclic;rw[List.any_eq_true];constructor
 ·rintro⟨c,_,h⟩;rw[WU]at h;obtain⟨f,j,d⟩:=(dD k (K2 k c).1 c).1 h.2;rcases d with rfl | d
  ·exact⟨f,.one j⟩
  ·exact⟨c,(Reaches.one j).trans d⟩
 ·rintro⟨c,h⟩;have q:=(h.lt k).1;refine⟨c,XE.2 q,?_⟩;have u:∀{a b:Nat},Reaches g a b->∃f:Nat,(f:Int)∈E1 g a/\(f=b\/Reaches g f b):=by
   intro a b h;induction h with
   | one h=>exact⟨_,h,.inl rfl⟩
   | more _ d v =>
    obtain⟨f,j,p⟩:=v;refine⟨f,j,.inr ?_⟩;rcases p with rfl | p
    ·exact .one d
    ·exact .more p d
  obtain⟨f,j,d⟩:=u h;rw[WU,decide_eq_true_eq];exact⟨(fun e=>by rw[e]at j;cases j),(dD k (K2 k c).1 c).2 ⟨f,j,d⟩⟩
def mB(g:Graph)(ex:List Int)(p:Nat):Nat:=(List.range g.length).countP fun c:Nat=>decide ((c:Int)∉ex/\(p:Int)∈E1 g c)
theorem wA{g:Graph}{ex:List Int}{x p:Nat}(f:(x:Int)∉ex)(a:x<g.length):mB g ex p=mB g (ex++[(x:Int)]) p+(if (p:Int)∈E1 g x then 1 else 0):=by
 unfold mB;rw[kA (q:=fun c:Nat=>decide ((c:Int)∉ex/\(p:Int)∈E1 g c)) (r:=fun c:Nat=>decide ((c:Int)∉ex++[(x:Int)]/\(p:Int)∈E1 g c)) x (fun y=>?_) List.nodup_range]
 ·congr 1
  simp only[XE,a,true_and,decide_eq_true_eq,f,not_false_eq_true]
 ·simp only[WZ,List.mem_singleton];by_cases b:(y:Int)∈ex<;>by_cases d:y=x<;>by_cases e:(p:Int)∈E1 g y<;>simp[b,d,e]<;>omega
theorem NK{g:Graph}{ex:List Int}{p:Nat}(h:0<mB g ex p):∃c,c<g.length/\(c:Int)∉ex/\(p:Int)∈E1 g c:=by
 unfold mB at h;rw[List.countP_pos_iff]at h;obtain⟨c,a,h⟩:=h;have:=A0 h;exact⟨c,XE.1 a,this.1,this.2⟩
theorem wB{g:Graph}{ex:List Int}{p:Nat}(h:mB g ex p=0){c:Nat}(a:c<g.length)(d:(p:Int)∈E1 g c):(c:Int)∈ex:=by
 apply Classical.byContradiction;intro b;have:0<mB g ex p:=by
  unfold mB;rw[List.countP_pos_iff];exact⟨c,XE.2 a,by simp[b,d]⟩
 omega
structure KInv (g:Graph) (k i:Nat) (ch:List Int) (out:List Int):Prop where
 len:ch.length=g.length
 nodup:out.Nodup
 rng:∀x∈out,0<=x/\x<g.length
 cnt:∀p,p<g.length->ch[p]?.getD 0+(if (p:Int)∈(E1 g (out.getD k 0).toNat).take i then 1 else 0)=mB g (out.take k) p
 zero:∀p,p<g.length->((p:Int)∈out↔ch[p]?.getD 0=0)
 kids:∀j (h:j<out.length) (c:Nat),out[j]∈E1 g c->(c:Int)∈out.take j
theorem minimal{R:Nat->Nat->Prop}(i:∀a b c,R a b->R b c->R a c)(g:∀a,¬R a a):∀{M:List Nat},M≠[]->∃m∈M,∀x∈M,¬R x m
 | [],h=>absurd rfl h
 | [a],_=>⟨a,by simp,fun x d=>by rw[List.mem_singleton.1 d];exact g a⟩
 | a::b::r,_=>by
  obtain⟨m,j,h⟩:=minimal i g (M:=b::r) (by simp);by_cases e:R a m
  ·refine⟨a,by simp,fun x d f=>?_⟩;rcases XB.1 d with rfl | d
   ·exact g _ f
   ·exact h x d (i _ _ _ f e)
  ·refine⟨m,List.mem_cons_of_mem _ j,fun x d=>?_⟩;rcases XB.1 d with rfl | d
   ·exact e
   ·exact h x d
theorem KInv.done{g:Graph}(O:related g=true){Q b:List Int}(h:KInv g b.length 0 Q b):(decide (b.length<g.length))=cyclic g:=by
 cases z:cyclic g
 ·rw[decide_eq_false_iff_not];intro A;have N:∀c,¬Reaches g c c:=fun c d=>by rw[(eH O).2 ⟨c,d⟩]at z;cases z
  let M:=(List.range g.length).filter fun c:Nat=>decide ((c:Int)∉b);have W:M≠[]:=by
   intro e;have w:∀c,c<g.length->(c:Int)∈b:=fun c z=>by
    apply Classical.byContradiction;intro U;have:c∈M:=List.mem_filter.2 ⟨XE.2 z,by simp[U]⟩;rw[e]at this;cases this
   have:=gV (l:=(List.range g.length).map fun i:Nat=>(i:Int)) (m:=b) ((List.nodup_range).map (fun i:Nat=>(i:Int)) (fun _ _ L e=>L (Int.ofNat.inj e))) fun x Y=>by
    obtain⟨i,k,rfl⟩:=XU.1 Y;exact w i (XE.1 k)
   rw[XW,YG]at this;omega
  obtain⟨m,X,B⟩:=minimal (R:=Reaches g) (fun _ _ _ F C=>F.trans C) N W;obtain⟨q,u⟩:=List.mem_filter.1 X;have q:=XE.1 q;have u:=A0 u;have F:=h.cnt m q;have C:¬Q[m]?.getD 0=0:=fun e=>u ((h.zero m q).2 e);rw[XF,List.take_zero,A5 (by simp),Int.add_zero]at F;obtain⟨c,G,H,I⟩:=NK (g:=g) (ex:=b) (p:=m) (by omega);exact B c (List.mem_filter.2 ⟨XE.2 G,by simp[H]⟩) (.one I)
 ·rw[decide_eq_true_eq];obtain⟨c,d⟩:=(eH O).1 z;apply Classical.byContradiction;intro U;have K:=NH h.nodup h.rng (by omega) c (d.lt O).1;have P:∀{x y:Nat},Reaches g x y->∀j (s:j<b.length),b[j]=(y:Int)->∃i,∃k:i<b.length,i<j/\b[i]=(x:Int):=by
   have one:∀{x y:Nat},(y:Int)∈E1 g x->∀j (s:j<b.length),b[j]=(y:Int)->∃i,∃k:i<b.length,i<j/\b[i]=(x:Int):=by
    intro x y v j s e;have:=h.kids j s x (by rw[e];exact v);obtain⟨i,k,S⟩:=List.getElem_of_mem this;rw[XG]at k;rw[List.getElem_take]at S;exact⟨i,by omega,by omega,S⟩
   intro x y v;induction v with
   | one h=>exact one h
   | more _ C ih =>
    intro j s e;obtain⟨i,k,A,E⟩:=one C j s e;obtain⟨Z,J,T,V⟩:=ih i k E;exact⟨Z,J,by omega,V⟩
  obtain⟨j,s,e⟩:=List.getElem_of_mem K;obtain⟨i,k,A,E⟩:=P d j s e;have:=(List.getElem_inj (i:=i) (j:=j) (h₀:=k) (h₁:=s) h.nodup).1 (E.trans e.symm);omega
def I8(l:List Int)(p:Nat):Int:=l[p]?.getD 0
def bump(l:List Int)(p:Int):List Int:=l.set p.toNat (I8 l p.toNat+1)
def T9(l:List Int)(p:Int):List Int:=l.set p.toNat (I8 l p.toNat-1)
def U3(ps:List Int)(l:List Int):List Int:=ps.foldl bump l
def O2(g:Graph)(i:Nat):List Int:=(g.take i).foldl (fun l c=>U3 c.Parents l) (List.replicate g.length 0)
theorem bR{l:List Int}{i p:Nat}{v:Int}(h:i<l.length):I8 (l.set i v) p=if i=p then v else I8 l p:=by
 unfold I8;rw[YQ];split
 ·rename_i e;subst e;simp[h]
 ·rfl
theorem fX:∀(ps:List Int) (l:List Int),(U3 ps l).length=l.length
 | [],_=>rfl
 | p::r,l=>by show (U3 r (bump l p)).length=_;rw[fX r];simp[bump]
theorem kC{n:Int}:∀{ps:List Int} {l:List Int},(∀p∈ps,0<=p/\p<l.length)->ps.Nodup->∀p:Nat,I8 (U3 ps l) p=I8 l p+(if (p:Int)∈ps then 1 else 0)
 | [],l,_,_,p=>by simp[U3]
 | q::r,l,h,b,p=>by
  show I8 (U3 r (bump l q)) p=_;have f:=h q (by simp);have b:=List.nodup_cons.1 b;rw[kC (n:=n) (fun x d=>by have:=h x (by simp[d]);simpa[bump] using this) b.2 p];unfold bump;rw[bR (by omega)];by_cases e:q.toNat=p
  ·have a:(p:Int)=q:=by omega
   have c:¬(p:Int)∈r:=by rw[a];exact b.1
   rw[A4 e,A5 c,a,A4 (by simp),e];omega
  ·have a:((p:Int)∈q::r)↔(p:Int)∈r:=by
    rw[XB];exact⟨fun h=>h.resolve_left (by omega),.inr⟩
   rw[A5 e];simp only[a]
theorem z7(g:Graph):∀i,(O2 g i).length=g.length:=by
 intro i;unfold O2;have b:∀(a:List Commit) (l:List Int),(a.foldl (fun l c=>U3 c.Parents l) l).length=l.length:=by
  intro a;induction a with
  | nil=>intro l;rfl
  | cons c r d=>intro l;rw[YA,d,fX]
 rw[b];simp
theorem iW{g:Graph}{i:Nat}(a:i<g.length):O2 g (i+1)=U3 (E1 g i) (O2 g i):=by
 unfold O2;rw[List.take_add_one,WT a,Option.toList_some,YP,X8 a];rfl
theorem fY{g:Graph}(b:related g=true)(p:Nat)(a:p<g.length):∀i,i<=g.length->I8 (O2 g i) p=((List.range i).countP fun c:Nat=>decide ((p:Int)∈E1 g c):Nat)
 | 0,_=>by
  unfold O2 I8;simp[List.getElem?_replicate,a]
 | i+1,hi=>by
  have hpr:=K2 b i;rw[iW (by omega),kC (n:=0) (fun q d=>by rw[z7];exact hpr.1 q d) hpr.2,fY b p a i (by omega),YR,List.countP_append];by_cases h:(p:Int)∈E1 g i<;>simp[h]
theorem oW{g:Graph}(b:related g=true)(p:Nat)(a:p<g.length):I8 (O2 g g.length) p=mB g [] p:=by
 rw[fY b p a _ (Nat.le_refl _)];unfold mB;simp
def S6(b:List Int)(i:Nat):List Int:=((List.range i).filter fun c=>decide (I8 b c=0)).map fun c:Nat=>(c:Int)
theorem yR(a:List Int)(i:Nat):S6 a (i+1)=if I8 a i=0 then S6 a i++[(i:Int)] else S6 a i:=by
 unfold S6;rw[YR,List.filter_append,YC];by_cases h:I8 a i=0<;>simp[h]
theorem oX(a:List Int)(i p:Nat):(p:Int)∈S6 a i↔p<i/\I8 a p=0:=by
 unfold S6;rw[XU];constructor
 ·rintro⟨c,b,e⟩;have e:c=p:=Int.ofNat.inj e;subst e;rw[List.mem_filter,XE,decide_eq_true_eq]at b;exact b
 ·rintro⟨d,f⟩;exact⟨p,by rw[List.mem_filter,XE,decide_eq_true_eq];exact⟨d,f⟩,rfl⟩
theorem fZ{b:List Int}{i:Nat}:∀x∈S6 b i,0<=x/\x<i:=by
 intro x a;unfold S6 at a;obtain⟨c,d,rfl⟩:=XU.1 a;have:=XE.1 (List.mem_filter.1 d).1;omega
theorem iX(c:List Int)(i:Nat):(S6 c i).Nodup:=by
 unfold S6;exact (List.nodup_range.filter _).map (fun i:Nat=>(i:Int)) fun _ _ b e=>b (Int.ofNat.inj e)
theorem BS(a:List Int)(i:Nat):(S6 a i).length<=i:=X7 (iX a i) fZ
theorem KInv.start{g:Graph}(l:related g=true):KInv g 0 0 (O2 g g.length) (S6 (O2 g g.length) g.length) where
 len:=z7 g _
 nodup:=iX _ _
 rng:=fZ
 cnt:=fun p e=>by
  have:=oW l p e;unfold I8 at this;rw[this,List.take_zero,List.take_zero];simp
 zero:=fun p e=>by
  have:=oX (O2 g g.length) g.length p;rw[this];exact⟨fun h=>h.2,fun h=>⟨e,h⟩⟩
 kids:=fun j k c b=>by
  have f:=fZ _ (WY k);have i:=(oX (O2 g g.length) g.length ((S6 (O2 g g.length) g.length)[j]).toNat).1 (by rw[Int.toNat_of_nonneg f.1];exact WY k);rw[oW l _ i.1]at i;have d:c<g.length:=by
   apply Classical.byContradiction;intro m;rw[lY m]at b;cases b
  have:=wB (g:=g) (ex:=[]) (p:=((S6 (O2 g g.length) g.length)[j]).toNat) (by omega) d (by rw[Int.toNat_of_nonneg f.1];exact b);cases this
theorem KInv.le{g:Graph}{k i:Nat}{b a:List Int}(h:KInv g k i b a):a.length<=g.length:=X7 h.nodup h.rng
theorem v8{α:Type}{l m:List α}{k:Nat}(h:k<=l.length):(l++m).take k=l.take k:=by rw[List.take_append_of_le_length h]
theorem BT{α:Type}{l m:List α}{k:Nat}{d:α}(h:k<l.length):(l++m).getD k d=l.getD k d:=by
 rw[XC,XC,XM h]
theorem Q9{α:Type}{l:List α}{i:Nat}{x:α}(h:i<l.length):x∈l.take (i+1)↔x∈l.take i\/x=l[i]:=by
 rw[List.take_add_one,WT h,Option.toList_some,WZ,List.mem_singleton]
theorem U4{α:Type}{l:List α}(c:l.Nodup){i:Nat}(h:i<l.length):l[i]∉l.take i:=by
 intro b;obtain⟨j,a,e⟩:=List.getElem_of_mem b;rw[XG]at a;rw[List.getElem_take]at e;have:=(List.getElem_inj (i:=j) (j:=i) (h₀:=by omega) (h₁:=h) c).1 e;omega
theorem KInv.step{g:Graph}(Y:related g=true){k i:Nat}{f b:List Int}(h:KInv g k i f b)(E:k<b.length){c p:Nat}(K:b[k]=(c:Int))(G:i<(E1 g c).length)(H:(E1 g c)[i]=(p:Int)) :
  p<g.length/\1<=I8 f p/\I8 f p<=g.length/\KInv g k (i+1) (T9 f p) (if I8 f p-1=0 then b++[(p:Int)] else b):=by
 have hpr:=K2 Y c;have hpm:(p:Int)∈E1 g c:=by rw[<-H];exact WY G
 have m:p<g.length:=by have:=hpr.1 p hpm;omega
 have A:c<g.length:=by have:=h.rng b[k] (WY E);omega
 have v:b.getD k 0=(c:Int):=by rw[XC,WT E];exact K
 have P:(c:Int)∉b.take k:=by rw[<-K];exact U4 h.nodup E
 have O:(p:Int)∉(E1 g c).take i:=by rw[<-H];exact U4 hpr.2 G
 have S:=h.cnt p m;rw[v,WV,A5 O]at S;have T:=wA (g:=g) (ex:=b.take k) (x:=c) (p:=p) P A;rw[A4 hpm]at T;have W:mB g (b.take k) p<=g.length:=by
  unfold mB;have:=List.countP_le_length (p:=fun c:Nat=>decide ((c:Int)∉b.take k/\(p:Int)∈E1 g c)) (l:=List.range g.length)
  rwa[YG]at this
 have V:I8 f p=f[p]?.getD 0:=rfl;have L:1<=I8 f p:=by omega
 have o:(p:Int)∉b:=fun s=>by have:=(h.zero p m).1 s;omega
 have F:∀q,I8 (T9 f p) q=if p=q then I8 f p-1 else I8 f q:=fun q=>by
  unfold T9;rw[WV,bR (by rw[h.len];exact m)]
 refine⟨m,L,by omega,?_⟩;have w:(if I8 f p-1=0 then b++[(p:Int)] else b).take k=b.take k:=by split<;>first | exact v8 (by omega) | rfl
 have B:(if I8 f p-1=0 then b++[(p:Int)] else b).getD k 0=b.getD k 0:=by split<;>first | exact BT E | rfl
 refine⟨by unfold T9;rw[XX];exact h.len,?_,?_,?_,?_,?_⟩
 ·split
  ·exact List.nodup_append.2 ⟨h.nodup,by simp,fun x d y Z e=>by rw[List.mem_singleton.1 Z]at e;exact o (e ▸ d)⟩
  ·exact h.nodup
 ·intro x d;split at d
  ·rcases WZ.1 d with d | d
   ·exact h.rng x d
   ·rw[List.mem_singleton.1 d];omega
  ·exact h.rng x d
 ·intro q Q;rw[w,B,v,WV];have I:=F q;have J:I8 (T9 f p) q=(T9 f p)[q]?.getD 0:=rfl;rw[<-J,I];by_cases e:p=q
  ·subst e;rw[A4 rfl,A4 ((Q9 G).2 (.inr H.symm))];omega
  ·rw[A5 e];have z:=h.cnt q Q;rw[v,WV]at z;have U:((q:Int)∈(E1 g c).take (i+1))↔(q:Int)∈(E1 g c).take i:=by
    rw[Q9 G,H];exact⟨fun h=>h.resolve_right (by omega),.inl⟩
   simp only[U];exact z
 ·intro q Q;have I:=F q;have J:I8 (T9 f p) q=(T9 f p)[q]?.getD 0:=rfl;rw[<-J,I];by_cases e:p=q
  ·subst e;rw[A4 rfl];split
   ·rename_i u;simp[u]
   ·rename_i u;exact⟨fun s=>absurd s o,fun e=>absurd e u⟩
  ·rw[A5 e];have z:=h.zero q Q;split
   ·rw[WZ,List.mem_singleton];exact⟨fun s=>z.1 (s.resolve_right (by omega)),fun e=>.inl (z.2 e)⟩
   ·exact z
 ·intro j M x d;split at M
  ·rename_i u;simp only[u,if_true]at d ⊢;by_cases C:j<b.length
   ·rw[YN C]at d;rw[v8 (by omega)];exact h.kids j C x d
   ·have N:j=b.length:=by rw[WX,List.length_singleton]at M;omega
    subst N;rw[YM (Nat.le_refl _)]at d;simp only[YK,List.getElem_cons_zero]at d;have R:x<g.length:=by
     apply Classical.byContradiction;intro X;rw[lY X]at d;cases d
    have hz:mB g (b.take k++[(c:Int)]) p=0:=by omega
    have:=wB hz R d;rw[v8 (Nat.le_refl _),XF];rcases WZ.1 this with s | s
    ·exact List.mem_of_mem_take s
    ·rw[List.mem_singleton.1 s,<-K];exact WY E
  ·rename_i u;simp only[u,if_false]at d ⊢;exact h.kids j M x d
theorem KInv.next{g:Graph}{k:Nat}{m a:List Int}(d:k<a.length){c:Nat}(f:a[k]=(c:Int))(h:KInv g k (E1 g c).length m a):KInv g (k+1) 0 m a where
 len:=h.len
 nodup:=h.nodup
 rng:=h.rng
 cnt:=fun p r=>by
  have o:=h.cnt p r;have i:a.getD k 0=(c:Int):=by rw[XC,WT d];exact f
  have b:c<g.length:=by have:=h.rng a[k] (WY d);omega
  rw[i,WV,XF]at o;have q:=wA (g:=g) (ex:=a.take k) (x:=c) (p:=p) (by rw[<-f];exact U4 h.nodup d) b;have e:a.take (k+1)=a.take k++[(c:Int)]:=by rw[List.take_add_one,WT d,Option.toList_some,f]
  rw[e,List.take_zero,A5 (by simp)];split at o
  ·rename_i j;rw[A4 j]at q;omega
  ·rename_i j;rw[A5 j]at q;omega
 zero:=h.zero
 kids:=h.kids
def X9:List Commit->Int
 | []=>0
 | c::r=>if K1 c.Files≠0 then K1 c.Files else X9 r
def o3(g:Graph):Bool:=decide (g.length<=300)&&!g.any fun c=>decide (c.Parents.length>32)
def mC(g:Graph):Bool:=g.any fun c=>decide (c.Date<0\/c.Date>2147483647)
def N1(g:Graph):Int:=if o3 g=false then 1 else if related g=false then 230 else if cyclic g=true then 231 else if mC g=true then 3 else X9 g
theorem iY:∀{g:List Commit},X9 g=0->∀c∈g,K1 c.Files=0
 | [],_,_,hc=>by cases hc
 | d::r,h,c,hc=>by
  unfold X9 at h;split at h
  ·rename_i a;exact absurd h a
  ·rename_i a;rcases XB.1 hc with rfl | hc
   ·simpa using a
   ·exact iY h c hc
structure Valid (g:Graph):Prop where
 len:g.length<=300
 pars:∀c∈g,c.Parents.length<=32
 rel:related g=true
 acyc:∀c,¬Reaches g c c
 tree:∀c∈g,K1 c.Files=0
theorem gA{g:Graph}(h:N1 g=0):Valid g:=by
 unfold N1 at h;split at h
 ·cases h
 ·rename_i a;split at h
  ·cases h
  ·rename_i d;split at h
   ·cases h
   ·rename_i e;split at h
    ·cases h
    ·have a:o3 g=true:=by simpa using a
     unfold o3 at a;rw[WU,decide_eq_true_eq]at a;have d:related g=true:=by simpa using d
     refine⟨a.1,fun c b=>?_,d,fun c b=>e ((eH d).2 ⟨c,b⟩),fun c b=>iY h c b⟩;apply Classical.byContradiction;intro f;have:g.any (fun c=>decide (c.Parents.length>32))=true:=List.any_eq_true.2 ⟨c,b,by simp;omega⟩;rw[this]at a;cases a.2
structure CHunk where
 At:List Int
 Rows:List Row
 deriving DecidableEq
structure Comb where
 Path:Str
 Dense:Bool
 Parents:Int
 Hunks:List CHunk
 deriving DecidableEq
def RM(n k:Nat):Int:=if k=n then -1 else k
def VH(a:List Row)(n k:Nat):Int:=(TS a (RM n k)).length
structure CRead (n:Nat) (h:CHunk):Prop where
 len:h.At.length=n+1
 ne:h.Rows≠[]
 UY:∀k,k<n+1->0<=h.At.getD k 0/\h.At.getD k 0+VH h.Rows n k<=4096
 rows:∀r∈h.Rows,RD n r=true/\Z3 r.Text=true
theorem UC{l:List Int}{i:Nat}(h:i<l.length):l[i]?=some (l.getD i 0):=by simp[h]
def Y0(l:List Int)(i j:Nat):List Int:=(l.set i (I8 l j)).set j (I8 l i)
def OD(a:Int->Int->Bool):Nat->List Int->Nat->List Int
 | 0,l,_=>l
 | f+1,l,j=>if (j-1) / 2=j\/a (I8 l j) (I8 l ((j-1) / 2))=false then l else OD a f (Y0 l ((j-1) / 2) j) ((j-1) / 2)
def pL(bf:Int->Int->Bool)(n:Nat)(l:List Int)(i:Nat):Nat:=if 2*i+2<n/\bf (I8 l (2*i+2)) (I8 l (2*i+1))=true then 2*i+2 else 2*i+1
def aQ(bf:Int->Int->Bool)(n:Nat):Nat->List Int->Nat->List Int
 | 0,l,_=>l
 | f+1,l,i=>if n<=2*i+1 then l else if bf (I8 l (pL bf n l i)) (I8 l i)=false then l else aQ bf n f (Y0 l i (pL bf n l i)) (pL bf n l i)
def mD(a:Int->Int->Bool)(l:List Int)(x:Int):List Int:=OD a (l.length+1) (l++[x]) l.length
def kD(a:Int->Int->Bool)(l:List Int):List Int:=aQ a (l.length-1) l.length (Y0 l 0 (l.length-1)) 0
theorem N8(l:List Int)(i j:Nat):(Y0 l i j).length=l.length:=by simp[Y0]
theorem a7{l:List Int}{i j:Nat}(a:i<l.length)(b:j<l.length)(k:Nat):I8 (Y0 l i j) k=if k=j then I8 l i else if k=i then I8 l j else I8 l k:=by
 unfold Y0;rw[bR (by rw[XX];exact b),bR a];simp only[@eq_comm Nat j k,@eq_comm Nat i k]
theorem O9{l:List Int}{k:Nat}(h:k<l.length):I8 l k=l[k]:=by unfold I8;rw[WT h];rfl
theorem wC{l:List Int}{i j:Nat}(a:i<l.length)(b:j<l.length)(x:Int):x∈Y0 l i j↔x∈l:=by
 have sub:∀{l:List Int} {i j:Nat},i<l.length->j<l.length->∀x,x∈Y0 l i j->x∈l:=by
  intro l i j a b x g;obtain⟨k,d,e⟩:=List.getElem_of_mem g;rw[<-O9 d,a7 a b]at e;rw[N8]at d;split at e
  ·rw[<-e,O9 a];exact WY a
  ·split at e
   ·rw[<-e,O9 b];exact WY b
   ·rw[<-e,O9 d];exact WY d
 refine⟨sub a b x,fun g=>?_⟩;have e:Y0 (Y0 l i j) i j=l:=by
  refine List.ext_getElem (by rw[N8,N8]) fun k h m=>?_;rw[<-O9 h,<-O9 m,a7 (by rw[N8];exact a) (by rw[N8];exact b),a7 a b,a7 a b,a7 a b];by_cases f:k=j
  ·subst f;rw[A4 rfl];by_cases c:i=k
   ·rw[A4 c,c]
   ·rw[A5 c,A4 rfl]
  ·rw[A5 f];by_cases c:k=i
   ·rw[A4 c,A4 rfl,c]
   ·rw[A5 c,A5 f,A5 c]
 exact sub (by rw[N8];exact a) (by rw[N8];exact b) x (by rw[e];exact g)
theorem NL{l:List Int}:l.Nodup↔∀i j,i<l.length->j<l.length->I8 l i=I8 l j->i=j:=by
 constructor
 ·intro h i j a b e;rw[O9 a,O9 b]at e;exact (List.getElem_inj h).1 e
 ·intro h;rw[List.Nodup,List.pairwise_iff_getElem];intro i j a b c e;have:=h i j a b (by rw[O9 a,O9 b];exact e);omega
theorem BU{l:List Int}{i j:Nat}(f:i<l.length)(g:j<l.length)(h:l.Nodup):(Y0 l i j).Nodup:=by
 rw[NL]at h ⊢;intro a b ha hb e;rw[N8]at ha hb;rw[a7 f g,a7 f g]at e;by_cases k:a=j<;>by_cases m:b=j
 ·omega
 ·rw[A4 k,A5 m]at e;by_cases c:b=i
  ·rw[A4 c]at e;have:=h _ _ f g e;omega
  ·rw[A5 c]at e;have:=h _ _ f hb e;omega
 ·rw[A5 k,A4 m]at e;by_cases a2:a=i
  ·rw[A4 a2]at e;have:=h _ _ g f e;omega
  ·rw[A5 a2]at e;have:=h _ _ ha f e;omega
 ·rw[A5 k,A5 m]at e;by_cases a2:a=i<;>by_cases c:b=i
  ·omega
  ·rw[A4 a2,A5 c]at e;have:=h _ _ g hb e;omega
  ·rw[A5 a2,A4 c]at e;have:=h _ _ ha g e;omega
  ·rw[A5 a2,A5 c]at e;exact h _ _ ha hb e
structure SameL (l m:List Int):Prop where
 len:m.length=l.length
 mem:∀x,x∈m↔x∈l
 nodup:l.Nodup->m.Nodup
theorem SameL.refl(l:List Int):SameL l l:=⟨rfl,fun _=>Iff.rfl,id⟩
theorem SameL.trans{a b c:List Int}(h:SameL a b)(d:SameL b c):SameL a c:=⟨d.len.trans h.len,fun x=>(d.mem x).trans (h.mem x),fun e=>d.nodup (h.nodup e)⟩
theorem SameL.swap{l:List Int}{i j:Nat}(a:i<l.length)(b:j<l.length):SameL l (Y0 l i j):=⟨N8 l i j,wC a b,BU a b⟩
structure Weak (bf:Int->Int->Bool):Prop where
 irr:∀a,bf a a=false
 asy:∀{a b},bf a b=true->bf b a=false
 ntr:∀{a b c},bf a b=false->bf b c=false->bf a c=false
def mE(bf:Int->Int->Bool)(n:Nat)(l:List Int):Prop:=∀k,k<n->0<k->bf (I8 l k) (I8 l ((k-1) / 2))=false
theorem JZ{a:Int->Int->Bool}(w:Weak a){n:Nat}{l:List Int}(h:mE a n l):∀k,k<n->a (I8 l k) (I8 l 0)=false:=by
 intro k;induction k using Nat.strongRecOn with
 | _ k d =>
  intro c;by_cases b:k=0
  ·subst b;exact w.irr _
  ·exact w.ntr (h k c (by omega)) (d ((k-1) / 2) (by omega) (by omega))
theorem BV{g:Int->Int->Bool}(w:Weak g){n:Nat}:∀(f j:Nat) (l:List Int),j<f->j<n->n<=l.length ->
  (∀k,k<n->0<k->k≠j->g (I8 l k) (I8 l ((k-1) / 2))=false)->(∀k,k<n->0<k->(k-1) / 2=j->0<j->g (I8 l k) (I8 l ((j-1) / 2))=false) ->
  mE g n (OD g f l j)/\SameL l (OD g f l j)
 | 0,j,l,hf,_,_,_,_=>by omega
 | f + 1,j,l,hf,hj,hl,h1,h2=>by
  unfold OD;split
  ·rename_i h;refine⟨fun k o m=>?_,SameL.refl l⟩;by_cases e:k=j
   ·subst e;rcases h with h | h
    ·omega
    ·exact h
   ·exact h1 k o m e
  ·rename_i h;have C:(j-1) / 2≠j:=fun e=>h (.inl e);have q:g (I8 l j) (I8 l ((j-1) / 2))=true:=by
    cases hb:g (I8 l j) (I8 l ((j-1) / 2))
    ·exact absurd (.inr hb) h
    ·rfl
   have B:(j-1) / 2<l.length:=by omega
   have p:j<l.length:=by omega
   have d:=a7 B p
   obtain⟨a,b⟩:=BV (n:=n) w f ((j-1) / 2) (Y0 l ((j-1) / 2) j) (by omega) (by omega) (by rw[N8];exact hl) (fun k o m u=>by
    rw[d,d];by_cases c:k=j
    ·rw[A4 c,c,A5 (by omega),A4 rfl];exact w.asy q
    ·rw[A5 c,A5 u];by_cases x:(k-1) / 2=j
     ·rw[A4 x];exact h2 k o m x (by omega)
     ·rw[A5 x];by_cases y:(k-1) / 2=(j-1) / 2
      ·rw[A4 y];have v:=h1 k o m c;rw[y]at v;exact w.ntr v (w.asy q)
      ·rw[A5 y];exact h1 k o m c) (fun k o m e v=>by
    rw[d,d,A5 (show ¬((j-1) / 2-1) / 2=j by omega),A5 (show ¬((j-1) / 2-1) / 2=(j-1) / 2 by omega)];have z:=h1 ((j-1) / 2) (by omega) v (by omega);by_cases c:k=j
    ·rw[A4 c];exact z
    ·rw[A5 c,A5 (by omega)];have A:=h1 k o m c;rw[e]at A
     exact w.ntr A z)
   exact⟨a,(SameL.swap B p).trans b⟩
theorem BW{a:Int->Int->Bool}(w:Weak a){l:List Int}(x:Int)(h:mE a l.length l):mE a (l.length+1) (mD a l x)/\SameL (l++[x]) (mD a l x):=by
 unfold mD;have b:∀k,k<l.length->I8 (l++[x]) k=I8 l k:=fun k c=>by unfold I8;rw[XM c]
 refine BV w (n:=l.length+1) (l.length+1) l.length (l++[x]) (by omega) (by omega) (by simp) (fun k c d f=>?_) (fun k c d e g=>by omega);rw[b k (by omega),b _ (by omega)];exact h k (by omega) d
theorem HJ{bf:Int->Int->Bool}{n:Nat}{l:List Int}{i:Nat}(h:2*i+1<n):pL bf n l i<n/\(pL bf n l i-1) / 2=i/\i<pL bf n l i:=by
 unfold pL;split<;>omega
theorem NM{bf:Int->Int->Bool}(w:Weak bf){n:Nat}{l:List Int}{i k:Nat}(d:k<n)(c:0<k)(e:(k-1) / 2=i):bf (I8 l k) (I8 l (pL bf n l i))=false:=by
 unfold pL;split
 ·rename_i h;by_cases a:k=2*i+2
  ·rw[a];exact w.irr _
  ·rw[show k=2*i+1 by omega];exact w.asy h.2
 ·rename_i h;by_cases a:k=2*i+1
  ·rw[a];exact w.irr _
  ·have b:k=2*i+2:=by omega
   rw[b];cases hb:bf (I8 l (2*i+2)) (I8 l (2*i+1))
   ·rfl
   ·exact absurd ⟨by omega,hb⟩ h
theorem sU{bf:Int->Int->Bool}(w:Weak bf){n:Nat}:∀(f i:Nat) (l:List Int),n<=i+f->n<=l.length ->
  (∀k,k<n->0<k->(k-1) / 2≠i->bf (I8 l k) (I8 l ((k-1) / 2))=false)->(∀k,k<n->0<k->(k-1) / 2=i->0<i->bf (I8 l k) (I8 l ((i-1) / 2))=false) ->
  mE bf n (aQ bf n f l i)/\SameL l (aQ bf n f l i)/\∀k,n<=k->I8 (aQ bf n f l i) k=I8 l k
 | 0,i,l,hf,_,h1,h2=>by
  unfold aQ;exact⟨fun k d g=>h1 k d g (by omega),SameL.refl l,fun _ _=>rfl⟩
 | f + 1,i,l,hf,hl,h1,h2=>by
  unfold aQ;split
  ·exact⟨fun k d g=>h1 k d g (by omega),SameL.refl l,fun _ _=>rfl⟩
  ·rename_i E;obtain⟨z,o,C⟩:=HJ (bf:=bf) (l:=l) (show 2*i+1<n by omega);have q:=fun k d g e=>NM (bf:=bf) w (n:=n) (l:=l) (i:=i) (k:=k) d g e;generalize pL bf n l i=j at z o C q;split
   ·rename_i h;refine⟨fun k d g=>?_,SameL.refl l,fun _ _=>rfl⟩;by_cases e:(k-1) / 2=i
    ·rw[e];exact w.ntr (q k d g e) h
    ·exact h1 k d g e
   ·rename_i h;have x:bf (I8 l j) (I8 l i)=true:=by simpa using h
    have A:i<l.length:=by omega
    have B:j<l.length:=by omega
    have m:=a7 A B
    obtain⟨a,b,c⟩:=sU (n:=n) w f j (Y0 l i j) (by omega) (by rw[N8];exact hl) (fun k d g y=>by
     rw[m,m];rw[A5 (show ¬(k-1) / 2=j from y)];by_cases u:k=j
     ·rw[A4 u];rw[u,A4 o];exact w.asy x
     ·rw[A5 u];by_cases p:(k-1) / 2=i
      ·rw[A4 p,A5 (by omega)];exact q k d g p
      ·rw[A5 p];by_cases v:k=i
       ·rw[A4 v,v];exact h2 j z (by omega) o (by omega)
       ·rw[A5 v];exact h1 k d g p) (fun k d g e D=>by
     rw[m,m,A5 (by omega),A5 (by omega),o,A5 (by omega),A4 rfl];have:=h1 k d g (by omega)
     rw[e]at this;exact this)
    refine⟨a,(SameL.swap A B).trans b,fun k d=>?_⟩;rw[c k d,m,A5 (by omega),A5 (by omega)]
theorem PL{f:Int->Int->Bool}(w:Weak f){l:List Int}(h:mE f l.length l)(p:0<l.length) :
  mE f (l.length-1) (kD f l)/\SameL l (kD f l)/\I8 (kD f l) (l.length-1)=I8 l 0:=by
 unfold kD;have j:0<l.length:=p;have m:l.length-1<l.length:=by omega
 have d:=a7 j m
 obtain⟨a,b,c⟩:=sU w (n:=l.length-1) l.length 0 (Y0 l 0 (l.length-1)) (by omega) (by rw[N8];omega) (fun k o g i=>by
  rw[d,d,A5 (by omega),A5 (by omega),A5 (by omega),A5 i]
  exact h k (by omega) g) (fun k o g e q=>by omega)
 refine⟨a,(SameL.swap j m).trans b,?_⟩;rw[c _ (Nat.le_refl _),d,A4 rfl]
def x4(g:Graph)(c:Nat):Int:=(g[c]?.map (·.Date)).getD 0
def R2(g:Graph)(a b:Int):Bool:=decide (x4 g a.toNat>x4 g b.toNat\/(x4 g a.toNat=x4 g b.toNat/\a<b))
theorem gX(g:Graph):Weak (R2 g) where
 irr:=fun a=>by unfold R2;rw[decide_eq_false_iff_not];omega
 asy:=fun {a b} h=>by unfold R2 at h ⊢;rw[decide_eq_true_eq]at h;rw[decide_eq_false_iff_not];omega
 ntr:=fun {a b c} h d=>by unfold R2 at h d ⊢;rw[decide_eq_false_iff_not]at h d ⊢;omega
def Y1(g:Graph)(inn:List Bool)(L:List Int)(c:Nat):Bool:=L4 inn c&&decide ((c:Int)∉L)&&(List.range g.length).all fun k=>!(decide ((c:Int)∈E1 g k)&&L4 inn k&&decide ((k:Int)∉L))
def kE(g:Graph)(b:List Bool)(L:List Int):Nat->Int
 | 0 => -1
 | m+1=>if Y1 g b L m=true/\(kE g b L m<0\/x4 g m>x4 g (kE g b L m).toNat) then m else kE g b L m
def l0(g:Graph)(inn:List Bool)(L:List Int):Int:=kE g inn L g.length
def eI(g:Graph)(inn:List Bool):Nat->List Int->List Int
 | 0,L=>L
 | f+1,L=>if l0 g inn L<0 then L else eI g inn f (L++[l0 g inn L])
def J9(g:Graph)(s:List Int):List Int:=eI g (J3 g s) (g.length+1) []
theorem aC(g:Graph)(d:List Bool)(L:List Int):∀m,(kE g d L m = -1/\∀c,c<m->Y1 g d L c=false)\/∃b:Nat,b<m/\kE g d L m=b/\Y1 g d L b=true/\∀c,c<m->Y1 g d L c=true->c≠b->R2 g b c=true
 | 0=>.inl ⟨rfl,fun _ h=>by omega⟩
 | m + 1=>by
  rw[kE];rcases aC g d L m with ⟨p,j⟩ | ⟨b,p,j,h3,h4⟩
  ·rw[p];cases q:Y1 g d L m
   ·rw[A5 (by simp)]
    exact .inl ⟨rfl,fun c k=>by
     by_cases e:c=m
     ·rw[e];exact q
     ·exact j c (by omega)⟩
   ·rw[A4 ⟨rfl,.inl (by omega)⟩];exact .inr ⟨m,by omega,rfl,q,fun c k a f=>by rw[j c (by omega)]at a;cases a⟩
  ·rw[j];split
   ·rename_i h;have o:x4 g m>x4 g b:=by
     rcases h.2 with h | h
     ·omega
     ·simpa using h
    refine .inr ⟨m,by omega,rfl,h.1,fun c k a f=>?_⟩;unfold R2;rw[decide_eq_true_eq,WV,WV];by_cases e:c=b
    ·subst e;exact .inl o
    ·have:=A0 (h4 c (by omega) a e);rw[WV,WV]at this;omega
   ·rename_i h;refine .inr ⟨b,by omega,rfl,h3,fun c k a f=>?_⟩;by_cases e:c=m
    ·subst e;unfold R2;rw[decide_eq_true_eq,WV,WV];have:¬x4 g c>x4 g b:=fun o=>h ⟨a,.inr (by simpa using o)⟩;omega
    ·exact h4 c (by omega) a f
theorem FC{g:Graph}{a:List Bool}{L:List Int}(h:∀c,c<g.length->Y1 g a L c=false):l0 g a L = -1:=by
 rcases aC g a L g.length with d | ⟨b,d,_,h3,_⟩
 ·exact d.1
 ·rw[h b d]at h3;cases h3
theorem NN{g:Graph}{a:List Bool}{L:List Int}{b:Nat}(hb:b<g.length)(f:Y1 g a L b=true)(h:∀c,c<g.length->Y1 g a L c=true->R2 g c b=false):l0 g a L=b:=by
 rcases aC g a L g.length with d | ⟨b',d,h2,h3,h4⟩
 ·rw[d.2 b hb]at f;cases f
 ·unfold l0;rw[h2];by_cases e:b=b'
  ·rw[e]
  ·have:=h4 b hb f e;rw[h b' d h3]at this;cases this
theorem nQ{g:Graph}{inn:List Bool}{L:List Int}(h:0<=l0 g inn L):∃b:Nat,b<g.length/\l0 g inn L=b/\L4 inn b=true/\(b:Int)∉L:=by
 rcases aC g inn L g.length with a | ⟨b,a,h2,h3,_⟩
 ·have:l0 g inn L = -1:=a.1;omega
 ·unfold Y1 at h3;rw[WU,WU,decide_eq_true_eq]at h3;exact⟨b,a,h2,h3.1.1,h3.1.2⟩
theorem KA{g:Graph}{a:List Bool}{f:Nat}{L:List Int}(b:0<f)(h:0<=l0 g a L):eI g a f L=eI g a (f-1) (L++[l0 g a L]):=by
 obtain⟨f,rfl⟩:∃k,f=k+1:=⟨f-1,by omega⟩
 rw[eI,A5 (by omega)];rfl
theorem NO{g:Graph}{a:List Bool}{f:Nat}{L:List Int}(h:l0 g a L<0):eI g a f L=L:=by
 cases f with
 | zero=>rfl
 | succ f=>rw[eI,A4 h]
theorem BX{g:Graph}{inn:List Bool}:∀(f:Nat) (L:List Int),L.Nodup->(∀x∈L,0<=x/\x<g.length)->(eI g inn f L).Nodup/\∀x∈eI g inn f L,0<=x/\x<g.length
 | 0,L,h,h2=>⟨h,h2⟩
 | f+1,L,h,h2=>by
  rw[eI];split
  ·exact⟨h,h2⟩
  ·rename_i hb;obtain⟨b,k,c,_,i⟩:=nQ (g:=g) (inn:=inn) (L:=L) (by omega);rw[c];refine BX f _ (List.nodup_append.2 ⟨h,by simp,fun x a y j e=>by rw[List.mem_singleton.1 j]at e;exact i (e ▸ a)⟩) fun x a=>?_;rcases WZ.1 a with a | a
   ·exact h2 x a
   ·rw[List.mem_singleton.1 a];omega
theorem w7(g:Graph)(s:List Int):(J9 g s).Nodup/\∀x∈J9 g s,0<=x/\x<g.length:=BX _ [] List.nodup_nil fun _ h=>by cases h
def nR(g:Graph)(inn:List Bool)(ex:List Int)(p:Nat):Nat:=(List.range g.length).countP fun c:Nat=>L4 inn c&&decide ((c:Int)∉ex/\(p:Int)∈E1 g c)
theorem wD{g:Graph}{inn:List Bool}{ex:List Int}{x p:Nat}(h:(x:Int)∉ex)(a:x<g.length)(b:L4 inn x=true):nR g inn ex p=nR g inn (ex++[(x:Int)]) p+(if (p:Int)∈E1 g x then 1 else 0):=by
 unfold nR;rw[kA (q:=fun c=>L4 inn c&&decide ((c:Int)∉ex/\(p:Int)∈E1 g c)) (r:=fun c=>L4 inn c&&decide ((c:Int)∉ex++[(x:Int)]/\(p:Int)∈E1 g c)) x (fun y=>?_) List.nodup_range]
 ·congr 1
  simp only[XE,a,true_and,decide_eq_true_eq,h,not_false_eq_true,b,Bool.true_and]
 ·simp only[WZ,List.mem_singleton];by_cases d:(y:Int)∈ex<;>by_cases e:y=x<;>by_cases f:(p:Int)∈E1 g y<;>cases L4 inn y<;>simp[d,e,f]<;>omega
theorem KB{g:Graph}{inn:List Bool}{ex:List Int}{p:Nat}:nR g inn ex p=0↔∀c,c<g.length->L4 inn c=true->(p:Int)∈E1 g c->(c:Int)∈ex:=by
 unfold nR;rw[List.countP_eq_zero];constructor
 ·intro h c b e f;have:=h c (XE.2 b);rw[e,Bool.true_and,decide_eq_true_eq]at this;apply Classical.byContradiction;exact fun d=>this ⟨d,f⟩
 ·intro h c b a;rw[WU,decide_eq_true_eq]at a;exact a.2.1 (h c (XE.1 b) a.1 a.2.2)
theorem yS(g:Graph)(inn:List Bool)(ex:List Int)(p:Nat):nR g inn ex p<=g.length:=by
 unfold nR;have:=List.countP_le_length (p:=fun c=>L4 inn c&&decide ((c:Int)∉ex/\(p:Int)∈E1 g c)) (l:=List.range g.length)
 rwa[YG]at this
structure OInv (g:Graph) (inn:List Bool) (k i:Nat) (ch hp out:List Int):Prop where
 len:ch.length=g.length
 cnt:∀p,p<g.length->L4 inn p=true->I8 ch p+(if (p:Int)∈(E1 g (out.getD k 0).toNat).take i then 1 else 0)=nR g inn (out.take k) p
 off:∀p,p<g.length->L4 inn p=false->I8 ch p = -1
 hpm:∀p:Nat,(p:Int)∈hp↔p<g.length/\L4 inn p=true/\(p:Int)∉out/\I8 ch p=0
 hpr:∀x∈hp,0<=x/\x<g.length
 hpn:hp.Nodup
 heap:mE (R2 g) hp.length hp
 outn:out.Nodup
 outr:∀x∈out,0<=x/\x<g.length/\L4 inn x.toNat=true/\I8 ch x.toNat=0
theorem OInv.ready{g:Graph}{inn:List Bool}{n b a:List Int}(h:OInv g inn a.length 0 n b a){c:Nat}(o:c<g.length):Y1 g inn a c=true↔(c:Int)∈b:=by
 rw[h.hpm];unfold Y1;rw[WU,WU,decide_eq_true_eq,List.all_eq_true];have j:L4 inn c=true->((∀x∈List.range g.length,(!(decide ((c:Int)∈E1 g x)&&L4 inn x&&decide ((x:Int)∉a)))=true)↔I8 n c=0):=by
  intro q;have d:=h.cnt c o q;rw[XF,List.take_zero,A5 (by simp)]at d;have f:=KB (g:=g) (inn:=inn) (ex:=a) (p:=c);constructor
  ·intro i;have:nR g inn a c=0:=f.2 fun k m e b=>by
    have:=i k (XE.2 m);simpa[b,e] using this
   omega
  ·intro r k m;cases e:L4 inn k
   ·simp
   ·by_cases b:(c:Int)∈E1 g k
    ·have:=f.1 (by omega) k (XE.1 m) e b;simp[b,this]
    ·simp[b]
 constructor
 ·rintro⟨⟨d,f⟩,l⟩;exact⟨o,d,f,(j d).1 l⟩
 ·rintro⟨_,d,f,l⟩;exact⟨⟨d,f⟩,(j d).2 l⟩
theorem OInv.fin{g:Graph}{b:List Bool}{d a:List Int}(h:OInv g b a.length 0 d [] a):l0 g b a = -1 :=
 FC fun c e=>by
  cases f:Y1 g b a c
  ·rfl
  ·have:=(h.ready e).1 f;cases this
theorem OInv.le{g:Graph}{b:List Bool}{k i:Nat}{e c a:List Int}(h:OInv g b k i e c a):a.length<=g.length/\c.length<=g.length :=
 ⟨X7 h.outn fun x d=>⟨(h.outr x d).1,(h.outr x d).2.1⟩,X7 h.hpn h.hpr⟩
theorem KC{l m:List Int}{n:Nat}(v:n+1=l.length)(q:SameL l m)(j:l.Nodup){x:Int}(r:I8 m n=x):(∀y,y∈m.take n↔y∈l/\y≠x)/\(m.take n).Nodup/\(m.take n).length=n:=by
 have s:m.length=n+1:=by rw[q.len,v]
 have i:=q.nodup j;have c:n<m.length:=by omega
 have e:m=m.take n++[x]:=by
  have f:m.take (n+1)=m:=XN (by omega);rw[List.take_add_one,WT c,Option.toList_some]at f;rw[O9 c]at r;rw[r]at f;exact f.symm
 have a:=i;rw[e,List.nodup_append]at a;refine⟨fun y=>?_,a.1,by rw[XG];omega⟩;rw[<-q.mem y];constructor
 ·intro b;exact⟨List.mem_of_mem_take b,a.2.2 y b x (by simp)⟩
 ·rintro⟨b,k⟩;rw[e]at b;rcases WZ.1 b with b | b
  ·exact b
  ·exact absurd (List.mem_singleton.1 b) k
theorem OInv.pop{g:Graph}{m:List Bool}{B b f:List Int}(h:OInv g m f.length 0 B b f)(u:0<b.length) :
  l0 g m f=I8 b 0/\OInv g m f.length 0 B ((kD (R2 g) b).take (b.length-1)) (f++[I8 b 0])/\I8 (kD (R2 g) b) (b.length-1)=I8 b 0:=by
 have z:I8 b 0∈b:=by rw[O9 u];exact WY u
 have K:=h.hpr _ z;obtain⟨c,q⟩:∃c:Nat,I8 b 0=c:=⟨(I8 b 0).toNat,by omega⟩
 have i:=(h.hpm c).1 (by rw[<-q];exact z);obtain⟨I,J,E⟩:=PL (gX g) h.heap u;obtain⟨A,t2,t3⟩:=KC (n:=b.length-1) (by omega) J h.hpn E;have hb:l0 g m f=c:=NN i.1 ((h.ready i.1).2 (by rw[<-q];exact z)) fun d F v=>by
  obtain⟨j,r,e⟩:=List.getElem_of_mem ((h.ready F).1 v);have:=JZ (gX g) h.heap j r;rw[O9 r,e,q]at this;exact this
 refine⟨by rw[hb,q],?_,E⟩;rw[q]at A ⊢;refine⟨h.len,fun p b G=>?_,h.off,fun p=>?_,fun x l=>h.hpr x ((A x).1 l).1,t2,?_,?_,?_⟩
 ·have C:=h.cnt p b G;rw[List.take_zero,A5 (by simp)]at C ⊢;rw[v8 (Nat.le_refl _)];exact C
 ·rw[A,h.hpm,WZ,List.mem_singleton,not_or];constructor
  ·rintro⟨⟨s,a2,a3,a4⟩,a5⟩;exact⟨s,a2,⟨a3,a5⟩,a4⟩
  ·rintro⟨s,a2,⟨a3,a5⟩,a4⟩;exact⟨⟨s,a2,a3,a4⟩,a5⟩
 ·rw[t3];intro k D w;have e:∀j,j<b.length-1->I8 ((kD (R2 g) b).take (b.length-1)) j=I8 (kD (R2 g) b) j:=fun j r=>by
   unfold I8;rw[List.getElem?_take,A4 r]
  rw[e k D,e _ (by omega)];exact I k D w
 ·exact List.nodup_append.2 ⟨h.outn,by simp,fun x l y H e=>by rw[List.mem_singleton.1 H]at e;exact i.2.2.1 (e ▸ l)⟩
 ·intro x l;rcases WZ.1 l with l | l
  ·exact h.outr x l
  ·rw[List.mem_singleton.1 l,WV];exact⟨by omega,by omega,i.2.1,i.2.2.2⟩
theorem OInv.step{g:Graph}{inn:List Bool}(T:related g=true)(K:bQ g inn){k i:Nat}{o D b:List Int}(h:OInv g inn k i o D b)(W:k+1=b.length){c p:Nat}(A:b[k]?=some (c:Int))(H:i<(E1 g c).length)(u:(E1 g c)[i]=(p:Int)) :
  p<g.length/\1<=I8 o p/\I8 o p<=g.length/\D.length<g.length/\OInv g inn k (i+1) (T9 o p) (if I8 o p-1=0 then mD (R2 g) D p else D) b:=by
 have hkl:k<b.length:=by omega
 have A:b[k]=(c:Int):=by rw[WT hkl]at A;exact Option.some.inj A
 have hpr:=K2 T c;have hpm:(p:Int)∈E1 g c:=by rw[<-u];exact WY H
 have f:p<g.length:=by have:=hpr.1 p hpm;omega
 have B:=h.outr b[k] (WY hkl);rw[A,WV]at B;have E:c<g.length:=by omega
 have s:L4 inn p=true:=by have:=K c B.2.2.1 p hpm;rwa[WV]at this
 have C:b.getD k 0=(c:Int):=by rw[XC,WT hkl];exact A
 have N:(c:Int)∉b.take k:=by rw[<-A];exact U4 h.outn hkl
 have M:(p:Int)∉(E1 g c).take i:=by rw[<-u];exact U4 hpr.2 H
 have P:=h.cnt p f s;rw[C,WV,A5 M]at P;have Q:=wD (g:=g) (inn:=inn) (ex:=b.take k) (x:=c) (p:=p) N E B.2.2.1;rw[A4 hpm]at Q;have S:=yS g inn (b.take k) p;have L:1<=I8 o p:=by omega
 have m:(p:Int)∉b:=fun j=>by have:=(h.outr _ j).2.2.2;rw[WV]at this;omega
 have w:(p:Int)∉D:=fun j=>by have:=((h.hpm p).1 j).2.2.2;omega
 have v:∀q,I8 (T9 o p) q=if p=q then I8 o p-1 else I8 o q:=fun q=>by
  unfold T9;rw[WV,bR (by rw[h.len];exact f)]
 have F:D.length<g.length:=by
  have:=X7 (l:=(c:Int)::D) (n:=g.length) (List.nodup_cons.2 ⟨fun j=>((h.hpm c).1 j).2.2.1 (by rw[<-A];exact WY hkl),h.hpn⟩) fun x d=>by
   rcases XB.1 d with rfl | d
   ·omega
   ·exact h.hpr x d
  rw[WW]at this;omega
 obtain⟨V,G⟩:=BW (gX g) (p:Int) h.heap;refine⟨f,L,by omega,F,⟨by unfold T9;rw[XX];exact h.len,?_,?_,?_,?_,?_,?_,h.outn,?_⟩⟩
 ·intro q O I;rw[C,WV,v q];by_cases e:p=q
  ·subst e;rw[A4 rfl,A4 ((Q9 H).2 (.inr u.symm))];omega
  ·rw[A5 e];have z:=h.cnt q O I;rw[C,WV]at z;have R:((q:Int)∈(E1 g c).take (i+1))↔(q:Int)∈(E1 g c).take i:=by
    rw[Q9 H,u];exact⟨fun h=>h.resolve_right (by omega),.inl⟩
   simp only[R];exact z
 ·intro q O I;rw[v q,A5 (fun e=>by rw[e,I]at s;cases s)];exact h.off q O I
 ·intro q;rw[v q];by_cases e:p=q
  ·subst e;rw[A4 rfl];split
   ·rename_i J;rw[G.mem];exact⟨fun _=>⟨f,s,m,J⟩,fun _=>by simp⟩
   ·rename_i J;exact⟨fun j=>absurd j w,fun j=>absurd j.2.2.2 J⟩
  ·rw[A5 e,<-h.hpm q];split
   ·rw[G.mem,WZ,List.mem_singleton];exact⟨fun j=>j.resolve_right (by omega),.inl⟩
   ·exact Iff.rfl
 ·intro x d;split at d
  ·rw[G.mem,WZ,List.mem_singleton]at d;rcases d with d | rfl
   ·exact h.hpr x d
   ·omega
  ·exact h.hpr x d
 ·split
  ·exact G.nodup (List.nodup_append.2 ⟨h.hpn,by simp,fun x d y U e=>by rw[List.mem_singleton.1 U]at e;exact w (e ▸ d)⟩)
  ·exact h.hpn
 ·split
  ·rw[G.len,WX,List.length_singleton];exact V
  ·exact h.heap
 ·intro x d;have z:=h.outr x d;refine⟨z.1,z.2.1,z.2.2.1,?_⟩;rw[v,A5 (fun e=>m (by rw[show ((p:Nat):Int)=x by omega];exact d))];exact z.2.2.2
theorem OInv.next{g:Graph}{inn:List Bool}{k:Nat}{m f a:List Int}(r:k+1=a.length){c:Nat}(b:a[k]?=some (c:Int))(h:OInv g inn k (E1 g c).length m f a):OInv g inn a.length 0 m f a:=by
 refine { h with cnt:=fun p f s=>?_ };have hkl:k<a.length:=by omega
 have b:a[k]=(c:Int):=by rw[WT hkl]at b;exact Option.some.inj b
 have o:=h.cnt p f s;have i:a.getD k 0=(c:Int):=by rw[XC,WT hkl];exact b
 have d:=h.outr a[k] (WY hkl);rw[b,WV]at d;rw[i,WV,XF]at o;have q:=wD (g:=g) (inn:=inn) (ex:=a.take k) (x:=c) (p:=p) (by rw[<-b];exact U4 h.outn hkl) (by omega) d.2.2.1;have e:a.take (k+1)=a.take k++[(c:Int)]:=by rw[List.take_add_one,WT hkl,Option.toList_some,b]
 rw[<-r,e,List.take_zero,A5 (by simp)];split at o
 ·rename_i j;rw[A4 j]at q;omega
 ·rename_i j;rw[A5 j]at q;omega
structure HInv (g:Graph) (ch hp:List Int) (i:Nat):Prop where
 mem:∀p:Nat,(p:Int)∈hp↔p<i/\I8 ch p=0
 rng:∀x∈hp,0<=x/\x<i
 nodup:hp.Nodup
 heap:mE (R2 g) hp.length hp
theorem HInv.nil(g:Graph)(a:List Int):HInv g a [] 0:=⟨fun p=>by simp,(fun _ h=>by cases h),List.nodup_nil,fun k b=>by simp at b⟩
theorem HInv.le{g:Graph}{b a:List Int}{i:Nat}(h:HInv g b a i):a.length<=i:=X7 h.nodup h.rng
theorem HInv.step{g:Graph}{f k:List Int}{i:Nat}(h:HInv g f k i):HInv g f (if I8 f i=0 then mD (R2 g) k (i:Int) else k) (i+1):=by
 obtain⟨o,d⟩:=BW (gX g) (i:Int) h.heap;split
 ·rename_i j;refine⟨fun p=>?_,fun x c=>?_,d.nodup (List.nodup_append.2 ⟨h.nodup,by simp,fun x c y m e=>by rw[List.mem_singleton.1 m]at e;have:=h.rng x c;omega⟩),by rw[d.len,WX,List.length_singleton];exact o⟩
  ·rw[d.mem,WZ,List.mem_singleton,h.mem];constructor
   ·rintro (⟨a,b⟩ | e)
    ·exact⟨by omega,b⟩
    ·have e:p=i:=by omega
     subst e;exact⟨by omega,j⟩
   ·rintro⟨a,b⟩;by_cases e:p=i
    ·right;omega
    ·exact .inl ⟨by omega,b⟩
  ·rw[d.mem,WZ,List.mem_singleton]at c;rcases c with c | rfl
   ·have:=h.rng x c;omega
   ·omega
 ·rename_i j;refine⟨fun p=>?_,fun x c=>by have:=h.rng x c;omega,h.nodup,h.heap⟩;rw[h.mem];constructor
  ·rintro⟨a,b⟩;exact⟨by omega,b⟩
  ·rintro⟨a,b⟩;refine⟨?_,b⟩;apply Classical.byContradiction;intro q;have:p=i:=by omega
   subst this;exact j b
def FD(g:Graph)(D:List Int)(p:Nat):Nat:=D.countP fun x=>decide ((p:Int)∈E1 g x.toNat)
structure DInv (g:Graph) (inn:List Bool) (st:List Int) (k i:Nat) (ch opn D:List Int):Prop where
 len:ch.length=g.length
 nodup:(D++opn).Nodup
 on:∀x∈D++opn,0<=x/\x<g.length/\L4 inn x.toNat=true
 cnt:∀p:Nat,(p:Int)∈D++opn->I8 ch p=FD g (D.take k) p+(if (p:Int)∈(E1 g (D.getD k 0).toNat).take i then 1 else 0)
 off:∀p,p<g.length->(p:Int)∉D++opn->I8 ch p = -1
 clo:∀x∈D.take k,∀p∈E1 g x.toNat,p∈D++opn
 clo2:∀p∈(E1 g (D.getD k 0).toNat).take i,p∈D++opn
 sts:∀f∈st,f∈D++opn
theorem DInv.start(g:Graph)(a:List Bool):DInv g a [] 0 0 (List.replicate g.length (-1)) [] [] where
 len:=by simp
 nodup:=List.nodup_nil
 on:=fun _ h=>by cases h
 cnt:=fun _ h=>by cases h
 off:=fun p b _=>by unfold I8;rw[List.getElem?_replicate,A4 b];rfl
 clo:=fun _ h=>by cases h
 clo2:=fun _ h=>by simp at h
 sts:=fun _ h=>by cases h
theorem DInv.le{g:Graph}{b:List Bool}{st:List Int}{k i:Nat}{d a D:List Int}(h:DInv g b st k i d a D):D.length+a.length<=g.length:=by
 have:=X7 h.nodup fun x c=>⟨(h.on x c).1,(h.on x c).2.1⟩
 rwa[WX]at this
theorem DInv.mem{g:Graph}{inn:List Bool}{st:List Int}{k i:Nat}{c a D:List Int}(h:DInv g inn st k i c a D){p:Nat}(e:p<g.length):I8 c p<0↔(p:Int)∉D++a:=by
 by_cases b:(p:Int)∈D++a
 ·have:=h.cnt p b;constructor
  ·intro f;split at this<;>omega
  ·exact fun d=>absurd b d
 ·have:=h.off p e b;exact⟨fun _=>b,fun _=>by omega⟩
theorem DInv.reach{g:Graph}{l:List Bool}{st:List Int}{k i:Nat}{m a D:List Int}(h:DInv g l st k i m a D)(_hk:k<=D.length){p:Nat}(s:p<g.length)(u:L4 l p=true)(st':List Int)(o:∀f∈st',f∈st\/f=p) :
  DInv g l st' k i (if I8 m p<0 then m.set p 0 else m) (if I8 m p<0 then a++[(p:Int)] else a) D/\(p:Int)∈D++(if I8 m p<0 then a++[(p:Int)] else a):=by
 split
 ·rename_i t;have j:=(h.mem s).1 t;refine⟨⟨by rw[XX];exact h.len,?_,?_,?_,?_,?_,?_,?_⟩,by simp⟩
  ·rw[<-XH];exact List.nodup_append.2 ⟨h.nodup,by simp,fun x c y v e=>by rw[List.mem_singleton.1 v]at e;exact j (e ▸ c)⟩
  ·intro x c;rw[<-XH]at c;rcases WZ.1 c with c | c
   ·exact h.on x c
   ·rw[List.mem_singleton.1 c,WV];exact⟨by omega,by omega,u⟩
  ·intro q b;rw[bR (by rw[h.len];exact s)];by_cases e:p=q
   ·subst e;rw[A4 rfl,A5 (fun n=>j (h.clo2 _ n))];have:FD g (D.take k) p=0:=by
     unfold FD;rw[List.countP_eq_zero];intro x c n;exact j (h.clo x c _ (A0 n))
    rw[this];rfl
   ·rw[A5 e];rw[<-XH]at b;rcases WZ.1 b with b | b
    ·exact h.cnt q b
    ·exact absurd (List.mem_singleton.1 b) (by omega)
  ·intro q b r;rw[<-XH,WZ,not_or,List.mem_singleton]at r;rw[bR (by rw[h.len];exact s),A5 (by omega)];exact h.off q b r.1
  ·intro x c q b;rw[<-XH];exact List.mem_append_left _ (h.clo x c q b)
  ·intro q b;rw[<-XH];exact List.mem_append_left _ (h.clo2 q b)
  ·intro f d;rw[<-XH];rcases o f d with d | rfl
   ·exact List.mem_append_left _ (h.sts f d)
   ·simp
 ·rename_i t;have n:(p:Int)∈D++a:=by
   apply Classical.byContradiction;intro r;exact t ((h.mem s).2 r)
  refine⟨{ h with sts:=fun f d=>?_ },n⟩;rcases o f d with d | rfl
  ·exact h.sts f d
  ·exact n
theorem DInv.count{g:Graph}{v:List Bool}{st:List Int}{k i:Nat}{f j D:List Int}(h:DInv g v st k i f j D){c p:Nat}(G:related g=true)(m:D.getD k 0=(c:Int))(o:i<(E1 g c).length)(b:(E1 g c)[i]=(p:Int))(w:(p:Int)∈D++j) :
  0<=I8 f p/\I8 f p<=g.length/\DInv g v st k (i+1) (bump f p) j D:=by
 have hpr:=K2 G c;have s:p<g.length:=by have:=hpr.1 p (by rw[<-b];exact WY o);omega
 have B:=h.cnt p w;have y:(p:Int)∉(E1 g c).take i:=by rw[<-b];exact U4 hpr.2 o
 rw[m,WV,A5 y]at B;have F:FD g (D.take k) p<=g.length:=by
  unfold FD;have C:=List.countP_le_length (p:=fun x:Int=>decide ((p:Int)∈E1 g x.toNat)) (l:=D.take k);rw[XG]at C;have:=h.le;omega
 have u:∀q,I8 (bump f p) q=if p=q then I8 f p+1 else I8 f q:=fun q=>by
  unfold bump;rw[WV,bR (by rw[h.len];exact s)]
 refine⟨by omega,by omega,{ h with len:=by unfold bump;rw[XX];exact h.len,cnt:=fun q d=>?_,off:=fun q d A=>?_,clo2:=fun q d=>?_ }⟩
 ·rw[u q,m,WV];by_cases e:p=q
  ·subst e;rw[A4 rfl,A4 ((Q9 o).2 (.inr b.symm))];omega
  ·rw[A5 e];have z:=h.cnt q d;rw[m,WV]at z;have E:((q:Int)∈(E1 g c).take (i+1))↔(q:Int)∈(E1 g c).take i:=by
    rw[Q9 o,b];exact⟨fun h=>h.resolve_right (by omega),.inl⟩
   simp only[E];exact z
 ·rw[u q,A5 (show ¬p=q from fun e=>A (by rw[<-e];exact w))];exact h.off q d A
 ·rw[m,WV]at d;rcases (Q9 o).1 d with d | rfl
  ·exact h.clo2 q (by rw[m,WV];exact d)
  ·rw[b];exact w
theorem DInv.pop{g:Graph}{s:List Bool}{st:List Int}{u d D:List Int}{c:Int}(h:DInv g s st D.length 0 u (d++[c]) D):DInv g s st D.length 0 u d (D++[c]):=by
 have b:∀x,x∈(D++[c])++d↔x∈D++(d++[c]):=fun x=>by
  simp only[WZ,List.mem_singleton];constructor
  ·rintro ((h | h) | h)
   ·exact .inl h
   ·exact .inr (.inr h)
   ·exact .inr (.inl h)
  ·rintro (h | h | h)
   ·exact .inl (.inl h)
   ·exact .inr h
   ·exact .inl (.inr h)
 have v:(D++[c]).take D.length=D:=by rw[v8 (Nat.le_refl _),XF]
 refine⟨h.len,?_,fun x m=>h.on x ((b x).1 m),fun p o=>?_,fun p o A=>h.off p o fun z=>A ((b _).2 z),fun x m p o=>?_,fun p o=>by simp at o,fun f w=>(b f).2 (h.sts f w)⟩
 ·have j:=h.nodup;rw[List.nodup_append,List.nodup_append]at j;rw[XH,List.nodup_append,List.nodup_append];refine⟨j.1,⟨by simp,j.2.1.1,fun x m y q e=>?_⟩,fun x m y q=>?_⟩
  ·exact j.2.1.2.2 y q x m e.symm
  ·refine j.2.2 x m y ?_;rcases WZ.1 q with q | q
   ·exact List.mem_append_right _ q
   ·exact List.mem_append_left _ q
 ·have j:=h.cnt p ((b _).1 o);rw[List.take_zero,A5 (by simp),XF]at j;rw[v,List.take_zero,A5 (by simp)];exact j
 ·rw[v]at m;exact (b p).2 (h.clo x (by rw[XF];exact m) p o)
theorem DInv.next{g:Graph}{inn:List Bool}{st:List Int}{k:Nat}{j d D:List Int}{c:Nat}(o:k+1=D.length)(f:D.getD k 0=(c:Int))(h:DInv g inn st k (E1 g c).length j d D):DInv g inn st D.length 0 j d D:=by
 have hkl:k<D.length:=by omega
 have i:D[k]?=some (c:Int):=by
  rw[XC,WT hkl]at f;rw[WT hkl];exact congrArg some f
 have e:D.take D.length=D.take k++[(c:Int)]:=by rw[<-o,List.take_add_one,i,Option.toList_some]
 refine { h with cnt:=fun p a=>?_,clo:=fun x b p a=>?_,clo2:=fun p a=>by simp at a }
 ·have m:=h.cnt p a;rw[f,WV,XF]at m;rw[List.take_zero,A5 (show ¬(p:Int)∈([]:List Int) by simp),m,e];unfold FD;rw[List.countP_append,List.countP_singleton,WV];by_cases q:(p:Int)∈E1 g c<;>simp[q]
 ·rw[e]at b;rcases WZ.1 b with b | b
  ·exact h.clo x b p a
  ·rw[List.mem_singleton.1 b,WV]at a;exact h.clo2 p (by rw[f,WV,XF];exact a)
theorem BY{q:Int->Bool}{l m:List Int}(b:l.Nodup)(d:m.Nodup)(h:∀x,x∈l↔x∈m):l.countP q=m.countP q:=by
 rw[List.countP_eq_length_filter,List.countP_eq_length_filter];have a:∀{l m:List Int},l.Nodup->(∀x,x∈l↔x∈m)->(l.filter q).length<=(m.filter q).length:=fun b h =>
  gV (b.filter _) fun x c=>by
   rw[List.mem_filter]at c ⊢;exact⟨(h x).1 c.1,c.2⟩
 have f:=a b h;have i:=a d fun x=>(h x).symm;omega
theorem DInv.fin{g:Graph}{s z D:List Int}(I:related g=true)(J:∀f∈s,0<=f/\f<g.length)(h:DInv g (J3 g s) s D.length 0 z [] D) :
  ∀p,p<g.length->I8 z p=if L4 (J3 g s) p=true then (nR g (J3 g s) [] p:Int) else -1:=by
 have b:∀p:Nat,L4 (J3 g s) p=true↔(p:Int)∈D:=by
  intro p;constructor
  ·intro j;obtain⟨f,F,d⟩:=(dD I J p).1 j;clear j;have A:(f:Int)∈D:=by simpa using h.sts f F
   have v:∀x:Nat,(x:Int)∈D->∀q:Nat,(q:Int)∈E1 g x->(q:Int)∈D:=fun x k q H=>by
    have:=h.clo x (by rw[XF];exact k) q (by rw[WV];exact H);simpa using this
   rcases d with rfl | d
   ·exact A
   ·induction d with
    | one h=>exact v _ A _ h
    | more _ d K=>exact v _ K _ d
  ·intro w;have:=(h.on p (by simpa using w)).2.2
   rwa[WV]at this
 intro p G;split
 ·rename_i j;have B:=h.cnt p (by simpa using (b p).1 j);rw[XF,List.take_zero,A5 (by simp)]at B;rw[B,Int.add_zero]
  congr 1
  have C:D.Nodup:=by have:=h.nodup;rwa[YB]at this
  have d:∀x∈D,0<=x/\x<g.length:=fun x k=>by
   have:=h.on x (by simpa using k);exact⟨this.1,this.2.1⟩
  unfold FD nR;have e:(List.range g.length).countP (fun c=>L4 (J3 g s) c&&decide ((c:Int)∉([]:List Int)/\(p:Int)∈E1 g c))=(((List.range g.length).filter fun c=>L4 (J3 g s) c).map fun c:Nat=>(c:Int)).countP fun x=>decide ((p:Int)∈E1 g x.toNat):=by
   rw[List.countP_map,List.countP_filter];refine List.countP_congr fun c _=>?_;simp only[List.not_mem_nil,not_false_eq_true,true_and,Function.comp_def,WV,WU,decide_eq_true_eq];exact And.comm
  rw[e];refine BY C ((List.nodup_range.filter _).map (fun i:Nat=>(i:Int)) fun _ _ y e=>y (Int.ofNat.inj e)) fun x=>?_;rw[XU];constructor
  ·intro k;have:=d x k;refine⟨x.toNat,List.mem_filter.2 ⟨XE.2 (by omega),(b _).2 (by rw[Int.toNat_of_nonneg this.1];exact k)⟩,by omega⟩
  ·rintro⟨c,E,rfl⟩;exact (b c).1 (List.mem_filter.1 E).2
 ·rename_i j;exact h.off p G fun w=>j ((b p).2 (by simpa using w))
theorem OInv.start{g:Graph}{c:List Bool}{f d:List Int}(j:f.length=g.length)(_hin:c.length=g.length)(i:∀p,p<g.length->I8 f p=if L4 c p=true then (nR g c [] p:Int) else -1)(h:HInv g f d g.length):OInv g c 0 0 f d [] where
 len:=j
 cnt:=fun p d e=>by rw[i p d,A4 e,List.take_zero,List.take_zero];simp
 off:=fun p d e=>by rw[i p d,e];rfl
 hpm:=fun p=>by
  rw[h.mem];constructor
  ·rintro⟨a,b⟩;refine⟨a,?_,by simp,b⟩;cases e:L4 c p
   ·rw[i p a,e]at b;simp at b
   ·rfl
  ·rintro⟨a,_,_,b⟩;exact⟨a,b⟩
 hpr:=h.rng
 hpn:=h.nodup
 heap:=h.heap
 outn:=List.nodup_nil
 outr:=fun _ h=>by cases h
def E0(g:Graph)(c:Nat):List File:=(g[c]?.map (·.Files)).getD []
def gY(g:Graph)(c:Nat):List (List File):=if E1 g c=[] then [[]] else (E1 g c).map fun p=>E0 g p.toNat
def Q7(l:List File)(p:Str):Str:=(F5 l p).getD []
def T6(g:Graph)(c:Int):Prop:=0<=c/\c<g.length
instance (g:Graph) (c:Int):Decidable (T6 g c):=inferInstanceAs (Decidable (_/\_))
def cM(g:Graph)(s:Int):List Int×Int:=if N1 g≠0 then ([],N1 g) else if T6 g s then (J9 g [s],0) else ([],5)
def r8(g:Graph)(c:Int):Int:=if N1 g≠0 then N1 g else if T6 g c then 0 else 5
section
structure Set4 where
 a:Int
 b:Int
 c:Int
 d:Int
 deriving DecidableEq
def UU(x y:Int):Int:=((x.toNat ||| y.toNat:Nat):Int)
def set0:Set4:=⟨0,0,0,0⟩
def Set4.with_(s:Set4)(c:Nat):Set4:=match c / 64 with
 | 0=>{ s with a:=UU s.a (2 ^ (c % 64)) }
 | 1=>{ s with b:=UU s.b (2 ^ (c % 64)) }
 | 2=>{ s with c:=UU s.c (2 ^ (c % 64)) }
 | _=>{ s with d:=UU s.d (2 ^ (c % 64)) }
def wE:Nat->Nat->Set4->Set4
 | 0,_,s=>s
 | n+1,c,s=>wE n (c+1) (s.with_ c)
def Set4.through(s:Set4)(a b:Nat):Set4:=wE (b+1-a) a s
def Set4.compl(s:Set4):Set4:=⟨18446744073709551615-s.a,18446744073709551615-s.b,18446744073709551615-s.c,18446744073709551615-s.d⟩
def RN(s:Set4)(name:Str):Option Set4 :=
 if name=[97,108,112,104,97] then some ((s.through 97 122).through 65 90)
 else if name=[100,105,103,105,116] then some (s.through 48 57)
 else if name=[97,108,110,117,109] then some (((s.through 97 122).through 65 90).through 48 57)
 else if name=[117,112,112,101,114] then some (s.through 65 90)
 else if name=[108,111,119,101,114] then some (s.through 97 122)
 else if name=[115,112,97,99,101] then some ((s.through 9 13).with_ 32)
 else if name=[112,117,110,99,116] then some ((((s.through 33 47).through 58 64).through 91 96).through 123 126)
 else none
structure Node where
 Kind:Int
 Set:Set4
 Min:Int
 Max:Int
 Kids:List Int
 deriving DecidableEq
def wF:Node:=⟨0,set0,0,0,[]⟩
structure PSt where
 at_:Nat
 depth:Nat
 nodes:List Node
abbrev Ps(α:Type):=Except Int (PSt×α)
section
variable (s:Str)
def sV(c:UInt8)(st:PSt):Bool:=decide (s[st.at_]?=some c)
def PSt.skip(st:PSt)(n:Nat):PSt:={ st with at_:=st.at_+n }
def UD(c:UInt8)(st:PSt):PSt:=if sV s c st=true then st.skip 1 else st
def UE(st:PSt):Ps UInt8:=match s[st.at_]? with
 | none=>.error 40
 | some c=>.ok (st.skip 1,c)
def NP(n:Node)(st:PSt):PSt×Int:=({ st with nodes:=st.nodes++[n] },st.nodes.length)
def FE(a:Int)(kids:List Int)(st:PSt):PSt×Int:=match kids with
 | []=>NP wF st
 | [k]=>(st,k)
 | _=>NP { wF with Kind:=a,Kids:=kids } st
def RO(t:Set4)(st:PSt):PSt×Int:=NP { wF with Kind:=1,Set:=t } st
def PM(a b:UInt8)(l:Str):Bool:=decide (l[0]?=some a/\l[1]?=some b)
def QK(t:Set4)(st:PSt):Ps Set4 :=
 let rest:=s.drop st.at_
 if PM 91 58 rest=true then
  let r:=rest.drop 2
  if Lib.index r [58,93]<0 then .error 40
  else match RN t (r.take (Lib.index r [58,93]).toNat) with
   | none=>.error 40
   | some b=>.ok (st.skip (4+(Lib.index r [58,93]).toNat),b)
 else match s[st.at_]? with
  | none=>.error 40
  | some c =>
   let r:=s.drop (st.at_+1)
   if r.length<2\/r[0]?≠some 45\/r[1]?=some 93 then .ok (st.skip 1,t.with_ c.toNat)
   else if (r.getD 1 0).toNat<c.toNat then .error 40
   else .ok (st.skip 3,t.through c.toNat (r.getD 1 0).toNat)
def NQ:Nat->Set4->PSt->Ps Set4
 | 0,_,_=>.error 0
 | f+1,t,st=>if sV s 93 st=true then .ok (st.skip 1,t) else match QK s t st with
  | .error e=>.error e
  | .ok (st',t')=>NQ f t' st'
def RP(f:Nat)(st:PSt):Ps Int :=
 let a:=st.skip 1;let b:=UD s 94 a
 match QK s set0 b with
 | .error e=>.error e
 | .ok (st3,t)=>match NQ s f t st3 with
  | .error e=>.error e
  | .ok (st4,t')=>.ok (RO (if sV s 94 a=true then t'.compl else t') st4)
def HL(a:Int)(st:PSt):Ps Int :=
 let r:=NP { wF with Kind:=a } (st.skip 1)
 match s[r.1.at_]? with
 | some c=>if c∈([42,43,63,123]:Str) then .error 40 else .ok r
 | none=>.ok r
def UF(a:Str->Nat->Option (Int×Nat))(st:PSt):Ps Int:=match a s st.at_ with
 | none=>.error 40
 | some (n,e)=>if n>100 then .error 40 else .ok ({ st with at_:=e },n)
def PN(d:Str->Nat->Option (Int×Nat))(st:PSt):Ps (Int×Int):=match UF s d st with
 | .error e=>.error e
 | .ok (st1,least) =>
  let fin:=fun (st:PSt) (a:Int)=>(if sV s 125 st=false\/(0<=a/\a<least) then .error 40 else .ok (st.skip 1,(least,a)):Ps (Int×Int))
  if sV s 44 st1=true then
   let b:=st1.skip 1
   match s[b.at_]? with
   | none=>fin b (-1)
   | some c=>if c=125 then fin b (-1) else match UF s d b with
    | .error e=>.error e
    | .ok (st3,a)=>fin st3 a
  else fin st1 least
def RQ(a:Str->Nat->Option (Int×Nat))(st:PSt):Ps (Option (Int×Int)) :=
 if sV s 42 st=true then .ok (st.skip 1,some (0,-1))
 else if sV s 43 st=true then .ok (st.skip 1,some (1,-1))
 else if sV s 63 st=true then .ok (st.skip 1,some (0,1))
 else if sV s 123 st=true then match PN s a (st.skip 1) with
  | .error e=>.error e
  | .ok (st',b)=>.ok (st',some b)
 else .ok (st,none)
def HM(st:PSt):Ps Int:=match UE s st with
 | .error e=>.error e
 | .ok (st',c)=>.ok (RO (set0.with_ c.toNat) st')
def PO(st:PSt):Ps Int:=HM s (st.skip 1)
def VI(st:PSt):PSt×Int:=RO set0.compl (st.skip 1)
def mF(a:Str->Nat->Option (Int×Nat))(r:Ps Int):Ps Int:=match r with
 | .error e=>.error e
 | .ok (st,atom)=>match RQ s a st with
  | .error e=>.error e
  | .ok (st',none)=>.ok (st',atom)
  | .ok (st',some (least,most))=>.ok (NP { wF with Kind:=6,Min:=least,Max:=most,Kids:=[atom] } st')
mutual
def VJ(a:Str->Nat->Option (Int×Nat)):Nat->PSt->Ps Int
 | 0,_=>.error 0
 | f+1,st=>match RR a f st [] with
  | .error e=>.error e
  | .ok (st',k)=>HN a f st' [k]
def HN(a:Str->Nat->Option (Int×Nat)):Nat->PSt->List Int->Ps Int
 | 0,_,_=>.error 0
 | f+1,st,kids=>if sV s 124 st=true then match RR a f (st.skip 1) [] with
   | .error e=>.error e
   | .ok (st',k)=>HN a f st' (kids++[k])
  else .ok (FE 5 kids st)
def RR(a:Str->Nat->Option (Int×Nat)):Nat->PSt->List Int->Ps Int
 | 0,_,_=>.error 0
 | f+1,st,kids=>match s[st.at_]? with
  | none=>.ok (FE 4 kids st)
  | some c=>if c=124\/c=41 then .ok (FE 4 kids st) else match RS a f st c with
   | .error e=>.error e
   | .ok (st',k)=>RR a f st' (kids++[k])
def RS(a:Str->Nat->Option (Int×Nat)):Nat->PSt->UInt8->Ps Int
 | 0,_,_=>.error 0
 | f+1,st,c =>
  if c=94 then HL s 2 st
  else if c=36 then HL s 3 st
  else if c=40 then mF s a (RT a f st)
  else if c=91 then mF s a (RP s (s.length+2) st)
  else if c=46 then mF s a (.ok (VI st))
  else if c=92 then mF s a (PO s st)
  else if c∈([42,43,63,123]:Str) then .error 40
  else mF s a (HM s st)
def RT(a:Str->Nat->Option (Int×Nat)):Nat->PSt->Ps Int
 | 0,_=>.error 0
 | f+1,st=>if st.depth=50 then .error 1 else match VJ a f { st with at_:=st.at_+1,depth:=st.depth+1 } with
  | .error e=>.error e
  | .ok (st',n)=>if sV s 41 st'=true then .ok ({ st' with at_:=st'.at_+1,depth:=st'.depth-1 },n) else .error 40
end
end
structure State where
 Kind:Int
 Set:Set4
 Next:Int
 Other:Int
 deriving DecidableEq
structure Auto where
 States:List State
 Start:Int
 deriving DecidableEq
def eJ:State:=⟨0,set0,0,0⟩
abbrev Bld:=List State×Int
def RU(q:State)(st:List State):Bld:=(st++[q],st.length)
section
variable (ns:List Node) (w:List Int)
mutual
def nS:Nat->Int->Int->List State->Option Bld
 | 0,_,_,_=>none
 | f + 1,i,next,st =>
  if I8 w i.toNat=0 then some (st,next)
  else
   let n:=ns.getD i.toNat wF
   if n.Kind=1 then some (RU { eJ with Kind:=0,Set:=n.Set,Next:=next } st)
   else if n.Kind=2 then some (RU { eJ with Kind:=2,Next:=next } st)
   else if n.Kind=3 then some (RU { eJ with Kind:=3,Next:=next } st)
   else if n.Kind=4 then UG f n.Kids.reverse next st
   else if n.Kind=5 then match n.Kids.reverse with
    | []=>none
    | k::r=>match nS f k next st with
     | none=>none
     | some (st',start)=>UH f r next start st'
   else if n.Kind=6 then
    let c:=n.Kids.getD 0 0
    if n.Max<0 then
     let b:Int:=st.length
     match nS f c b (st++[{ eJ with Kind:=1,Other:=next }]) with
     | none=>none
     | some (st',start)=>RV f c n.Min.toNat b (st'.set b.toNat { (st'.getD b.toNat eJ) with Next:=start })
    else match UI f c (n.Max-n.Min).toNat next next st with
     | none=>none
     | some (st',next')=>RV f c n.Min.toNat next' st'
   else some (st,next)
def UG:Nat->List Int->Int->List State->Option Bld
 | 0,_,_,_=>none
 | _+1,[],next,st=>some (st,next)
 | f+1,k::r,next,st=>match nS f k next st with
  | none=>none
  | some (st',next')=>UG f r next' st'
def UH:Nat->List Int->Int->Int->List State->Option Bld
 | 0,_,_,_,_=>none
 | _+1,[],_,start,st=>some (st,start)
 | f+1,k::r,next,start,st=>match nS f k next st with
  | none=>none
  | some (st',b)=>UH f r next st'.length (st'++[{ eJ with Kind:=1,Next:=b,Other:=start }])
def UI:Nat->Int->Nat->Int->Int->List State->Option Bld
 | 0,_,_,_,_,_=>none
 | _+1,_,0,_,next,st=>some (st,next)
 | f+1,kid,m+1,last,next,st=>match nS f kid next st with
  | none=>none
  | some (st',b)=>UI f kid m last st'.length (st'++[{ eJ with Kind:=1,Next:=b,Other:=last }])
def RV:Nat->Int->Nat->Int->List State->Option Bld
 | 0,_,_,_,_=>none
 | _+1,_,0,next,st=>some (st,next)
 | f+1,kid,m+1,next,st=>match nS f kid next st with
  | none=>none
  | some (st',next')=>RV f kid m next' st'
end
end
end
def HO(q:State)(start fin:Bool):List Int :=
 if q.Kind=1 then [q.Next,q.Other] else if q.Kind=2 then (if start=true then [q.Next] else []) else if q.Kind=3 then (if fin=true then [q.Next] else []) else []
def wG(n:Int)(q:State):Bool :=
 if q.Kind=0\/q.Kind=2\/q.Kind=3 then decide (0<=q.Next/\q.Next<n)
 else if q.Kind=1 then decide (0<=q.Next/\q.Next<n/\0<=q.Other/\q.Other<n)
 else decide (q.Kind=4)
def NR(a:Auto):Int:=if a.States.length<1\/a.States.length>8000\/a.Start<0\/a.Start>=a.States.length then 2 else if a.States.all (wG a.States.length)=true then 0 else 2
structure Thread where
 state:Int
 from_:Int
 deriving DecidableEq
abbrev Mach:=List Thread×List Bool
section
variable (a:Auto) (s:Str)
def mG(i:Int):State:=a.States.getD i.toNat eJ
def NS(q:Set4)(c:Nat):Int:=match c / 64 with
 | 0=>q.a.fdiv (2 ^ (c % 64)) % 2
 | 1=>q.b.fdiv (2 ^ (c % 64)) % 2
 | 2=>q.c.fdiv (2 ^ (c % 64)) % 2
 | _=>q.d.fdiv (2 ^ (c % 64)) % 2
def BZ(fr:Int):List Thread->List Thread
 | []=>[]
 | t::r=>if t.from_>fr then [] else t::BZ fr r
end
def gB(s:Str):Str:=Lib.trimSuffix s [10]
def sW(s:Str):List Str×Int:=if 65536<s.length then ([],1) else if (Q6 s).2≠0\/100<(Q6 s).1.length then ([],1) else ((Q6 s).1.map gB,0)
def bS(P:List Str)(i:Nat):List Str:=(P.take i).map gB++P.drop i
theorem KD(P:List Str)(i:Nat):(bS P i).length=P.length:=by
 unfold bS;rw[WX,XW,<-WX,YH]
theorem KE{P:List Str}{i:Nat}(h:i<P.length):(bS P i)[i]?=some P[i]:=by
 unfold bS;rw[XJ (by rw[XW,XG];omega),XW,XG,Nat.min_eq_left (by omega),YK,XY,Nat.add_zero];exact WT h
theorem KF{P:List Str}{i:Nat}(h:i<P.length):(bS P i).set i (gB P[i])=bS P (i+1):=by
 unfold bS;rw[List.set_append_right _ _ (by rw[XW,XG];omega),XW,XG,Nat.min_eq_left (by omega),YK,XA h,List.set_cons_zero,List.take_add_one,WT h,Option.toList_some,YC,XH];rfl
theorem KG(P:List Str):bS P P.length=P.map gB:=by
 unfold bS;rw[XF,List.drop_length,YB]
theorem FF(P:List Str):bS P 0=P:=by simp[bS]
abbrev names4:List Str:=[[97],[98,47,120],[98,47,121],[99,32,100]]
theorem names4_asc:names4.Pairwise (fun x y=>pK x y=true):=by decide
theorem CA:∀p∈names4,j8 p=0/\p.length<=3:=by decide
theorem yT:∀p∈names4,∀q∈names4,above p q=false:=by decide
def NoDig(b:Str):Prop:=∀c∈b,c.toNat<48\/57<c.toNat
theorem NoDig.app{a b:Str}(ha:NoDig a)(hb:NoDig b):NoDig (a++b):=fun c d=>(WZ.1 d).elim (ha c) (hb c)
theorem NoDig.sub{a b:Str}(h:NoDig b)(e:∀c∈a,c∈b):NoDig a:=fun c d=>h c (e c d)
structure GN (L:Nat) (l:List File):Prop where
 sub:(l.map (·.Path)).Sublist names4
 cnt:∀f∈l,f.Blob.count 10<=L
 dig:∀f∈l,NoDig f.Blob
theorem GN.name{L:Nat}{l:List File}(h:GN L l):∀f∈l,f.Path∈names4:=fun _ a=>h.sub.subset (List.mem_map_of_mem a)
theorem GN.mono{L L':Nat}{l:List File}(h:GN L l)(a:L<=L'):GN L' l:=⟨h.sub,fun f b=>Nat.le_trans (h.cnt f b) a,h.dig⟩
theorem wH:∀{l:List File},VE (l.map (·.Path))->ascend l=true
 | [],_=>rfl
 | [_],_=>rfl
 | f::g::r,h=>by
  rw[XK]at h;have b:=List.pairwise_cons.1 h;unfold ascend;rw[b.1 g.Path (by simp),wH b.2];rfl
theorem GN.asc{L:Nat}{l:List File}(h:GN L l):ascend l=true:=wH (names4_asc.sublist h.sub)
theorem GN.tree{L:Nat}{l:List File}(h:GN L l)(o:L+1<=4096)(i:∀f∈l,f.Blob.length<=1048576):K1 l=0:=by
 have d:l.length<=4:=by have:=h.sub.length_le;simpa using this
 unfold K1
 rw[A5 (by omega),A5 (fun a=>by
  obtain⟨f,b,c⟩:=List.any_eq_true.1 a
  exact A0 c (CA _ (h.name f b)).1),A5 (fun a=>by
  rw[jU h.asc fun x j y k=>yT _ (h.name x j) _ (h.name y k)]at a;cases a),A5 (fun a=>by
  obtain⟨f,b,c⟩:=List.any_eq_true.1 a;refine A0 c ?_;unfold Y7;have m:=h.cnt f b;have n:=i f b;have e:=cJ f.Blob;rw[A5];rintro (g | g)
  ·omega
  ·split at e<;>omega)]
theorem CB{n:Int}:∀{ps a:List Int},(∀p∈ps,0<=p/\p<n/\p∉a)->ps.Nodup->fW n a ps=true
 | [],_,_,_=>rfl
 | p::r,a,h,hn=>by
  have e:=List.nodup_cons.1 hn;unfold fW;rw[A2 (h p (by simp)),Bool.true_and];refine CB (fun q d=>?_) e.2;have c:=h q (by simp[d]);refine⟨c.1,c.2.1,fun b=>?_⟩;rcases WZ.1 b with b | b
  ·exact c.2.2 b
  ·rw[List.mem_singleton.1 b]at d;exact e.1 d
def OneWay(g:Graph):Prop:=(∀c p:Nat,(p:Int)∈E1 g c->p<c)\/(∀c p:Nat,(p:Int)∈E1 g c->c<p)
theorem OneWay.acyc{g:Graph}(h:OneWay g)(c:Nat):¬Reaches g c c:=by
 rcases h with h | h
 ·have f:∀{a b:Nat},Reaches g a b->b<a:=fun {a b} e=>by
   induction e with
   | one d=>exact h _ _ d
   | more _ d i=>have:=h _ _ d;omega
  exact fun e=>Nat.lt_irrefl _ (f e)
 ·have f:∀{a b:Nat},Reaches g a b->a<b:=fun {a b} e=>by
   induction e with
   | one d=>exact h _ _ d
   | more _ d i=>have:=h _ _ d;omega
  exact fun e=>Nat.lt_irrefl _ (f e)
theorem oY:∀{g:List Commit},(∀c∈g,K1 c.Files=0)->X9 g=0
 | [],_=>rfl
 | c::r,h=>by
  unfold X9;rw[A5 (fun a=>a (h c (by simp)))];exact oY fun d b=>h d (by simp[b])
structure GV (g:Graph):Prop where
 len:g.length<=16
 pars:∀c∈g,c.Parents.length<=3/\(∀p∈c.Parents,0<=p/\p<(g.length:Int))/\c.Parents.Nodup/\0<=c.Date/\c.Date<=5
 way:OneWay g
 files:∀c∈g,GN 2111 c.Files/\∀f∈c.Files,f.Blob.length<=1048576
theorem GV.check{g:Graph}(h:GV g):N1 g=0:=by
 have l:related g=true:=by
  unfold related;rw[List.all_eq_true];exact fun c a=>CB (fun p k=>⟨((h.pars c a).2.1 p k).1,((h.pars c a).2.1 p k).2,by simp⟩) (h.pars c a).2.2.1
 have j:¬cyclic g=true:=fun d=>by
  obtain⟨c,a⟩:=(eH l).1 d;exact h.way.acyc c a
 have m:=h.len;have b:o3 g=true:=by
  unfold o3;rw[A2 (by omega),Bool.true_and];cases ha:g.any fun c=>decide (c.Parents.length>32)
  ·rfl
  obtain⟨c,a,f⟩:=List.any_eq_true.1 ha;have:=A0 f;have:=(h.pars c a).1;omega
 have i:¬mC g=true:=fun d=>by
  obtain⟨c,a,f⟩:=List.any_eq_true.1 d;have:=A0 f;have:=(h.pars c a).2.2.2;omega
 unfold N1;rw[b,l,A5 (by simp),A5 (by simp),A5 j,A5 i];exact oY fun c a=>(h.files c a).1.tree (by omega) (h.files c a).2
structure Backs (want x:Str) (l:List Patch) (f:Nat->Str):Prop where
 z:f 0=want
 e:f l.length=x
 st:∀k (h:k<l.length),OB l[k].Hunks<=134217728/\(f (k+1)).length<=1048576/\GZ l[k] (f (k+1))=(f k,0)
theorem Backs.snoc{a x y:Str}{l:List Patch}{f:Nat->Str}(h:Backs a x l f){p:Patch}(j:OB p.Hunks<=134217728)(i:y.length<=1048576)(ha:GZ p y=(x,0)) :
  Backs a y (l++[p]) (fun k=>if k<=l.length then f k else y):=by
 refine⟨?_,?_,?_⟩
 ·rw[A4 (Nat.zero_le _)];exact h.z
 ·rw[A5 (by simp)]
 ·intro k d;have g:k<l.length+1:=by simpa using d
  by_cases b:k<l.length
  ·rw[A4 (by omega),A4 (by omega),YN b];exact h.st k b
  ·have c:k=l.length:=by omega
   subst c;rw[A5 (by omega),A4 (Nat.le_refl _),YM (Nat.le_refl _),h.e];simp only[YK,List.getElem_cons_zero];exact⟨j,i,ha⟩
theorem nT:∀(b a:Str),(I0 a b).length<=b.count 10+1
 | [],a=>by unfold I0;split<;>simp
 | c::r,a=>by
  unfold I0;rw[List.count_cons];split
  ·rename_i h;have:=nT r [];simp only[WW];have d:(c == 10)=true:=by simpa using h
   rw[A4 d];omega
  ·have:=nT r (a++[c]);omega
theorem FG(b:Str):(D4 b).length<=b.count 10+1:=nT b []
def InWay(g:Graph)(c n:Nat):Prop:=((∀c p:Nat,(p:Int)∈E1 g c->p<c)/\c+n<g.length)\/((∀c p:Nat,(p:Int)∈E1 g c->c<p)/\n<=c)
theorem InWay.step{g:Graph}{c n p:Nat}(h:InWay g c n)(b:(p:Int)∈E1 g c):InWay g p (n+1):=by
 rcases h with ⟨a,d⟩ | ⟨a,d⟩
 ·have:=a c p b;exact .inl ⟨a,by omega⟩
 ·have:=a c p b;exact .inr ⟨a,by omega⟩
theorem InWay.lt{g:Graph}{c n:Nat}(h:InWay g c n)(b:c<g.length):n<g.length:=by
 rcases h with ⟨_,a⟩ | ⟨_,a⟩<;>omega
structure GB (g:Graph):Prop where
 len:g.length<=16
 pars:∀c∈g,c.Parents.length<=3/\∀p∈c.Parents,0<=p/\p<(g.length:Int)
 way:OneWay g
 few:∀c∈g,∀f∈c.Files,Few f.Blob
theorem GV.gb{g:Graph}(h:GV g):GB g:=⟨h.len,fun c a=>⟨(h.pars c a).1,(h.pars c a).2.1⟩,h.way,fun c a f b=>by
 obtain⟨d,e⟩:=h.files c a;have i:=d.cnt f b;have j:=FG f.Blob
 exact⟨e f b,by omega⟩⟩
theorem d5{g:Graph}(h:GB g){c:Nat}{path b:Str}(e:F5 (E0 g c) path=some b):Few b:=by
 obtain⟨f,a,_,rfl⟩:=rY e;unfold E0 at a;by_cases d:c<g.length
 ·rw[WT d]at a;exact h.few _ (WY d) f a
 ·rw[XP (by omega)]at a;cases a
theorem InWay.initB{g:Graph}(h:GB g){c:Nat}(b:c<g.length):InWay g c 0:=by
 rcases h.way with a | a
 ·exact .inl ⟨a,by omega⟩
 ·exact .inr ⟨a,by omega⟩
def r9:List Span->List Int->List Int
 | [],o=>o
 | p::r,o=>r9 r (o.set p.To.toNat p.From)
theorem kF:∀(a:List Span) (o:List Int),(r9 a o).length=o.length
 | [],_=>rfl
 | p::r,o=>by rw[r9,kF r,XX]
theorem sX:∀(b:List Span) (o:List Int) {j:Nat} {i:Int},(r9 b o)[j]?=some i->o[j]?=some i\/∃p∈b,p.From=i/\p.To.toNat=j
 | [],_,_,_,h=>.inl h
 | p::r,o,j,i,h=>by
  rw[r9]at h;rcases sX r _ h with a | ⟨q,hq,a⟩
  ·rw[YQ]at a;split at a
   ·rename_i e;split at a
    ·cases a;exact .inr ⟨p,by simp,rfl,e⟩
    ·cases a
   ·exact .inl a
  ·exact .inr ⟨q,by simp[hq],a⟩
def Z4(x y:List Str):List Int:=r9 (R1 (P1 x y) x.length) (List.replicate y.length (-1))
theorem mH(x y:List Str):(Z4 x y).length=y.length:=by unfold Z4;rw[kF,XT]
theorem yU{x y:List Str}(f:x.length<=4096)(g:y.length<=4096){j:Nat}{i:Int}(h:(Z4 x y)[j]?=some i):i = -1\/0<=i/\∃v,x[i.toNat]?=some v/\y[j]?=some v:=by
 rcases sX _ _ h with b | ⟨p,hp,rfl,rfl⟩
 ·obtain⟨_,c⟩:=List.getElem?_eq_some_iff.1 b;rw[List.getElem_replicate]at c;exact .inl c.symm
 ·obtain⟨b,c,v,d,e⟩:=(jW x y f g).pairs p hp;exact .inr ⟨b,v,d,e⟩
theorem CC{x y:List Str}(c:x.length<=4096)(d:y.length<=4096){v:Int}(h:v∈Z4 x y):-1<=v/\v<4096:=by
 obtain⟨j,b⟩:=List.mem_iff_getElem?.1 h;rcases yU c d b with a | ⟨a,w,h2,_⟩
 ·omega
 ·obtain⟨e,_⟩:=List.getElem?_eq_some_iff.1 h2;omega
def a8(g:Graph)(path:Str)(now:Str):List Int->List (Int×List Int)
 | []=>[]
 | p::r=>match F5 (E0 g p.toNat) path with
  | some old=>(p,Z4 (D4 old) (D4 now))::a8 g path now r
  | none=>a8 g path now r
def x5(g:Graph)(path:Str)(c:Nat):List (Int×List Int):=a8 g path (Q7 (E0 g c) path) (E1 g c)
theorem mI{g:Graph}{a b:Str}:∀{l:List Int} {s:Int×List Int},s∈a8 g a b l->s.1∈l/\∃old,F5 (E0 g s.1.toNat) a=some old/\s.2=Z4 (D4 old) (D4 b)
 | [],_,h=>by cases h
 | p::r,s,h=>by
  rw[a8]at h;cases e:F5 (E0 g p.toNat) a with
  | none =>
   rw[e]at h;obtain⟨c,d⟩:=mI (l:=r) h;exact⟨by simp[c],d⟩
  | some old =>
   rw[e]at h;rcases XB.1 h with rfl | h
   ·exact⟨by simp,old,e,rfl⟩
   ·obtain⟨c,d⟩:=mI (l:=r) h;exact⟨by simp[c],d⟩
def x6:List (Int×List Int)->Nat->Option (Int×Int)
 | [],_=>none
 | s::r,i=>match s.2[i]? with
  | some v=>if 0<=v then some (s.1,v) else x6 r i
  | none=>none
theorem sY:∀{l:List (Int×List Int)} {i:Nat} {b:Int×Int},x6 l i=some b->∃s∈l,s.1=b.1/\s.2[i]?=some b.2/\0<=b.2
 | [],_,_,h=>by cases h
 | s::r,i,b,h=>by
  rw[x6]at h;cases a:s.2[i]? with
  | none=>rw[a]at h;cases h
  | some v =>
   rw[a]at h;dsimp only at h;split at h
   ·cases h;exact⟨s,by simp,rfl,a,by assumption⟩
   ·obtain⟨t,d,c⟩:=sY h;exact⟨t,by simp[d],c⟩
def f0(g:Graph)(path:Str)(a:Int×Int):Option (Int×Int):=x6 (x5 g path a.1.toNat) a.2.toNat
def U5(g:Graph)(c:Str):Nat->Int×Int->Int×Int
 | 0,a=>a
 | n+1,a=>match f0 g c a with
  | none=>a
  | some b=>U5 g c n b
def w8(g:Graph)(b:Str)(a:Int×Int):Int×Int:=U5 g b g.length a
structure LineAt (g:Graph) (path v:Str) (a:Int×Int):Prop where
 c:0<=a.1/\a.1<(g.length:Int)
 i:0<=a.2
 b:∃b,F5 (E0 g a.1.toNat) path=some b/\(D4 b)[a.2.toNat]?=some v
theorem LineAt.step{g:Graph}(i:GB g){d v:Str}{a b:Int×Int}(h:LineAt g d v a)(x:f0 g d a=some b):LineAt g d v b/\b.1∈E1 g a.1.toNat:=by
 obtain⟨s,t,o,k,p⟩:=sY x;obtain⟨e,old,f,q⟩:=mI t;obtain⟨j,l,r⟩:=h.b;rw[o]at e f;rw[q,show Q7 (E0 g a.1.toNat) d=j by unfold Q7;rw[l];rfl]at k;have n:a.1.toNat<g.length:=by have:=h.c;omega
 have u:=(i.pars _ (WY n)).2 b.1 (by rw[<-X8 n];exact e);refine⟨⟨u,p,old,f,?_⟩,e⟩;rcases yU (d5 i f).2 (d5 i l).2 k with m | ⟨_,w,m,h10⟩
 ·omega
 ·rw[r]at h10;cases h10;exact m
theorem LineAt.origin{g:Graph}(d:GB g){c v:Str}:∀(n:Nat) {a:Int×Int},LineAt g c v a->LineAt g c v (U5 g c n a)
 | 0,_,h=>h
 | n+1,a,h=>by
  rw[U5];cases e:f0 g c a with
  | none=>exact h
  | some b=>exact LineAt.origin d n (h.step d e).1
theorem gC{g:Graph}{b:Str}{a:Int×Int}(h:f0 g b a=none)(n:Nat):U5 g b n a=a:=by
 cases n with
 | zero=>rfl
 | succ n=>rw[U5,h]
theorem nU{g:Graph}{c:Str}{a b:Int×Int}(h:f0 g c a=some b)(n:Nat):U5 g c (n+1) a=U5 g c n b:=by rw[U5,h]
def W4(g:Graph)(b:Str)(c n:Nat):List (Int×Int):=(List.range n).map fun (i:Nat)=>w8 g b ((c:Int),(i:Int))
def gE(n i:Nat):List Int:=List.replicate i (-1)++List.replicate (n-i) 0
theorem wI{n i:Nat}(h:i<=n):(gE n i).length=n:=by unfold gE;rw[WX,XT,XT];omega
theorem wJ{n i:Nat}(h:i<n):(gE n i).set i (-1)=gE n (i+1):=by
 unfold gE;rw[List.set_append_right _ _ (by rw[XT];exact Nat.le_refl _),XT,YK,show n-i=(n-(i+1))+1 by omega,List.replicate_succ,List.set_cons_zero,List.replicate_succ' (n:=i),XH];rfl
theorem sZ(n:Nat):gE n 0=List.replicate n 0:=by unfold gE;simp
theorem wK(n:Nat):gE n n=List.replicate n (-1):=by unfold gE;simp
def aR(a:List Span)(o:List Int)(k:Nat):List Int:=r9 (a.take k) o
theorem oZ:∀(l:List Span) (p:Span) (o:List Int),r9 (l++[p]) o=(r9 l o).set p.To.toNat p.From
 | [],_,_=>rfl
 | q::r,p,o=>by rw[XQ,r9,r9,oZ r]
theorem gF{a:List Span}{o:List Int}{k:Nat}{p:Span}(h:a[k]?=some p):aR a o (k+1)=(aR a o k).set p.To.toNat p.From:=by
 unfold aR;rw[List.take_add_one,h,Option.toList_some,oZ]
theorem tA(a:List Span)(o:List Int)(k:Nat):(aR a o k).length=o.length:=kF _ _
theorem tB(a:List Span)(o:List Int):aR a o a.length=r9 a o:=by unfold aR;rw[XF]
abbrev Src:=Int×List Int
def CD:Src->Nat->Cell:=fun s j=>match j with
 | 0=>.v (.int .i64 s.1)
 | _=>.list Int 1 G1 s.2
abbrev mJ(l:List Src):Cell:=.list Src 2 CD l
def z8(g:Graph)(a:Str)(b:List Int):List (Int×Cell):=b.map fun k=>(k,mJ (x5 g a k.toNat))
def KnownOk(g:Graph)(path:Str)(a:List (Int×Cell)):Prop:=∃b,a=z8 g path b
theorem KnownOk.get{g:Graph}{path:Str}{d:List (Int×Cell)}(h:KnownOk g path d){k:Int}{c:Cell}(b:L6 d k=some c):c=mJ (x5 g path k.toNat):=by
 obtain⟨i,rfl⟩:=h;unfold z8 at b;induction i with
 | nil=>cases b
 | cons a r f =>
  rw[XK,L6]at b;split at b
  ·rename_i e;cases b;rw[e]
  ·exact f b
theorem KH{g:Graph}{path:Str}{a:List (Int×Cell)}(h:KnownOk g path a)(k:Int):KnownOk g path (a++[(k,mJ (x5 g path k.toNat))]):=by
 obtain⟨b,rfl⟩:=h;exact⟨b++[k],by unfold z8;rw[YC];rfl⟩
def gG(g:Graph)(path now:Str)(l:List Int)(k:Nat):List Src:=a8 g path now (l.take k)
theorem gZ{g:Graph}{a b:Str}:∀(l m:List Int),a8 g a b (l++m)=a8 g a b l++a8 g a b m
 | [],_=>rfl
 | p::r,m=>by
  rw[XQ,a8,a8];cases F5 (E0 g p.toNat) a with
  | none=>exact gZ r m
  | some old=>dsimp only;rw[gZ r m];rfl
theorem FH{g:Graph}{path now old:Str}{l:List Int}{k:Nat}{p:Int}(h:l[k]?=some p)(a:F5 (E0 g p.toNat) path=some old):gG g path now l (k+1)=gG g path now l k++[(p,Z4 (D4 old) (D4 now))]:=by
 unfold gG;rw[List.take_add_one,h,Option.toList_some,gZ]
 congr 1
 rw[a8,a];rfl
theorem FI{g:Graph}{path now:Str}{l:List Int}{k:Nat}{p:Int}(h:l[k]?=some p)(a:F5 (E0 g p.toNat) path=none):gG g path now l (k+1)=gG g path now l k:=by
 unfold gG;rw[List.take_add_one,h,Option.toList_some,gZ,a8,a];simp[a8]
theorem nV{g:Graph}{path now:Str}:∀(l:List Int),(a8 g path now l).length<=l.length
 | []=>Nat.le_refl _
 | p::r=>by
  rw[a8];have:=nV (g:=g) (path:=path) (now:=now) r;cases F5 (E0 g p.toNat) path with
  | none=>exact Nat.le_trans this (Nat.le_succ _)
  | some old=>exact Nat.succ_le_succ this
theorem KI{g:Graph}{path:Str}{c:Nat}{s:Src}(h:s∈x5 g path c):s.2.length=(D4 (Q7 (E0 g c) path)).length:=by
 obtain⟨_,old,_,a⟩:=mI h;rw[a,mH]
theorem CE{l:List Src}{i k:Nat}{s:Src}(h:l[k]?=some s):x6 (l.drop k) i=match s.2[i]? with
  | some v=>if 0<=v then some (s.1,v) else x6 (l.drop (k+1)) i
  | none=>none:=by
 obtain⟨a,b⟩:=List.getElem?_eq_some_iff.1 h;rw[XA a,b,x6]
 try (cases s.2[i]?<;>rfl)
structure AG (A:Auto):Prop where
 len:1<=A.States.length/\A.States.length<=8000
 start:0<=A.Start/\A.Start<A.States.length
 good:∀q∈A.States,wG A.States.length q=true
theorem AG.check{A:Auto}(h:AG A):NR A=0:=by
 obtain⟨a,b⟩:=h.len;obtain⟨c,d⟩:=h.start;unfold NR;rw[A5 (by omega),A4 (List.all_eq_true.2 h.good)]
structure MG (A:Auto) (m:Mach):Prop where
 sl:m.2.length=A.States.length
 cnt:m.1.length+m.2.count false<=A.States.length
 st:∀t∈m.1,0<=t.state/\t.state<A.States.length
theorem KJ{sn:List Bool}:∀{i:Nat},sn[i]?=some false->(sn.set i true).count false+1=sn.count false:=by
 induction sn with
 | nil=>intro i h;cases h
 | cons b r a =>
  intro i h;cases i with
  | zero =>
   rw[List.getElem?_cons_zero]at h;cases h;simp
  | succ i =>
   rw[List.getElem?_cons_succ]at h;have:=a h;rw[List.set_cons_succ,List.count_cons,List.count_cons];omega
theorem MG.first(A:Auto):MG A ([],List.replicate A.States.length false):=⟨by simp,by simp,fun _ h=>by cases h⟩
theorem RW{sn:List Bool}{i:Nat}(h:i<sn.length):sn[i]?=some (L4 sn i):=by
 unfold L4;rw[WT h];rfl
theorem MG.push{A:Auto}{m:Mach}(h:MG A m){i:Int}(c:0<=i/\i<A.States.length)(fr:Int)(d:L4 m.2 i.toNat=false):MG A (m.1++[⟨i,fr⟩],m.2.set i.toNat true):=by
 have b:=h.sl;have e:=KJ (sn:=m.2) (i:=i.toNat) (by rw[<-d];exact RW (by omega));have f:=h.cnt;refine⟨by dsimp only;rw[XX];exact b,by dsimp only;rw[WX,List.length_singleton];omega,fun t a=>?_⟩;rcases WZ.1 a with a | a
 ·exact h.st t a
 ·rw[List.mem_singleton.1 a];exact c
section
variable (A:Auto) (s:Str)
variable {A}
theorem CF(fr:Int):∀a:List Thread,(BZ fr a).length<=a.length/\∀t∈BZ fr a,t∈a
 | []=>⟨Nat.le_refl _,fun _ h=>h⟩
 | t::r=>by
  have c:=CF fr r;unfold BZ;split
  ·exact⟨Nat.zero_le _,fun _ h=>by cases h⟩
  ·refine⟨by rw[WW,WW];omega,fun x b=>?_⟩;rcases XB.1 b with rfl | b
   ·simp
   ·exact List.mem_cons_of_mem _ (c.2 x b)
theorem MG.keep{m:Mach}(h:MG A m)(fr:Int):MG A (BZ fr m.1,m.2):=by
 have a:=CF fr m.1;have c:=h.cnt;exact⟨h.sl,by dsimp only;omega,fun t b=>h.st t (a.2 t b)⟩
end
end Go.AL
attribute [local semireducible] Go.AL.Neu Go.AL.Eff Go.AL.EffV Go.AL.WpL Go.AL.WpC Go.AL.FnOk Go.AL.LexD Go.AL.Sees Go.AL.RetOk Go.AL.FnIo Go.AL.Met Go.AL.RetS
namespace Go.AL
open Go Go.RowKit
set_option linter.unusedVariables false
variable {P:Program}{dst:Option Tmp}{ty:TypeId}{pos:String}{af:Array Edge}{gd:Option (Nat×Bool)}{fr:Fr}{ob:Obs}{nt:Nat}
theorem bT{ops:Array Oper}{rest:List Oper}{Q:Post}{d:Nat}{z:Op}{ty:TypeId}{pos:String}{af:Array Edge}{j t:Nat}{b:Bool}(q:(ops[j]?).bind (·.dst)=some t)(m:Nat.blt t nt=true)(r:E6 fr t=some .un)(o:Nat.blt d nt=true)
  (k:WpL P nt ops rest ((d,.un)::fr) ob Q):WpL P nt ops (⟨some d,z,ty,pos,af,some (j,b)⟩::rest) fr ob Q:=by
 intro S G a w h f;have g:d<S.nt:=by rw[h];simpa using o
 have p:=k S G _ w h (f.put (s:=.un) (v:=undef) g rfl);have c:t<a.tmps.size:=by rw[f.nt,h];simpa using m
 have x:=(Wants.un (b:=b)).yields (f.fact (by rw[<-f.nt];exact c) r) q c rfl;unfold wpList;rw[A5 (by unfold Region.wanted;simp only;rw[x];simp)];exact p
section
variable (A:Auto) (s:Str)
abbrev QL(p:Nat)(k:Int):List Int:=HO (mG A k) (decide (p=0)) (decide (p=s.length))
def reads(p:Nat)(k:Int):Prop:=(mG A k).Kind=0/\NS (mG A k).Set (s.getD p 0).toNat=1
inductive Run:Int->Nat->Prop
 | start {i:Nat} (hi:i<=s.length):Run A.Start i
 | eps {k j:Int} {p:Nat} (h:Run k p) (hj:j∈QL A s p k):Run j p
 | read {k:Int} {p:Nat} (h:Run k p) (hp:p<s.length) (hr:reads A s p k):Run (mG A k).Next (p+1)
abbrev VK(k:Int):Prop:=0<=k/\k<A.States.length
variable {A s}
variable (A s)
def QM(m:Mach)(k:Int):Prop:=VK A k/\L4 m.2 k.toNat=true
structure Sy (p:Nat) (m:Mach):Prop where
 mg:MG A m
 fr:∀t∈m.1,0<=t.from_
 sync:∀k,QM A m k↔∃t∈m.1,t.state=k
variable {A s}
theorem KK{a:List Bool}{i c:Nat}(b:i<a.length):L4 (a.set i true) c=(L4 a c||decide (i=c)):=by
 unfold L4;rw[YQ];by_cases e:i=c
 ·subst e;rw[A4 rfl,A4 b];simp
 ·rw[A5 e];simp[e]
theorem NT{m:Mach}(d:MG A m){i:Int}(c:VK A i){fr:Int}(k:Int):QM A (m.1++[⟨i,fr⟩],m.2.set i.toNat true) k↔QM A m k\/k=i:=by
 unfold QM;rw[KK (by rw[d.sl];have:=c.2;have:=c.1;omega),XR,decide_eq_true_eq];constructor
 ·rintro⟨a,b | b⟩
  ·exact .inl ⟨a,b⟩
  ·right;have:=c.1;have:=a.1;omega
 ·rintro (⟨a,b⟩ | rfl)
  ·exact⟨a,.inl b⟩
  ·exact⟨c,.inr rfl⟩
theorem Sy.push{p:Nat}{m:Mach}(h:Sy A p m){i:Int}(c:VK A i){fr:Int}(b:0<=fr)(d:L4 m.2 i.toNat=false):Sy A p (m.1++[⟨i,fr⟩],m.2.set i.toNat true) where
 mg:=h.mg.push c fr d
 fr:=fun t a=>by
  rcases WZ.1 a with a | a
  ·exact h.fr t a
  ·rw[List.mem_singleton.1 a];exact b
 sync:=fun k=>by
  rw[NT h.mg c,h.sync k];constructor
  ·rintro (⟨t,a,e⟩ | rfl)
   ·exact⟨t,List.mem_append_left _ a,e⟩
   ·exact⟨⟨k,fr⟩,by simp,rfl⟩
  ·rintro⟨t,a,e⟩;rcases WZ.1 a with a | a
   ·exact .inl ⟨t,a,e⟩
   ·right;rw[<-e,List.mem_singleton.1 a]
def Shut(A:Auto)(s:Str)(p:Nat)(m:Mach):Prop:=∀k,QM A m k->∀j∈QL A s p k,QM A m j
theorem Sy.first(A:Auto)(p:Nat):Sy A p ([],List.replicate A.States.length false) where
 mg:=MG.first A
 fr:=fun _ h=>by cases h
 sync:=fun k=>by
  constructor
  ·rintro⟨b,a⟩;unfold L4 at a;rw[List.getElem?_replicate]at a;split at a<;>cases a
  ·rintro⟨_,h,_⟩;cases h
structure NI (A:Auto) (s:Str) (a:Nat) (m:Mach):Prop where
 sy:Sy A a m
 shut:Shut A s a m
 sound:∀k,QM A m k->Run A s k a
 all:∀p k,p+1=a->Run A s k p->reads A s p k->QM A m (mG A k).Next
 no:∀p k,p<a->Run A s k p->(mG A k).Kind≠4
end
structure ChainA (A:Auto) (w:Str):Prop where
 ag:AG A
 start:A.Start=(w.length:Int)+2
 s0:(mG A ((w.length:Int)+2)).Kind=2/\(mG A ((w.length:Int)+2)).Next=(w.length:Int)+1
 lt:∀(j:Nat) (c:UInt8),w[j]?=some c->(mG A ((w.length:Int)+1-j)).Kind=0/\(mG A ((w.length:Int)+1-j)).Next=(w.length:Int)-j/\∀x:UInt8,NS (mG A ((w.length:Int)+1-j)).Set x.toNat=1↔x=c
 en:(mG A 1).Kind=3/\(mG A 1).Next=0
 ac:(mG A 0).Kind=4
def mK(g:Graph)(inn:List Bool)(L:List Int):Prop:=∀(i:Nat) (x:Int),L[i]?=some x->∀k:Nat,k<g.length->L4 inn k=true->x∈E1 g k->(k:Int)∈L.take i
theorem CG{g:Graph}{inn:List Bool}{L:List Int}(h:0<=l0 g inn L):∃b:Nat,b<g.length/\l0 g inn L=b/\Y1 g inn L b=true:=by
 rcases aC g inn L g.length with a | ⟨b,a,h2,h3,_⟩
 ·have:l0 g inn L = -1:=a.1;omega
 ·exact⟨b,a,h2,h3⟩
theorem NU{g:Graph}{inn:List Bool}{L:List Int}(h:mK g inn L){b:Nat}(hb:Y1 g inn L b=true):mK g inn (L++[(b:Int)]):=by
 intro i x a k f c j;rcases Nat.lt_trichotomy i L.length with d | d | d
 ·rw[XM d]at a;have:=h i x a k f c j;rw[List.take_append_of_le_length (by omega)];exact this
 ·subst d;rw[List.getElem?_concat_length]at a;cases a;rw[List.take_append_of_le_length (Nat.le_refl _),XF];unfold Y1 at hb;rw[WU,List.all_eq_true]at hb;have e:=hb.2 k (XE.2 f);rw[A2 j,c,Bool.true_and,Bool.true_and]at e;simpa using e
 ·rw[XP (by rw[WX,List.length_singleton];omega)]at a;cases a
theorem wL{g:Graph}{inn:List Bool}:∀(f:Nat) (L:List Int),mK g inn L->mK g inn (eI g inn f L)
 | 0,_,h=>h
 | f+1,L,h=>by
  rw[eI];split
  ·exact h
  ·obtain⟨b,_,a,c⟩:=CG (g:=g) (inn:=inn) (L:=L) (by omega);rw[a];exact wL f _ (NU h c)
theorem FJ(g:Graph)(s:List Int):mK g (J3 g s) (J9 g s):=wL _ [] fun i x a=>by simp at a
theorem wM{g:Graph}{inn:List Bool}:∀(f:Nat) (L:List Int),L.Nodup->(∀x∈L,0<=x/\x<g.length)->g.length<L.length+f->l0 g inn (eI g inn f L)<0
 | 0,L,h,h2,hf=>by
  have:=X7 h h2;omega
 | f+1,L,h,h2,hf=>by
  rw[eI];split
  ·assumption
  ·rename_i hb;obtain⟨b,j,c,_,d⟩:=nQ (g:=g) (inn:=inn) (L:=L) (by omega);rw[c];refine wM f _ (List.nodup_append.2 ⟨h,by simp,fun x a y i e=>by rw[List.mem_singleton.1 i]at e;exact d (e ▸ a)⟩) (fun x a=>?_) (by rw[WX,List.length_singleton];omega);rcases WZ.1 a with a | a
   ·exact h2 x a
   ·rw[List.mem_singleton.1 a];omega
theorem wN{g:Graph}(q:∀c,¬Reaches g c c)(s:List Int){x:Nat}(D:x<g.length)(u:L4 (J3 g s) x=true):(x:Int)∈J9 g s:=by
 apply Classical.byContradiction;intro C;have w:l0 g (J3 g s) (J9 g s)<0:=wM _ [] List.nodup_nil (fun _ h=>by cases h) (by simp);obtain⟨M,z⟩:∃M,M=(List.range g.length).filter fun i=>L4 (J3 g s) i&&decide ((i:Int)∉J9 g s):=⟨_,rfl⟩
 have a:∀i,i∈M↔i<g.length/\L4 (J3 g s) i=true/\(i:Int)∉J9 g s:=fun i=>by
  rw[z,List.mem_filter,XE,WU,decide_eq_true_eq]
 have v:x∈M:=(a x).2 ⟨D,u,C⟩;obtain⟨m,B,j⟩:=minimal (R:=Reaches g) (fun _ _ _ d p=>d.trans p) q (List.ne_nil_of_mem v);obtain⟨E,F,G⟩:=(a m).1 B;have y:Y1 g (J3 g s) (J9 g s) m=true:=by
  unfold Y1;rw[F,A2 G,Bool.true_and,Bool.true_and,List.all_eq_true];intro k A;cases d:decide ((m:Int)∈E1 g k)&&L4 (J3 g s) k&&decide ((k:Int)∉J9 g s) with
  | false=>rfl
  | true =>
   rw[WU,WU,decide_eq_true_eq,decide_eq_true_eq]at d;exact absurd (.one d.1.1) (j k ((a k).2 ⟨XE.1 A,d.1.2,d.2⟩))
 rcases aC g (J3 g s) (J9 g s) g.length with d | ⟨b,d,p,_⟩
 ·rw[d.2 m E]at y;cases y
 ·have H:l0 g (J3 g s) (J9 g s)=b:=p;omega
def Topo(g:Graph):List Int->Prop
 | []=>True
 | d::r=>(∀p∈E1 g d.toNat,p∈r)/\Topo g r
theorem PP{g:Graph}{L:List Int}(e:L.Nodup)(a:∀d∈L,∀p∈E1 g d.toNat,p∈L/\∀i,L[i]?=some p->d∈L.take i):∀(n:Nat),Topo g (L.drop n):=by
 have f:∀(k n:Nat),L.length-n=k->Topo g (L.drop n):=by
  intro k;induction k with
  | zero =>
   intro n w;rw[List.drop_of_length_le (by omega)];trivial
  | succ k y =>
   intro n w;have b:n<L.length:=by omega
   rw[XA b];refine⟨fun p x=>?_,y (n+1) (by omega)⟩;obtain⟨m,o⟩:=a L[n] (WY b) p x;obtain⟨j,c⟩:=List.mem_iff_getElem?.1 m;have q:=o j c;obtain⟨i,l,h⟩:=List.mem_iff_getElem.1 q;rw[List.getElem_take]at h;have s:i<j:=by rw[XG]at l;omega
   have r:i<L.length:=by rw[XG]at l;omega
   have t:i=n:=(List.getElem_inj e).1 h;obtain⟨v,u⟩:=List.getElem?_eq_some_iff.1 c;rw[List.mem_iff_getElem?];exact⟨j-(n+1),by rw[XY,show n+1+(j-(n+1))=j by omega];exact c⟩
 exact fun n=>f _ n rfl
theorem FK{g:Graph}(E:related g=true)(u:∀c,¬Reaches g c c){s:Nat}(K:s<g.length):Topo g (J9 g [(s:Int)])/\(s:Int)∈J9 g [(s:Int)]:=by
 have j:=fun x=>dD E (s:=[(s:Int)]) (fun f w=>by rw[List.mem_singleton.1 w];omega) x;have J:=FJ g [(s:Int)];obtain⟨z,C⟩:=w7 g [(s:Int)];have y:∀{d:Nat},(d:Int)∈J9 g [(s:Int)]->L4 (J3 g [(s:Int)]) d=true:=by
  have D:∀(f:Nat) (L:List Int),(∀d:Nat,(d:Int)∈L->L4 (J3 g [(s:Int)]) d=true)->∀d:Nat,(d:Int)∈eI g (J3 g [(s:Int)]) f L->L4 (J3 g [(s:Int)]) d=true:=by
   intro f;induction f with
   | zero=>exact fun L h=>h
   | succ f M =>
    intro L h;rw[eI];split
    ·exact h
    ·obtain⟨b,_,F,G,_⟩:=nQ (g:=g) (inn:=J3 g [(s:Int)]) (L:=L) (by omega);rw[F];refine M _ fun d a=>?_;rcases WZ.1 a with a | a
     ·exact h d a
     ·have:d=b:=by have:=List.mem_singleton.1 a;omega
      rw[this];exact G
  exact fun {d} a=>D _ [] (fun d a=>by cases a) d a
 refine⟨?_,wN u _ K ((j s).2 ⟨s,by simp,.inl rfl⟩)⟩;have:=PP (g:=g) z (fun d a p A=>?_) 0
 ·rwa[List.drop_zero]at this
 ·have H:=C d a;have t:((d.toNat:Nat):Int)=d:=by omega
  have v:=y (d:=d.toNat) (by rw[t];exact a);have hpr:=(K2 E d.toNat).1 p A;have hpn:((p.toNat:Nat):Int)=p:=by omega
  refine⟨?_,fun i I=>?_⟩
  ·have B:L4 (J3 g [(s:Int)]) p.toNat=true:=by
    obtain⟨f,w,q⟩:=(j d.toNat).1 v;refine (j p.toNat).2 ⟨f,w,.inr ?_⟩;have k:((p.toNat:Nat):Int)∈E1 g d.toNat:=by rw[hpn];exact A
    rcases q with q | q
    ·rw[q];exact .one k
    ·exact .more q k
   have:=wN u [(s:Int)] (x:=p.toNat) (by omega) B
   rwa[hpn]at this
  ·have:=J i p I d.toNat (by omega) v A
   rwa[t]at this
structure Visit where
 Commit:Int
 Lines:Span
 deriving DecidableEq
def Y2(a b:Span):Span:=if a.To<=a.From/\b.To<=b.From then ⟨0,0⟩ else if a.To<=a.From then b else if b.To<=b.From then a else ⟨min a.From b.From,max a.To b.To⟩
def kG(s:Span)(i:Int):Prop:=s.From<=i/\i<s.To
theorem wO{a b:Span}{i:Int}(h:kG a i):kG (Y2 a b) i:=by
 unfold kG at h ⊢;unfold Y2;split
 ·omega
 ·split
  ·omega
  ·split
   ·exact h
   ·dsimp only;omega
theorem tC{a b:Span}{i:Int}(h:kG b i):kG (Y2 a b) i:=by
 unfold kG at h ⊢;unfold Y2;split
 ·omega
 ·split
  ·exact h
  ·split
   ·omega
   ·dsimp only;omega
def yV(n:Int)(s:Span):Prop:=(s.To<=s.From/\0<=s.From/\s.From<=4096/\0<=s.To)\/(0<=s.From/\s.From<s.To/\s.To<=n)
theorem HP{n:Int}{a b:Span}(ha:yV n a)(hb:yV n b):yV n (Y2 a b):=by
 unfold Y2;split
 ·exact .inl (by dsimp only;omega)
 ·split
  ·exact hb
  ·split
   ·exact ha
   ·unfold yV at ha hb ⊢;dsimp only;omega
def L9(x y:List Str)(s:Span):List Int:=((Z4 x y).drop s.From.toNat).take (s.To-s.From).toNat
def P8:List Int->Span×Bool->Span×Bool
 | [],r=>r
 | i::l,r=>P8 l (if 0<=i then (Y2 r.1 ⟨i,i+1⟩,true) else r)
def eK(l:List Int):Span×Bool:=P8 l (⟨0,0⟩,false)
theorem nW:∀(l:List Int) (r:Span×Bool),(r.2=true->(P8 l r).2=true)/\∀i,kG r.1 i->kG (P8 l r).1 i
 | [],r=>⟨fun h=>h,fun _ h=>h⟩
 | j::l,r=>by
  rw[P8];split
  ·obtain⟨a,b⟩:=nW l (Y2 r.1 ⟨j,j+1⟩,true);exact⟨fun _=>a rfl,fun i c=>b i (wO c)⟩
  ·exact nW l r
theorem CH:∀(l:List Int) (r:Span×Bool) {i:Int},i∈l->0<=i->(P8 l r).2=true/\kG (P8 l r).1 i
 | [],_,_,h,_=>by cases h
 | j::l,r,i,h,hi=>by
  rw[P8];rcases XB.1 h with rfl | h
  ·rw[A4 hi];obtain⟨a,b⟩:=nW l (Y2 r.1 ⟨i,i+1⟩,true);exact⟨a rfl,b i (tC (by unfold kG;dsimp only;omega))⟩
  ·exact CH l _ h hi
theorem HQ{n:Int}:∀(l:List Int) (r:Span×Bool),(∀i∈l,i<n)->yV n r.1->yV n (P8 l r).1
 | [],_,_,h=>h
 | j::l,r,hl,h=>by
  rw[P8];refine HQ l _ (fun i a=>hl i (by simp[a])) ?_;split
  ·exact HP h (.inr (by have:=hl j (by simp);dsimp only;omega))
  ·exact h
def bU(l:List Int)(k:Nat):Bool:=decide (l.getD k 0<0)||(decide (0<k)&&decide (l.getD k 0≠l.getD (k-1) 0+1))
def bV(l:List Int):Bool:=(List.range l.length).any (bU l)
theorem KL{l:List Int}{i:Int}(h:i∈l)(b:i<0):bV l=true:=by
 obtain⟨k,a,rfl⟩:=List.mem_iff_getElem.1 h;refine List.any_eq_true.2 ⟨k,XE.2 a,?_⟩;unfold bU;rw[XC,WT a,A2 (show (some l[k]).getD 0<0 from b),Bool.true_or]
def U6(a:List Span)(c:Nat):Span:=a.getD c ⟨0,0⟩
def P9(g:Graph)(path blob:Str)(s:Span)(a:List Span)(p:Int):List Span×Bool :=
 match F5 (E0 g p.toNat) path with
 | none=>(a,true)
 | some old =>
  (if (eK (L9 (D4 old) (D4 blob) s)).2=true then a.set p.toNat (Y2 (U6 a p.toNat) (eK (L9 (D4 old) (D4 blob) s)).1) else a,bV (L9 (D4 old) (D4 blob) s))
def S7(g:Graph)(b a:Str)(s:Span):List Int->List Span×Bool->List Span×Bool
 | [],r=>r
 | p::l,r=>S7 g b a s l ((P9 g b a s r.1 p).1,r.2||(P9 g b a s r.1 p).2)
structure LS where
 rs:List Span
 vis:List Visit
 lst:List Visit
def bW(g:Graph)(path blob:Str)(c:Nat)(a:List Span):List Span×Bool:=S7 g path blob (U6 a c) (E1 g c) (a,decide (E1 g c=[]))
def M1(g:Graph)(path:Str)(st:LS)(c:Nat):LS :=
 match F5 (E0 g c) path with
 | none=>st
 | some blob=>if (U6 st.rs c).To<=(U6 st.rs c).From then st
  else ⟨(bW g path blob c st.rs).1,st.vis++[⟨c,U6 st.rs c⟩],if (bW g path blob c st.rs).2=true then st.lst++[⟨c,U6 st.rs c⟩] else st.lst⟩
def aS(g:Graph)(path:Str)(st:LS):List Int->LS
 | []=>st
 | c::r=>aS g path (M1 g path st c.toNat) r
theorem gH(b:List Span)(p c:Nat)(v:Span):U6 (b.set p v) c=if p=c/\c<b.length then v else U6 b c:=by
 unfold U6;rw[XC,YQ];by_cases d:p=c
 ·subst d;by_cases a:p<b.length
  ·rw[A4 rfl,A4 a,A4 ⟨rfl,a⟩];rfl
  ·rw[A4 rfl,A5 a,A5 (fun h=>a h.2),XC,XP (by omega)]
 ·rw[A5 d,A5 (fun h=>d h.1),XC]
theorem tD(g:Graph)(a b:Str)(s:Span)(c:List Span)(p:Int):(P9 g a b s c p).1.length=c.length:=by
 unfold P9;cases F5 (E0 g p.toNat) a with
 | none=>rfl
 | some old =>
  dsimp only;split
  ·rw[XX]
  ·rfl
theorem KM(g:Graph)(a b:Str)(s:Span)(d:List Span)(p:Int)(c:Nat){i:Int}(h:kG (U6 d c) i):kG (U6 (P9 g a b s d p).1 c) i:=by
 unfold P9;cases F5 (E0 g p.toNat) a with
 | none=>exact h
 | some old =>
  dsimp only;split
  ·rw[gH];split
   ·rename_i e;rw[e.1];exact wO h
   ·exact h
  ·exact h
theorem wP{g:Graph}{path blob:Str}{s:Span}:∀(l:List Int) (r:List Span×Bool),(S7 g path blob s l r).1.length=r.1.length
 | [],_=>rfl
 | p::l,r=>by rw[S7,wP l];exact tD g path blob s r.1 p
theorem kH{g:Graph}{b a:Str}{s:Span}:∀(l:List Int) (r:List Span×Bool) (c:Nat) {i:Int},kG (U6 r.1 c) i->kG (U6 (S7 g b a s l r).1 c) i
 | [],_,_,_,h=>h
 | p::l,r,c,i,h=>by
  rw[S7];exact kH l _ c (KM g b a s r.1 p c h)
theorem tE{g:Graph}{b a:Str}{s:Span}:∀(l:List Int) (r:List Span×Bool),(r.2=true\/∃p∈l,∀c,(P9 g b a s c p).2=true)->(S7 g b a s l r).2=true
 | [],r,h=>by
  rcases h with h | ⟨_,h,_⟩
  ·exact h
  ·cases h
 | p::l,r,h=>by
  rw[S7];refine tE l _ ?_;rcases h with h | ⟨q,hq,h⟩
  ·exact .inl (by dsimp only;rw[h,Bool.true_or])
  ·rcases XB.1 hq with rfl | hq
   ·exact .inl (by dsimp only;rw[h,Bool.or_true])
   ·exact .inr ⟨q,hq,h⟩
theorem KN{g:Graph}{b a old:Str}{s:Span}{c:List Span}{p:Int}{v:Int}(h:F5 (E0 g p.toNat) b=some old)(j:v∈L9 (D4 old) (D4 a) s)(d:0<=v)(i:p.toNat<c.length) :
  kG (U6 (P9 g b a s c p).1 p.toNat) v:=by
 obtain⟨e,f⟩:=CH _ (⟨0,0⟩,false) j d;unfold P9;rw[h];dsimp only;rw[A4 (show (eK (L9 (D4 old) (D4 a) s)).2=true from e),gH,A4 ⟨rfl,i⟩];exact tC f
theorem wQ{g:Graph}{b a old:Str}{s:Span}{p:Int}{v:Int}(d:F5 (E0 g p.toNat) b=some old)(f:v∈L9 (D4 old) (D4 a) s)(c:0<=v):∀(l:List Int) (r:List Span×Bool),p∈l->p.toNat<r.1.length->kG (U6 (S7 g b a s l r).1 p.toNat) v
 | [],_,h,_=>by cases h
 | q::l,r,h,hp=>by
  rw[S7];by_cases e:q=p
  ·subst e;exact kH l _ _ (KN d f c hp)
  ·rcases XB.1 h with h | h
   ·exact absurd h.symm e
   ·exact wQ d f c l _ h (by dsimp only;rw[tD];exact hp)
theorem HR{x y:List Str}{s:Span}{i:Nat}{v:Int}(h:kG s i)(b:0<=s.From)(a:(Z4 x y)[i]?=some v):v∈L9 x y s:=by
 unfold kG at h;unfold L9;rw[List.mem_iff_getElem?];refine⟨i-s.From.toNat,?_⟩;rw[List.getElem?_take,A4 (by omega),XY,show s.From.toNat+(i-s.From.toNat)=i by omega];exact a
def U9(g:Graph)(path:Str)(a:List Span):Prop:=a.length=g.length/\∀c:Nat,yV ((D4 (Q7 (E0 g c) path)).length:Int) (U6 a c)
theorem PQ{g:Graph}(q:GB g){a b:Str}(hb:Few b){s:Span}{m:List Span}(h:U9 g a m)(p:Int):U9 g a (P9 g a b s m p).1:=by
 refine⟨by rw[tD];exact h.1,fun c=>?_⟩;unfold P9;cases k:F5 (E0 g p.toNat) a with
 | none=>exact h.2 c
 | some old =>
  dsimp only;split
  ·rw[gH];split
   ·rename_i o;have f:=h.2 c;rw[<-o.1]at f ⊢;refine HP f (HQ _ _ (fun i r=>?_) (.inl (by dsimp only;omega)));have e:i∈Z4 (D4 old) (D4 b):=List.mem_of_mem_drop (List.mem_of_mem_take r);obtain⟨j,t⟩:=List.mem_iff_getElem?.1 e;have d:Q7 (E0 g p.toNat) a=old:=by unfold Q7;rw[k];rfl
    rw[d];rcases yU (d5 q k).2 hb.2 t with u | ⟨_,w,h4,_⟩
    ·omega
    ·obtain⟨v,_⟩:=List.getElem?_eq_some_iff.1 h4;omega
   ·exact h.2 c
  ·exact h.2 c
theorem CI{g:Graph}(c:GB g){a b:Str}(hb:Few b){s:Span}:∀(l:List Int) (r:List Span×Bool),U9 g a r.1->U9 g a (S7 g a b s l r).1
 | [],_,h=>h
 | p::l,r,h=>by
  rw[S7];exact CI c hb l _ (PQ c hb h p)
theorem CJ{g:Graph}(d:GB g){a:Str}{st:LS}(h:U9 g a st.rs)(c:Nat):U9 g a (M1 g a st c).rs:=by
 unfold M1;cases e:F5 (E0 g c) a with
 | none=>exact h
 | some b =>
  dsimp only;split
  ·exact h
  ·exact CI d (d5 d e) _ _ h
theorem FL{g:Graph}{a:Str}{st:LS}(c d:Nat){i:Int}(h:kG (U6 st.rs d) i):kG (U6 (M1 g a st c).rs d) i:=by
 unfold M1;cases e:F5 (E0 g c) a with
 | none=>exact h
 | some b =>
  dsimp only;split
  ·exact h
  ·exact kH _ _ d h
theorem KO{g:Graph}{a:Str}{st:LS}(c:Nat){v:Visit}(h:v∈st.lst):v∈(M1 g a st c).lst:=by
 unfold M1;cases d:F5 (E0 g c) a with
 | none=>exact h
 | some b =>
  dsimp only;split
  ·exact h
  ·dsimp only;split
   ·simp[h]
   ·exact h
theorem HS{g:Graph}{a:Str}{v:Visit}:∀(l:List Int) (st:LS),v∈st.lst->v∈(aS g a st l).lst
 | [],_,h=>h
 | c::r,_,h=>HS r _ (KO c.toNat h)
theorem nX{g:Graph}{a b:Str}{i:Nat}(f:i<(D4 b).length):∀{l:List Int},x6 (a8 g a b l) i=none->∀p∈l,F5 (E0 g p.toNat) a=none\/∃old v,F5 (E0 g p.toNat) a=some old/\(Z4 (D4 old) (D4 b))[i]?=some v/\v<0
 | [],_,_,h=>by cases h
 | q::l,hs,p,hp=>by
  rw[a8]at hs;cases d:F5 (E0 g q.toNat) a with
  | none =>
   rw[d]at hs;rcases XB.1 hp with rfl | hp
   ·exact .inl d
   ·exact nX f hs p hp
  | some old =>
   rw[d]at hs;dsimp only at hs;rw[x6]at hs;dsimp only at hs;have c:i<(Z4 (D4 old) (D4 b)).length:=by rw[mH];exact f
   rw[WT c]at hs;dsimp only at hs;split at hs
   ·cases hs
   ·rename_i j;rcases XB.1 hp with rfl | hp
    ·exact .inr ⟨old,_,d,WT c,by omega⟩
    ·exact nX f hs p hp
theorem kI{g:Graph}(L:GB g){f:Str}:∀(B:List Int) (st:LS),(∀d∈B,0<=d)->B.Nodup->Topo g B->U9 g f st.rs->∀(n:Nat) (a:Int×Int) (v:Str),LineAt g f v a->a.1∈B->kG (U6 st.rs a.1.toNat) a.2->f0 g f (U5 g f n a)=none ->
  ∃w∈(aS g f st B).lst,w.Commit=(U5 g f n a).1/\kG w.Lines (U5 g f n a).2
 | [],_,_,_,_,_,_,_,_,_,h,_,_=>by cases h
 | d :: r,st,h0,hnd,Q,hr,n,a,v,hl,hm,hin,hend=>by
  obtain⟨R,J⟩:=Q;obtain⟨V,u⟩:=List.nodup_cons.1 hnd;have H:=CJ L hr d.toNat
  by_cases e:a.1=d
  ·obtain⟨q,U,X⟩:=hl.b;have Z:=hl.i;have G:a.2.toNat<(D4 q).length:=(List.getElem?_eq_some_iff.1 X).1;have I:=hr.2 a.1.toNat
   obtain⟨s,M⟩:∃s,s=U6 st.rs a.1.toNat:=⟨_,rfl⟩
   rw[<-M]at hin I;have P:¬s.To<=s.From:=by unfold kG at hin;omega
   have k:0<=s.From:=by unfold yV at I;omega
   have y:M1 g f st d.toNat=⟨(bW g f q d.toNat st.rs).1,st.vis++[⟨d.toNat,s⟩],if (bW g f q d.toNat st.rs).2=true then st.lst++[⟨d.toNat,s⟩] else st.lst⟩:=by
    unfold M1;rw[<-e,U];dsimp only;rw[<-M,A5 P]
   have E:Q7 (E0 g a.1.toNat) f=q:=by unfold Q7;rw[U];rfl
   cases j:f0 g f a with
   | none =>
    rw[gC j];have o:=j;unfold f0 x5 at o;rw[E]at o;have z:=nX G o;have A:(bW g f q d.toNat st.rs).2=true:=by
     unfold bW;refine tE _ _ ?_;rw[<-e,<-M];cases hp:E1 g a.1.toNat with
     | nil=>exact .inl (by simp)
     | cons p l =>
      refine .inr ⟨p,by simp,fun rs=>?_⟩;unfold P9;rcases z p (by rw[hp];simp) with C | ⟨old,w,C,K,N⟩
      ·rw[C]
      ·rw[C];dsimp only;refine KL (HR (i:=a.2.toNat) ?_ k K) N;unfold kG at hin ⊢;omega
    refine⟨⟨d.toNat,s⟩,?_,?_,hin⟩
    ·rw[aS];refine HS _ _ ?_;rw[y,A4 A];simp
    ·have:=h0 d (by simp);dsimp only;omega
   | some b =>
    obtain⟨F,D⟩:=hl.step L j;cases n with
    | zero=>rw[U5,j]at hend;cases hend
    | succ m =>
     rw[nU j]at hend ⊢;rw[aS];have O:b.1∈r:=R b.1 (by rw[<-e];exact D);refine kI L r _ (fun x S=>h0 x (by simp[S])) u J H m b v F O ?_ hend;obtain⟨t,Q,C,K,N⟩:=sY j;obtain⟨h4,old,T,W⟩:=mI Q;rw[C]at T;rw[W,E]at K;rw[y];dsimp only;unfold bW;have Y:=F.c;rw[<-e,<-M];exact wQ T (HR (i:=a.2.toNat) (by unfold kG at hin ⊢;omega) k K) N _ _ D (by rw[hr.1];omega)
  ·have ha:a.1∈r:=by
    rcases XB.1 hm with h | h
    ·exact absurd h e
    ·exact h
   rw[aS];exact kI L r _ (fun x S=>h0 x (by simp[S])) u J H n a v hl ha (FL d.toNat a.1.toNat hin) hend
theorem mL{g:Graph}(i:GB g){d v:Str}:∀(m k:Nat) (a:Int×Int),k+m=g.length->LineAt g d v a->InWay g a.1.toNat k->f0 g d (U5 g d m a)=none
 | 0,k,a,hk,hl,hw=>by
  have:=hw.lt (by have:=hl.c;omega);omega
 | m+1,k,a,hk,hl,hw=>by
  cases e:f0 g d a with
  | none=>rw[gC e];exact e
  | some b =>
   rw[nU e];obtain⟨f,h⟩:=hl.step i e;exact mL i m (k+1) b (by omega) f (hw.step (by have:=f.c;rw[show ((b.1.toNat:Nat):Int)=b.1 by omega];exact h))
theorem KP{g:Graph}{path:Str}(st:LS)(c:Nat):(M1 g path st c).lst=st.lst\/∃s,(M1 g path st c).lst=st.lst++[⟨c,s⟩]:=by
 unfold M1;cases b:F5 (E0 g c) path with
 | none=>exact .inl rfl
 | some a =>
  dsimp only;split
  ·exact .inl rfl
  ·dsimp only;split
   ·exact .inr ⟨_,rfl⟩
   ·exact .inl rfl
theorem HT{g:Graph}{path:Str}:∀(a:List Int) (st:LS),(∀d∈a,0<=d)->∃more,(aS g path st a).lst=st.lst++more/\(more.map (·.Commit)).Sublist a
 | [],st,_=>⟨[],by simp[aS],.slnil⟩
 | c::r,st,h0=>by
  obtain⟨more,f,e⟩:=HT (g:=g) (path:=path) r (M1 g path st c.toNat) fun d j=>h0 d (by simp[j]);rw[aS,f];rcases KP (g:=g) (path:=path) st c.toNat with h | ⟨s,h⟩
  ·exact⟨more,by rw[h],e.cons c⟩
  ·refine⟨⟨c.toNat,s⟩::more,by rw[h];simp,?_⟩;have:=h0 c (by simp);rw[XK,show ((⟨((c.toNat:Nat):Int),s⟩:Visit).Commit)=c by dsimp only;omega];exact e.cons_cons c
theorem wS{a b c:Int}{t:Str}(ha:¬(a<0\/2147483647<a))(hb:¬(b<0\/2147483647<b))(d:¬(c<0\/2147483647<c)):(jZ ⟨7,a,b,c,false,t⟩).2=0:=by
 simp[jZ,formsL,BI,pV,V5,eD,Cmd.get,Cmd.put,nN,ha,hb,d]
def wid(s:Span):Nat:=(s.To-s.From).toNat
def aT(ms:List Span)(n:Nat)(s:Span)(k:Nat):List Int:=((aR ms (List.replicate n (-1)) k).drop s.From.toNat).take (wid s)
theorem FM{n:Nat}{ms:List Span}{s:Span}(a:0<=s.From)(b:s.From<s.To)(c:s.To<=n):aT ms n s 0=List.replicate (wid s) (-1):=by
 unfold aT aR wid;rw[List.take_zero,r9,List.drop_replicate,List.take_replicate]
 congr 1
 omega
theorem KQ{n:Nat}{ms:List Span}{s:Span}{k:Nat}(a:0<=s.From)(b:s.From<s.To)(c:s.To<=n):(aT ms n s k).length=wid s:=by
 unfold aT wid;rw[XG,XS,tA,XT];omega
theorem NV{n:Nat}{ms:List Span}{s:Span}{k:Nat}{p:Span}(h:ms[k]?=some p)(b:0<=s.From)(c:s.From<=p.To)(_h4:p.To<s.To):aT ms n s (k+1)=(aT ms n s k).set (p.To-s.From).toNat p.From:=by
 unfold aT;rw[gF h,List.drop_set,A5 (by omega),List.take_set]
 congr 1
 omega
theorem KR{n:Nat}{ms:List Span}{s:Span}{k:Nat}{p:Span}(h:ms[k]?=some p)(b:0<=s.From)(d:0<=p.To)(c:¬(s.From<=p.To/\p.To<s.To)):aT ms n s (k+1)=aT ms n s k:=by
 unfold aT;rw[gF h,List.drop_set];by_cases a:p.To.toNat<s.From.toNat
 ·rw[A4 a]
 ·rw[A5 a,List.take_set];refine List.set_eq_of_length_le ?_;rw[XG];unfold wid;omega
theorem KS(x y:List Str)(s:Span):aT (R1 (P1 x y) x.length) y.length s (R1 (P1 x y) x.length).length=L9 x y s:=by
 unfold aT L9 Z4 wid;rw[tB]
theorem KT{l:List Int}{k:Nat}{i:Int}(h:l[k]?=some i)(r:Span×Bool):P8 (l.take (k+1)) r=(if 0<=i then (Y2 (P8 (l.take k) r).1 ⟨i,i+1⟩,true) else P8 (l.take k) r):=by
 have a:∀(m:List Int) (r:Span×Bool),P8 (m++[i]) r=(if 0<=i then (Y2 (P8 m r).1 ⟨i,i+1⟩,true) else P8 m r):=by
  intro m;induction m with
  | nil=>intro r;rfl
  | cons j m b=>intro r;rw[XQ,P8,P8,b]
 rw[List.take_add_one,h,Option.toList_some,a]
theorem KU{l:List Int}{k:Nat}(h:∀j,j<k->bU l j=false)(b:k=l.length):bV l=false:=by
 unfold bV;rw[List.any_eq_false];intro j a;rw[h j (by have:=XE.1 a;omega)];decide
theorem wT{l:List Int}{k:Nat}(a:k<l.length)(h:bU l k=true):bV l=true:=List.any_eq_true.2 ⟨k,XE.2 a,h⟩
def g9(g:Graph)(path blob:Str)(s:Span)(ps:List Int)(r:List Span×Bool)(k:Nat):List Span×Bool:=S7 g path blob s (ps.take k) r
theorem pA{g:Graph}{b a:Str}{s:Span}:∀(l:List Int) (p:Int) (r:List Span×Bool),S7 g b a s (l++[p]) r=((P9 g b a s (S7 g b a s l r).1 p).1,(S7 g b a s l r).2||(P9 g b a s (S7 g b a s l r).1 p).2)
 | [],_,_=>rfl
 | q::l,p,r=>by rw[XQ,S7,S7,pA l]
theorem CL{g:Graph}{path blob:Str}{s:Span}{ps:List Int}{r:List Span×Bool}{k:Nat}{p:Int}(h:ps[k]?=some p):g9 g path blob s ps r (k+1)=((P9 g path blob s (g9 g path blob s ps r k).1 p).1,(g9 g path blob s ps r k).2||(P9 g path blob s (g9 g path blob s ps r k).1 p).2):=by
 unfold g9;rw[List.take_add_one,h,Option.toList_some,pA]
theorem KV{g:Graph}{a b:Str}{s:Span}{d:List Span}{p:Int}{c:Nat}(h:p.toNat≠c):U6 (P9 g a b s d p).1 c=U6 d c:=by
 unfold P9;cases F5 (E0 g p.toNat) a with
 | none=>rfl
 | some old =>
  dsimp only;split
  ·rw[gH,A5 (fun e=>h e.1)]
  ·rfl
theorem tF{g:Graph}{path blob:Str}{s:Span}{c:Nat}:∀(l:List Int) (r:List Span×Bool),(∀p∈l,p.toNat≠c)->U6 (S7 g path blob s l r).1 c=U6 r.1 c
 | [],_,_=>rfl
 | p::l,r,h=>by
  rw[S7,tF l _ fun q a=>h q (by simp[a])];exact KV (h p (by simp))
theorem tG{g:Graph}{a:Str}:∀(l:List Int) (st:LS) (c:Int),aS g a st (l++[c])=M1 g a (aS g a st l) c.toNat
 | [],_,_=>rfl
 | d::l,st,c=>by rw[XQ,aS,aS,tG l]
theorem FN(g:Graph)(a:Str)(st:LS)(c:Nat):(M1 g a st c).vis.length<=st.vis.length+1/\(M1 g a st c).lst.length<=st.lst.length+1:=by
 unfold M1;cases F5 (E0 g c) a with
 | none=>exact⟨Nat.le_succ _,Nat.le_succ _⟩
 | some b =>
  dsimp only;split
  ·exact⟨Nat.le_succ _,Nat.le_succ _⟩
  ·dsimp only;refine⟨by simp,?_⟩;split<;>simp
def PR(g:Graph)(c:Nat)(s:Span):LS:=⟨(List.replicate g.length ⟨0,0⟩).set c s,[],[]⟩
theorem CM{g:Graph}{c:Nat}{s:Span}(a:c<g.length)(d:Nat):U6 (PR g c s).rs d=if c=d then s else ⟨0,0⟩:=by
 show U6 ((List.replicate g.length ⟨0,0⟩).set c s) d=_;rw[gH,XT];by_cases h:c=d
 ·subst h;rw[A4 ⟨rfl,a⟩,A4 rfl]
 ·rw[A5 (fun e=>h e.1),A5 h];unfold U6;rw[XC,List.getElem?_replicate];split<;>rfl
theorem NW{g:Graph}{path:Str}{c:Nat}{s:Span}(j:c<g.length)(a:0<=s.From)(b:s.From<s.To)(f:s.To<=(D4 (Q7 (E0 g c) path)).length):U9 g path (PR g c s).rs:=by
 refine⟨by show ((List.replicate g.length (⟨0,0⟩:Span)).set c s).length=_;rw[XX,XT],fun d=>?_⟩;rw[CM j];split
 ·rename_i e;subst e;exact .inr ⟨a,b,f⟩
 ·exact .inl (by dsimp only;omega)
def pB(g:Graph)(path:Str)(c:Nat)(s:Span):List Visit:=(aS g path (PR g c s) (J9 g [(c:Int)])).lst
theorem FO{g:Graph}(m:GB g)(E:related g=true)(r:∀c,¬Reaches g c c){f b:Str}{c:Nat}{s:Span}(i:c<g.length)(v:F5 (E0 g c) f=some b)(z:0<=s.From)(A:s.From<s.To)(B:s.To<=(D4 b).length){j:Nat}(x:kG s j) :
  ∃w∈pB g f c s,w.Commit=(w8 g f ((c:Int),(j:Int))).1/\kG w.Lines (w8 g f ((c:Int),(j:Int))).2:=by
 obtain⟨F,D⟩:=FK E r i;obtain⟨q,u⟩:=w7 g [(c:Int)];have k:Q7 (E0 g c) f=b:=by unfold Q7;rw[v];rfl
 unfold kG at x;have p:j<(D4 b).length:=by omega
 have y:LineAt g f (D4 b)[j] ((c:Int),(j:Int)):=⟨⟨by omega,by dsimp only;omega⟩,by dsimp only;omega,b,v,WT p⟩
 have G:InWay g ((c:Int),(j:Int)).1.toNat 0:=InWay.initB m (by dsimp only;omega);refine kI m (J9 g [(c:Int)]) (PR g c s) (fun d C=>(u d C).1) q F (NW i z A (by rw[k];exact B)) g.length _ _ y D ?_ (mL m g.length 0 _ (by omega) y G);dsimp only;rw[WV,CM i,A4 rfl];exact x
theorem PS(g:Graph)(path:Str)(c:Nat)(s:Span):((pB g path c s).map (·.Commit)).Sublist (J9 g [(c:Int)]):=by
 obtain⟨more,e,f⟩:=HT (g:=g) (path:=path) (J9 g [(c:Int)]) (PR g c s) (fun d h=>((w7 g [(c:Int)]).2 d h).1);unfold pB;rw[e];exact f
theorem NX{l:List Visit}{o:List Int}{k i:Nat}{v:Visit}{d:Int}(h:((l.drop k).map (·.Commit)).Sublist (o.drop i))(q:l[k]?=some v)(j:o[i]?=some d)(n:v.Commit=d):((l.drop (k+1)).map (·.Commit)).Sublist (o.drop (i+1)):=by
 obtain⟨c,e⟩:=List.getElem?_eq_some_iff.1 q;obtain⟨f,g⟩:=List.getElem?_eq_some_iff.1 j;rw[XA c,e,XA f,g,XK,n]at h;exact List.cons_sublist_cons.1 h
theorem wU{l:List Visit}{o:List Int}{k i:Nat}{d:Int}(h:((l.drop k).map (·.Commit)).Sublist (o.drop i))(j:o[i]?=some d)(n:∀v,l[k]?=some v->v.Commit≠d):((l.drop k).map (·.Commit)).Sublist (o.drop (i+1)):=by
 obtain⟨f,g⟩:=List.getElem?_eq_some_iff.1 j;rw[XA f,g]at h;by_cases e:k<l.length
 ·have c:=n l[k] (WT e);rw[XA e,XK]at h ⊢;cases h with
  | cons _ h=>exact h
  | cons_cons _ h=>exact absurd rfl c
 ·rw[List.drop_of_length_le (by omega)];exact List.nil_sublist _
theorem NY{l:List Visit}{o:List Int}{k:Nat}(d:k<=l.length)(h:((l.drop k).map (·.Commit)).Sublist (o.drop o.length)):k=l.length:=by
 rw[List.drop_length]at h;have:=List.sublist_nil.1 h;have c:(l.drop k).length=0:=by
  have:=congrArg List.length this
  rwa[XW]at this
 rw[XS]at c;omega
def l3(g:Graph)(path:Str)(c:Nat)(s:Span)(k:Nat):LS:=aS g path (PR g c s) ((J9 g [(c:Int)]).take k)
theorem FP(g:Graph)(path:Str)(c:Nat)(s:Span):l3 g path c s 0=PR g c s:=rfl
theorem kJ{g:Graph}{path:Str}{c:Nat}{s:Span}{k:Nat}{d:Int}(h:(J9 g [(c:Int)])[k]?=some d):l3 g path c s (k+1)=M1 g path (l3 g path c s k) d.toNat:=by
 unfold l3;rw[List.take_add_one,h,Option.toList_some,tG]
theorem tH(g:Graph)(path:Str)(c:Nat)(s:Span):∀k,(l3 g path c s k).vis.length<=k/\(l3 g path c s k).lst.length<=k
 | 0=>⟨Nat.le_refl _,Nat.le_refl _⟩
 | k+1=>by
  have d:=tH g path c s k;by_cases h:k<(J9 g [(c:Int)]).length
  ·rw[kJ (WT h)];have b:=FN g path (l3 g path c s k) ((J9 g [(c:Int)])[k]).toNat
   omega
  ·have e:l3 g path c s (k+1)=l3 g path c s k:=by
    unfold l3;rw[XN (by omega),XN (by omega)]
   rw[e];omega
theorem wV{g:Graph}(b:GB g){path:Str}{c:Nat}{s:Span}(a:U9 g path (PR g c s).rs):∀k,U9 g path (l3 g path c s k).rs
 | 0=>a
 | k+1=>by
  have d:=wV b a k;by_cases h:k<(J9 g [(c:Int)]).length
  ·rw[kJ (WT h)];exact CJ b d _
  ·have e:l3 g path c s (k+1)=l3 g path c s k:=by
    unfold l3;rw[XN (by omega),XN (by omega)]
   rw[e];exact d
theorem KW(g:Graph)(path:Str)(c:Nat)(s:Span):(l3 g path c s (J9 g [(c:Int)]).length).lst=pB g path c s:=by
 unfold l3 pB;rw[XF]
theorem FQ{g:Graph}(d:related g=true)(a:∀c,¬Reaches g c c)(c:Nat):∀p∈E1 g c,p.toNat≠c:=by
 intro p b e;have h:=(K2 d c).1 p b;refine a c (.one ?_);rw[show (c:Int)=p by omega];exact b
def PT(a:Int×Int)(v:Visit):Bool:=decide (v.Commit=a.1)&&(decide (v.Lines.From<=a.2)&&decide (a.2<v.Lines.To))
def gI(a:Int×Int)(l:List Visit)(i:Nat):Bool:=(l.take i).any (PT a)
theorem FR(a:Int×Int)(l:List Visit):gI a l 0=false:=rfl
theorem FS{a:Int×Int}{l:List Visit}{i:Nat}{v:Visit}(h:l[i]?=some v):gI a l (i+1)=(gI a l i||PT a v):=by
 unfold gI;rw[List.take_add_one,h];simp
theorem KX{a:Int×Int}{l:List Visit}(h:∃w∈l,w.Commit=a.1/\kG w.Lines a.2):gI a l l.length=true:=by
 obtain⟨w,d,c,b⟩:=h;unfold gI;rw[XF];refine List.any_eq_true.2 ⟨w,d,?_⟩;unfold PT;unfold kG at b;simp[c,b.1,b.2]
theorem FT(S:Str)(a b c:Int):(((((((S++[99,111,109,109,105,116,32])++m8 a)++[32])++m8 b)++[32])++m8 c)++[10])=S++(n9 [a,b,c]++[10]):=by
 unfold n9 aO lX;simp
end Go.AL
