/- Plain facts about data; no project text. -/
import Derived.Test.YtgkjogphmmoakaaGreatDoorD
import Derived.Lib.Strings
import Derived.Lib.Bytealg
import Derived.Lib.Join
import Derived.Lib.ItoaNum
import Derived.Test.YtgkjogphmmoakaaGreatDoorAn
import Derived.Lib.IndexMore
set_option linter.all false
namespace Go.AL
open Go
theorem u8_lf(c:UInt8):((c.toNat:Int)=10)↔c=10:=by
 constructor
 ·intro h;have:c.toNat=10:=by omega
  exact UInt8.toNat_inj.1 (by simpa using this)
 ·rintro rfl;rfl
def H3(a:Str):Str->List Str
 | []=>if a=[] then [] else [a]
 | c::r=>if c=10 then (a++[c])::H3 [] r else H3 (a++[c]) r
def E9(b:Str):List Str:=H3 [] b
theorem jD(a:Str)(s:Str):(H3 a s).length<=s.length+1:=by
 induction s generalizing a with
 | nil=>unfold H3;split<;>simp
 | cons c r b=>unfold H3;split<;>simp<;>(have:=b [];have:=b (a++[c]);omega)
theorem lT(s:Str):(H3 [] s).length<=s.length:=by
 have b:∀(s a:Str),a≠[]->(H3 a s).length<=s.length+1:=fun s a _=>jD a s;induction s with
 | nil=>simp[H3]
 | cons c r d=>unfold H3;split<;>simp<;>(have:=jD ([]++[c]) r;simp at this;omega)
theorem aF(b:Str):(E9 b).length<=b.length:=lT b
theorem o9(a r:Str)(c:UInt8):H3 a (c::r)=if c=10 then (a++[c])::H3 [] r else H3 (a++[c]) r:=rfl
theorem ED(a:Str)(h:a≠[]):H3 a []=[a]:=by simp[H3,h]
theorem or_pick{p q:Prop}[Decidable p][Decidable q]:(if decide p=true then true else decide q)=decide (p\/q):=by by_cases p<;>simp[*]
theorem and_pick{p q:Prop}[Decidable p][Decidable q]:(if decide p=true then decide q else false)=decide (p/\q):=by by_cases p<;>simp[*]
theorem aG{α:Type}(l:List (List α))(i:Nat)(h:i<l.length):(l.take (i+1)).flatten=(l.take i).flatten++l[i]:=by
 rw[List.take_add_one,A32 h,Option.toList_some,A58];simp
theorem r8{α:Type}(l:List (List α))(i:Nat):(l.take i).flatten.length<=l.flatten.length:=by
 conv=>rhs;rw[<-A68 i l,A58,A35]
 omega
theorem MW(i:Nat):((i:Int)+1).toNat=i+1:=by omega
theorem BL{α:Type}(b:List α)(f i:Nat)(d:f<=i)(c:i<b.length):(b.drop f).take (i-f)++[b[i]]=(b.drop f).take (i+1-f):=by
 rw[show i+1-f=(i-f)+1 by omega,List.take_add_one,A60,show f+(i-f)=i by omega,A32 c];rfl
def ended(s:Str):Bool:=s.getLast? == some 10
def N3:List Str->Str->Int->Int
 | [],_,_ => -1
 | x::r,s,i=>if x=s then i else N3 r s (i+1)
def N0(s:Str):Bool:=s.dropLast.all (·≠10)&&s != []
def aZ:List Str->Bool
 | []=>true
 | s::r=>N0 s&&(r.isEmpty||ended s)&&aZ r
def l5(b:Str):Int:=if b.length>1048576\/(E9 b).length>4096 then 1 else 0
def u0(l:List Str):Str×Int:=if aZ l=false then ([],2) else if l.flatten.length>1048576\/l.length>4096 then ([],1) else (l.flatten,0)
def O0(a:List Str)(s:Str):List Str:=if s∈a then a else a++[s]
def G2(files:List (List Str)):List Str:=files.flatten.foldl O0 []
def I4(names:List Str)(a:List Str):List Int:=a.map (fun s=>N3 names s 0)
theorem rL(a:List Str)(s:Str):(O0 a s).length<=a.length+1:=by unfold O0;split<;>simp
theorem nJ(l a:List Str):(l.foldl O0 a).length<=a.length+l.length:=by
 induction l generalizing a with
 | nil=>simp
 | cons s r b=>have c:=b (O0 a s);have d:=rL a s;simp only[A70,A34];omega
theorem wN(a:List (List Str)):(G2 a).length<=a.flatten.length:=by have:=nJ a.flatten [];simpa[G2] using this
def Z7(i j:Int):List Span->Int->Int->List Change
 | [],m,n=>if m>i\/n>j then [⟨i,m-i,j,n-j⟩] else []
 | x::r,m,n=>(if x.From>i\/x.To>j then [⟨i,x.From-i,j,x.To-j⟩] else [])++Z7 (x.From+1) (x.To+1) r m n
def kA(p:List Span)(m n:Int):List Change:=Z7 0 0 p m n
theorem zQ(p:List Span)(i j m n:Int):(Z7 i j p m n).length<=p.length+1:=by
 induction p generalizing i j with
 | nil=>unfold Z7;split<;>simp
 | cons x r a=>unfold Z7;have:=a (x.From+1) (x.To+1);split<;>simp<;>omega
def P0(i j:Int)(n:Nat):List Span:=(List.range n).map fun (t:Nat)=>⟨i+(t:Int),j+(t:Int)⟩
theorem j1(i j:Int)(n:Nat):(P0 i j n).length=n:=by simp[P0]
theorem EE(i j:Int)(n:Nat):P0 i j (n+1)=⟨i,j⟩::P0 (i+1) (j+1) n:=by
 unfold P0;rw[List.range_succ_eq_map,A49,A76]
 congr 1
 ·simp
 ·refine List.map_congr_left fun t _=>?_;simp only[Function.comp,Span.mk.injEq];omega
def X0(i j:Int):List Change->Int->List Span
 | [],m=>P0 i j (m-i).toNat
 | c::r,m=>P0 i j (c.Old-i).toNat++X0 (max i c.Old+c.OldLen) (j+(c.Old-i).toNat+c.NewLen) r m
def Z3(l:List Change)(m:Int):List Span:=X0 0 0 l m
def dist:List Int->List Int->Nat
 | [],b=>b.length
 | x::a,[]=>(x::a).length
 | x::a,y::b=>if x=y then dist a b else 1+min (dist a (y::b)) (dist (x::a) b)
theorem oY(a:List Int):dist a []=a.length:=by cases a<;>simp[dist]
theorem EF(a b:List Int):dist a b<=a.length+b.length:=by
 induction a generalizing b with
 | nil=>simp[dist]
 | cons x a c =>
  induction b with
  | nil=>simp[dist]
  | cons y b d =>
   unfold dist;split
   ·have:=c b;simp;omega
   ·have:=c (y::b);have:=d;simp only[A34]at *;omega
def M3(i j:Int):List Int->List Int->List Span
 | [],_=>[]
 | _::_,[]=>[]
 | x::a,y::b=>if x=y then ⟨i,j⟩::M3 (i+1) (j+1) a b else if dist a (y::b)+1=dist (x::a) (y::b) then M3 (i+1) j a (y::b) else M3 i (j+1) (x::a) b
def rM(a b:List Int):List Change:=kA (M3 0 0 a b) a.length b.length
theorem RQ(a b:List Int)(i j:Nat)(c:i<a.length)(d:j<b.length) :
  dist (a.drop i) (b.drop j)=if a[i]=b[j] then dist (a.drop (i+1)) (b.drop (j+1)) else 1+min (dist (a.drop (i+1)) (b.drop j)) (dist (a.drop i) (b.drop (j+1))):=by
 rw[A41 c,A41 d]
 conv=>lhs;rw[dist]
theorem sR(a b:List Int)(i j:Nat)(c:i<a.length)(d:j<b.length)(p q:Int) :
  M3 p q (a.drop i) (b.drop j)=if a[i]=b[j] then ⟨p,q⟩::M3 (p+1) (q+1) (a.drop (i+1)) (b.drop (j+1)) else
   if dist (a.drop (i+1)) (b.drop j)+1=dist (a.drop i) (b.drop j) then M3 (p+1) q (a.drop (i+1)) (b.drop j) else M3 p (q+1) (a.drop i) (b.drop (j+1)):=by
 rw[A41 c,A41 d]
 conv=>lhs;rw[M3]
theorem r9(p q:Int)(b:List Int):M3 p q [] b=[]:=by simp[M3]
theorem bA(p q:Int)(a:List Int):M3 p q a []=[]:=by cases a<;>simp[M3]
theorem mM(p q:Int)(a b:List Int):(M3 p q a b).length<=a.length:=by
 induction a generalizing p q b with
 | nil=>simp[M3]
 | cons x a c =>
  induction b generalizing p q with
  | nil=>simp[M3]
  | cons y b d =>
   unfold M3;split
   ·have:=c (p+1) (q+1) b;simp;omega
   ·split
    ·have:=c (p+1) q (y::b);simp;omega
    ·exact d p (q+1)
universe u
theorem BM{α:Type u}(n k:Nat)(f g:Nat->α)(v:α)(i:k<n->g k=v)(h:∀q,q<n->q≠k->g q=f q):((List.range n).map f).set k v=(List.range n).map g:=by
 refine List.ext_getElem (by simp) fun q j d=>?_;have c:q<n:=by simpa using d
 rw[List.getElem_set];by_cases b:k=q
 ·subst b;simp[i c]
 ·rw[A5 b];simp[h q c (Ne.symm b)]
theorem RR{α:Type u}(n k:Nat)(f:Nat->α)(h:k<n):((List.range n).map f)[k]?=some (f k):=by simp[h]
theorem rN(l:List Change)(i j m:Int)(q:0<=i)(B:Nat)(s:m<=B)(b:∀c∈l,c.Old<=B/\0<=c.OldLen):((X0 i j l m).length:Int)<=max 0 (B-i):=by
 induction l generalizing i j with
 | nil=>simp only[X0,j1];omega
 | cons c r k =>
  have p:=b c (List.mem_cons_self ..);have:=k (max i c.Old+c.OldLen) (j+(c.Old-i).toNat+c.NewLen) (by omega) (fun d f=>b d (List.mem_cons_of_mem _ f));simp only[X0,A35,j1];omega
theorem cK(i j:Int):P0 i j 0=[]:=rfl
theorem oZ(i j:Int)(n:Nat):P0 i j (n+1)=P0 i j n++[⟨i+n,j+n⟩]:=by simp[P0,A84]
def Asc(m n:Int):Int->Int->List Span->Prop
 | i,j,[]=>i<=m/\j<=n
 | i,j,x::r=>i<=x.From/\j<=x.To/\Asc m n (x.From+1) (x.To+1) r
theorem Asc.le{m n:Int}:∀{p:List Span} {i j:Int},Asc m n i j p->i<=m/\j<=n
 | [],i,j,h=>h
 | x::r,i,j,h=>by have:=Asc.le h.2.2;have:=h.1;have:=h.2.1;omega
theorem Asc.weaken{m n:Int}{p:List Span}{i j i' j':Int}(h:Asc m n i j p)(a:i'<=i)(b:j'<=j):Asc m n i' j' p:=by
 cases p with
 | nil=>exact⟨by have:=h.1;omega,by have:=h.2;omega⟩
 | cons x r=>exact⟨by have:=h.1;omega,by have:=h.2.1;omega,h.2.2⟩
theorem wO(a b:List Int):∀(p q:Int),Asc (p+a.length) (q+b.length) p q (M3 p q a b):=by
 induction a generalizing b with
 | nil=>intro p q;rw[r9];simp only[Asc,A38];omega
 | cons x a c =>
  induction b with
  | nil=>intro p q;rw[bA];simp only[Asc,A38];omega
  | cons y b d =>
   intro p q;rw[M3];split
   ·have:=c b (p+1) (q+1);refine⟨Int.le_refl _,Int.le_refl _,?_⟩;simp only[A34]
    rwa[show p+((a.length+1:Nat):Int)=p+1+a.length by omega,show q+((b.length+1:Nat):Int)=q+1+b.length by omega]
   ·split
    ·have:=(c (y::b) (p+1) q).weaken (i':=p) (j':=q) (by omega) (Int.le_refl _)
     rwa[show p+((x::a).length:Int)=p+1+a.length by simp;omega]
    ·have:=(d p (q+1)).weaken (i':=p) (j':=q) (Int.le_refl _) (by omega)
     rwa[show q+((y::b).length:Int)=q+1+b.length by simp;omega]
theorem Asc.made{m n:Int}:∀{p:List Span} {i j:Int},Asc m n i j p->∀c∈Z7 i j p m n,i<=c.Old/\j<=c.New/\0<=c.OldLen/\0<=c.NewLen/\c.Old+c.OldLen<=m/\c.New+c.NewLen<=n
 | [],i,j,h,c,a=>by
  unfold Z7 at a;split at a
  ·simp only[List.mem_singleton]at a;subst a;have:=h.1;have:=h.2;simp only;omega
  ·cases a
 | x::r,i,j,h,c,a=>by
  unfold Z7 at a;obtain⟨d,e,b⟩:=h;have f:=b.le;rcases A40.1 a with a | a
  ·split at a
   ·simp only[List.mem_singleton]at a;subst a;simp only;omega
   ·cases a
  ·have:=Asc.made b c a;omega
def bitAt(m:Int)(c:Nat):Bool:=m / 2 ^ c % 2 == 1
def visB(r:Row)(c:Int):Bool:=if c = -1 then !r.Lost else if c < -1\/32<=c then false else bitAt r.Marks c.toNat == r.Lost
def colOf(b:List Row)(c:Int):List Str:=(b.filter (visB · c)).map (·.Text)
def ZN(n:Nat)(r:Row):Bool:=r.Marks / 2 ^ n == 0&&!(r.Lost&&r.Marks == 0)
theorem ZO(m c:Int)(b:Nat)(a:0<=c/\c<=b):m.fdiv (2 ^ (min c.toNat b))=m / 2 ^ c.toNat:=by
 rw[show min c.toNat b=c.toNat by omega,Int.fdiv_eq_ediv_of_nonneg _ (Int.pow_nonneg (by decide))]
abbrev Loom:=List Int×(Nat->List (List Int))
structure LoomOk (Q:Int->Prop) (B lines n:Nat) (s:Loom):Prop where
 len:s.1.length=lines
 marks:∀m∈s.1,0<=m/\m<4294967296
 gaps:∀k,(s.2 k).length=n/\∀x∈s.2 k,x.length<=B/\∀v∈x,Q v
theorem wP(l:List Str)(s:Str):∀k:Int,0<=k->s∈l->k<=N3 l s k/\N3 l s k<k+l.length:=by
 induction l with
 | nil=>intro k _ h;cases h
 | cons x r b =>
  intro k c h;unfold N3;by_cases a:x=s
  ·rw[A4 a];simp;omega
  ·rw[A5 a];have:=b (k+1) (by omega) (by rcases A39.1 h with rfl | h;exact absurd rfl a;exact h);simp only[A34];omega
theorem tQ(l:List Str):∀(a:List Str) (s:Str),s∈a\/s∈l->s∈l.foldl O0 a:=by
 induction l with
 | nil=>intro a s h;rcases h with h | h;exact h;cases h
 | cons x r b =>
  intro a s h;apply b;rcases h with h | h
  ·left;unfold O0;split;exact h;exact List.mem_append_left _ h
  ·rcases A39.1 h with rfl | h
   ·left;unfold O0;split;assumption;simp
   ·exact .inr h
theorem w7(a:List (List Str))(s:Str)(f:List Str)(b:f∈a)(hs:s∈f):s∈G2 a:=tQ _ _ _ (.inr (List.mem_flatten.2 ⟨f,b,hs⟩))
theorem pA(s:Str):Lib.hasSuffix s [10]=ended s:=by
 unfold Lib.hasSuffix ended;rw[Bool.eq_iff_iff,List.isSuffixOf_iff_suffix,beq_iff_eq];constructor
 ·rintro⟨t,rfl⟩;simp
 ·intro h;obtain⟨a,b⟩:=List.getLast?_eq_some_iff.1 h;exact⟨a,b.symm⟩
def iD(s:Str):Str:=if ended s then s.dropLast else s
theorem mN(s:Str):Lib.trimSuffix s [10]=iD s:=by
 unfold Lib.trimSuffix iD;rw[pA,List.dropLast_eq_take];rfl
theorem U6(c:UInt8):∀l:Str,(c∉l/\Lib.indexByte l c = -1)\/∃a b,l=a++c::b/\c∉a/\Lib.indexByte l c=a.length
 | []=>.inl ⟨by simp,rfl⟩
 | x::l=>by
  unfold Lib.indexByte;by_cases d:x=c
  ·exact .inr ⟨[],l,by rw[d];rfl,by simp,by simp[d]⟩
  ·rcases U6 c l with ⟨e,f⟩ | ⟨a,b,e,f,h3⟩
   ·exact .inl ⟨by simp[e,Ne.symm d],by simp[d,f]⟩
   ·refine .inr ⟨x::a,b,by rw[e];rfl,by simp[f,Ne.symm d],?_⟩;have g:¬((a.length:Int) = -1):=by omega
    simp[d,h3,g]
theorem fH(c:UInt8)(l:Str):0<=Lib.indexByte l c↔c∈l:=by
 rcases U6 c l with ⟨d,e⟩ | ⟨a,b,d,e,h3⟩
 ·rw[e];simp[d]
 ·rw[h3,d];simp
theorem EG(a b:Str)(c:UInt8)(h:b≠[]):c∈(a++c::b).dropLast:=by
 rw[List.dropLast_append_of_ne_nil (by simp),List.dropLast_cons_of_ne_nil h];simp
theorem tR(l:Str):(0<=Lib.indexByte l 10/\Lib.indexByte l 10<(l.length:Int)-1)↔10∈l.dropLast:=by
 rcases U6 10 l with ⟨c,d⟩ | ⟨a,b,c,d,h3⟩
 ·rw[d];have:10∉l.dropLast:=fun h=>c (List.dropLast_subset l h);simp[this]
 ·rw[h3];by_cases hb:b=[]
  ·subst hb;have e:l.dropLast=a:=by rw[c];simp
   rw[e,c];simp[d]
  ·have f:=EG a b 10 hb;rw[<-c]at f;have g:0<b.length:=List.length_pos_iff.2 hb;simp only[f,iff_true];rw[c];simp only[A35,A34];omega
theorem iE(s:Str):N0 s=true↔s≠[]/\10∉s.dropLast:=by
 unfold N0;rw[A33,List.all_eq_true];constructor
 ·rintro⟨a,b⟩;exact⟨by simpa using b,fun h=>by have:=a 10 h;simp at this⟩
 ·rintro⟨a,b⟩;exact⟨fun x c=>by simpa using fun e:x=10=>b (e ▸ c),by simpa using a⟩
theorem VP(s:Str):10∈iD s↔10∈s.dropLast:=by
 unfold iD;split
 ·exact Iff.rfl
 ·rename_i h;by_cases hs:s=[]
  ·subst hs;simp
  ·constructor
   ·intro a;have e:=(List.dropLast_concat_getLast hs).symm;rw[e]at a;rcases A40.1 a with b | b
    ·exact b
    ·exfalso;refine h ?_;unfold ended;rw[List.getLast?_eq_some_getLast hs];simp at b;simp[<-b]
   ·exact fun a=>List.dropLast_subset s a
theorem RS(s:Str):(if decide (s≠[])=true then !decide (0<=Lib.indexByte (iD s) 10) else false)=N0 s:=by
 rw[Bool.eq_iff_iff,iE];have h:=VP s;have a:=fH 10 (iD s);by_cases hs:s=[]
 ·simp[hs]
 ·simp[hs,a,h]
theorem RT(s:Str)(h:N0 s=true):ended s=true↔0<=Lib.indexByte s 10:=by
 obtain⟨b,c⟩:=(iE s).1 h;rw[fH];have e:=(List.dropLast_concat_getLast b).symm;unfold ended;rw[List.getLast?_eq_some_getLast b];constructor
 ·intro a;have:s.getLast b=10:=by simpa using a
  rw[<-this];exact List.getLast_mem b
 ·intro a;rw[e]at a;rcases A40.1 a with a | a
  ·exact absurd a c
  ·simp at a;simp[<-a]
def EH(l:Str)(last:Bool):Prop:=l=[]\/(0<=Lib.indexByte l 10/\Lib.indexByte l 10<(l.length:Int)-1)\/(Lib.indexByte l 10<0/\last=false)
theorem IB(l:Str)(r:List Str):EH l r.isEmpty↔(N0 l&&(r.isEmpty||ended l))=false:=by
 unfold EH;rw[tR];by_cases a:N0 l=true
 ·obtain⟨b,c⟩:=(iE l).1 a;have e:=RT l a;cases g:r.isEmpty
  ·cases d:ended l
   ·have:¬0<=Lib.indexByte l 10:=fun h=>by rw[e.2 h]at d;cases d
    simp[a,b,c];omega
   ·have:=e.1 d;simp[a,b,c];omega
  ·simp[a,b,c]
 ·have:l=[]\/10∈l.dropLast:=by
   by_cases b:l=[]
   ·exact .inl b
   ·exact .inr (Classical.byContradiction fun c=>a ((iE l).2 ⟨b,c⟩))
  have f:N0 l=false:=by simpa using a
  rw[f];constructor
  ·intro _;rfl
  ·intro _;rcases this with h | h
   ·exact .inl h
   ·exact .inr (.inl h)
theorem IC(s:Str)(r:List Str):aZ (s::r)=(N0 s&&(r.isEmpty||ended s)&&aZ r):=rfl
theorem ID(l:List Str):Lib.join l []=l.flatten:=by
 induction l with
 | nil=>rfl
 | cons s r a =>
  cases r with
  | nil=>simp[Lib.join]
  | cons t r =>
   have e:List.intersperse ([]:Str) (s::t::r)=s::[]::List.intersperse [] (t::r):=rfl;simp only[Lib.join,List.intercalate,e,A62,A61]at a ⊢;rw[a]
def and32(a b:Int):Int:=IntKind.u32.wrap ((BitVec.ofInt IntKind.u32.bits a &&& BitVec.ofInt IntKind.u32.bits b).toNat:Int)
def not32(a:Int):Int:=IntKind.u32.wrap ((BitVec.ofInt IntKind.u32.bits IntKind.u32.max ^^^ BitVec.ofInt IntKind.u32.bits a).toNat:Int)
def inOf(r:Row):Int:=if r.Lost then r.Marks else not32 r.Marks
def addOk(b:Bool)(a:Int)(r:Row):Bool:=decide (and32 a (inOf r)=0)&&(r.Lost||!b)
structure EndsAt (res:Bool) (par:Int) (bad:Int->Bool):Prop where
 res:res=bad (-1)
 par:∃p:Nat,p<4294967296/\par=p/\∀c:Nat,c<32->p.testBit c=bad c
def L8(c:UInt8):Bool:=decide (33<=c.toNat/\c.toNat<=126/\c.toNat≠34/\c.toNat≠92)
def digs8:Str:=[48,49,50,51,52,53,54,55]
def digs10:Str:=[48,49,50,51,52,53,54,55,56,57]
def BN(c:UInt8):Str:=(digs8.drop (c.toNat / 64)).take 1++(digs8.drop (c.toNat / 8 % 8)).take 1++(digs8.drop (c.toNat % 8)).take 1
def X1(c:UInt8):Str:=if c.toNat=34\/c.toNat=92 then [92,c] else if c.toNat=10 then [92,110] else if c.toNat=9 then [92,116] else if c.toNat<32\/126<c.toNat then 92::BN c else [c]
def L9(s:Str):Str:=if s≠[]/\s.all L8=true then s else 34::((s.map X1).flatten++[34])
theorem RU(c:UInt8):(BN c).length<=3:=by unfold BN;simp only[A35,A42];omega
theorem BO(c:UInt8):(X1 c).length<=4:=by
 have:=RU c;unfold X1;split
 ·simp
 ·split
  ·simp
  ·split
   ·simp
   ·split
    ·simp only[A34];omega
    ·simp
theorem pB(s:Str):((s.map X1).flatten).length<=4*s.length:=by
 induction s with
 | nil=>simp
 | cons c r b=>have:=BO c;simp only[A49,A62,A35,A34];omega
theorem bV(s:Str):(L9 s).length<=4*s.length+2:=by
 unfold L9;have:=pB s;split
 ·omega
 ·simp only[A34,A35,A38];omega
def M6(n:Int):Str:=if n<0\/2147483647<n then [] else Lib.itoa n
def J7(a n:Int):Str:=if a<0\/n<0\/2147483647<a\/2147483647-a<n then [] else if n=0 then M6 a++[44,48] else if n=1 then M6 (a+1) else M6 (a+1)++[44]++M6 n
theorem mO:∀(k u:Nat),u<10 ^ (k+1)->(Lib.decDigits u).length<=k+1
 | 0,u,h=>by rw[Lib.decDigits,dif_pos (by omega)];simp
 | k+1,u,h=>by
  rw[Lib.decDigits];split
  ·simp
  ·have:=mO k (u / 10) (by rw[Nat.div_lt_iff_lt_mul (by omega)];rw[Nat.pow_succ]at h;omega);simp only[A35,A34,A38];omega
theorem Z4(n:Int):(M6 n).length<=10:=by
 unfold M6;split
 ·simp
 ·unfold Lib.itoa;rw[A5 (by omega)];exact mO 9 n.toNat (by omega)
theorem eJ(a n:Int):(J7 a n).length<=21:=by
 have:=Z4 a;have:=Z4 (a+1);have:=Z4 n;unfold J7;split
 ·simp
 ·split
  ·simp only[A35,A34,A38];omega
  ·split
   ·omega
   ·simp only[A35,A34,A38];omega
theorem dig10(k:Nat)(h:k<10):(digs10.drop k).take 1=[UInt8.ofNat (48+k)]:=by
 have:∀k:Fin 10,(digs10.drop k.1).take 1=[UInt8.ofNat (48+k.1)]:=by decide
 exact this ⟨k,h⟩
theorem RV(n:Int)(b:0<=n)(h:n<10):M6 n=(digs10.drop n.toNat).take 1:=by
 unfold M6 Lib.itoa;rw[A5 (by omega),A5 (by omega),dig10 _ (by omega),Lib.decDigits,dif_pos (by omega)]
theorem ZP(k:Nat)(h:k<8):(digs8.drop k).take 1=[UInt8.ofNat (48+k)]:=by
 have:∀k:Fin 8,(digs8.drop k.1).take 1=[UInt8.ofNat (48+k.1)]:=by decide
 exact this ⟨k,h⟩
theorem eK(c:UInt8):BN c=[UInt8.ofNat (48+c.toNat / 64),UInt8.ofNat (48+c.toNat / 8 % 8),UInt8.ofNat (48+c.toNat % 8)]:=by
 have:=c.toNat_lt;unfold BN;rw[ZP _ (by omega),ZP _ (by omega),ZP _ (by omega)];rfl
def escs(s:Str)(i:Nat):Str:=((s.take i).map X1).flatten
theorem RW(s:Str)(i:Nat)(h:i<s.length):escs s (i+1)=escs s i++X1 s[i]:=by
 unfold escs;rw[A55 h,A63,A58];simp only[A49,A88,A62,List.flatten_nil,A71]
theorem VQ(s:Str)(i:Nat)(h:i<=s.length):(escs s i).length<=4*i:=by
 have:=pB (s.take i);unfold escs;rw[A42]at this;omega
def plains(s:Str)(i:Nat):Bool:=decide (s≠[])&&(s.take i).all L8
theorem IE(s:Str):plains s 0=decide (s≠[]):=by simp[plains]
theorem IF(s:Str)(i:Nat)(h:i<s.length):plains s (i+1)=(plains s i&&L8 s[i]):=by
 unfold plains;rw[A55 h,A85];simp only[List.all_cons,List.all_nil,Bool.and_true,Bool.and_assoc]
theorem wQ(s:Str):L9 s=if plains s s.length=true then s else (34::escs s s.length)++[34]:=by
 unfold L9 plains escs;rw[A44];simp only[A33,decide_eq_true_eq,A57]
structure File where
 Path:Str
 Blob:Str
 deriving DecidableEq
structure Delta where
 Path:Str
 Kind:Int
 deriving DecidableEq
structure Commit where
 Parents:List Int
 Date:Int
 Files:List File
 deriving DecidableEq
def l9:File->Nat->Cell:=fun f j=>match j with
 | 0=>.v (.string ⟨f.Path.toArray⟩)
 | _=>.v (.string ⟨f.Blob.toArray⟩)
def J3:Commit->Nat->Cell:=fun c j=>match j with
 | 0=>.list Int 1 H1 c.Parents
 | 1=>.v (.int .i64 c.Date)
 | _=>.list File 2 l9 c.Files
abbrev OQ(f:File):PV:=.agg [.v (.string ⟨f.Path.toArray⟩),.v (.string ⟨f.Blob.toArray⟩)]
abbrev pC(c:Commit):PV:=.agg [.list Int 1 H1 c.Parents,.v (.int .i64 c.Date),.list File 2 l9 c.Files]
abbrev cE(l:List File):PV:=.one (.list File 2 l9 l)
abbrev I1(l:List Commit):PV:=.one (.list Commit 3 J3 l)
theorem sS(a b:Bool):(if a=true then b else false)=(a&&b):=by cases a<;>rfl
theorem ifOr(a b:Bool):(if a=true then true else b)=(a||b):=by cases a<;>rfl
abbrev tS(a b:Str):Bool:=Op.bytesLess a b
theorem OS(a:Str):tS a []=false:=by cases a<;>rfl
theorem pD(a b:UInt8)(x y:Str):tS (a::x) (b::y)=(decide (a<b)||(a == b&&tS x y)):=rfl
theorem nK:∀a:Str,tS a a=false
 | []=>rfl
 | c::r=>by
  rw[pD,nK r];have:¬c<c:=by rw[UInt8.lt_iff_toNat_lt];omega
  simp[this]
theorem rO:∀{a b c:Str},tS a b=true->tS b c=true->tS a c=true
 | _,[],_,h,_=>by rw[OS]at h;cases h
 | _,_::_,[],_,h=>by rw[OS]at h;cases h
 | [],_::_,_::_,_,_=>rfl
 | a::x,b::y,c::z,e,d=>by
  rw[pD,A59,A33,decide_eq_true_eq,UInt8.lt_iff_toNat_lt,beq_iff_eq]at e d;rw[pD,A59,A33,decide_eq_true_eq,UInt8.lt_iff_toNat_lt,beq_iff_eq];rcases e with e | ⟨rfl,e⟩
  ·rcases d with d | ⟨rfl,d⟩
   ·left;omega
   ·left;omega
  ·rcases d with d | ⟨rfl,d⟩
   ·left;omega
   ·right;exact⟨rfl,rO e d⟩
theorem RX{a b:Str}(h:tS a b=true):tS b a=false:=by
 cases c:tS b a
 ·rfl
 ·have:=rO h c;rw[nK]at this;cases this
theorem OT:∀(a:Str) (c:UInt8) (t:Str),tS a (a++c::t)=true
 | [],_,_=>rfl
 | x::r,c,t=>by rw[A57,pD,OT r c t];simp
def U0(s:Str):Bool:=decide (s≠[]/\s≠[46]/\s≠[46,46])
def L2(a:Str):Str->List Str
 | []=>[a]
 | c::r=>if c=47 then a::L2 [] r else L2 (a++[c]) r
def RY(a:Str):Str->Bool
 | []=>U0 a
 | c::r=>if c=0 then false else if c=47 then U0 a&&RY [] r else RY (a++[c]) r
def w8(p:Str):Int:=if p.length<1\/p.length>200\/RY [] p=false then 210 else 0
theorem nL:∀(s b:Str),RY b s=(!s.contains 0&&(L2 b s).all U0)
 | [],b=>by simp[RY,L2]
 | c::r,b=>by
  rw[RY,L2];by_cases d:c=0
  ·subst d;simp
  ·rw[A5 d];have f:(c::r).contains 0=r.contains 0:=by
    rw[List.contains_cons];have:((0:UInt8) == c)=false:=by simpa using fun e=>d e.symm
    rw[this,Bool.false_or]
   rw[f];split
   ·rw[nL r [],List.all_cons];cases U0 b<;>cases r.contains 0<;>rfl
   ·rw[nL r]
theorem EI(p:Str):w8 p=if p.length>200\/p.contains 0=true then 210 else if (L2 [] p).all U0=true then 0 else 210:=by
 unfold w8;rw[nL];by_cases b:p.length>200
 ·rw[A4 (.inr (.inl b)),A4 (.inl b)]
 ·cases d:p.contains 0
  ·rw[A5 (show ¬(p.length>200\/false=true) by simp[b])];cases c:(L2 [] p).all U0
   ·simp
   ·have:¬p.length<1:=by
     intro h;have:p=[]:=List.length_eq_zero_iff.1 (by omega);subst this;simp[L2,U0]at c
    rw[A5 (fun h=>by
     rcases h with h | h | h
     ·exact this h
     ·exact b h
     ·cases h)];rfl
  ·rw[A4 (show p.length>200\/true=true from .inr rfl),A4 (.inr (.inr (by simp)))]
def above(a b:Str):Bool:=decide (b.length>a.length/\b.take a.length=a/\b[a.length]?=some 47)
theorem VR{a b:Str}(h:above a b=true):tS a b=true:=by
 obtain⟨c,f,d⟩:=A0 h;have e:b=a++47::b.drop (a.length+1):=by
  conv=>lhs;rw[<-A68 a.length b,f]
  rw[A41 c];rw[A32 c]at d;rw[Option.some.inj d]
 rw[e];exact OT _ _ _
def l6:List File->Bool
 | []=>true
 | f::r=>r.all (fun x=>tS f.Path x.Path&&!above f.Path x.Path)&&l6 r
def L5(l:List File):Int:=if l.length>200 then 1 else if l.any (fun f=>decide (w8 f.Path≠0))=true then 210 else if l6 l=false then 211 else if l.any (fun f=>decide (l5 f.Blob≠0))=true then 1 else 0
def S3(p:Str)(ps:List Str):Bool:=(List.range p.length).any fun i=>decide (p.take i∈ps)&&decide (p[i]?=some 47)
def ascend:List File->Bool
 | []=>true
 | [_]=>true
 | f::g::r=>tS f.Path g.Path&&ascend (g::r)
def bW(l:List File):Bool:=ascend l&&l.all fun f=>!S3 f.Path (l.map (·.Path))
theorem wR(p:Str)(ps:List Str):S3 p ps=true↔∃a∈ps,above a p=true:=by
 unfold S3;rw[List.any_eq_true];constructor
 ·rintro⟨i,k,h⟩;rw[A33,decide_eq_true_eq,decide_eq_true_eq]at h;have c:i<p.length:=A46.1 k;have b:(p.take i).length=i:=by rw[A42];omega
  exact⟨_,h.1,A2 ⟨by rw[b];exact c,by rw[b],by rw[b];exact h.2⟩⟩
 ·rintro⟨a,ha,h⟩;obtain⟨d,f,j⟩:=A0 h;exact⟨a.length,A46.2 d,by rw[A33,decide_eq_true_eq,decide_eq_true_eq,f];exact⟨ha,j⟩⟩
theorem eL:∀{f:File} {r:List File},ascend (f::r)=true->∀x∈r,tS f.Path x.Path=true
 | _,[],_,_,hx=>by cases hx
 | f,g::r,h,x,hx=>by
  unfold ascend at h;rw[A33]at h;rcases A39.1 hx with rfl | hx
  ·exact h.1
  ·exact rO h.1 (eL h.2 x hx)
theorem sT{f:File}{r:List File}(h:ascend (f::r)=true):ascend r=true:=by
 cases r with
 | nil=>rfl
 | cons g r=>unfold ascend at h;rw[A33]at h;exact h.2
theorem aH:∀{l:List File},l6 l=true->ascend l=true
 | [],_=>rfl
 | [_],_=>rfl
 | f::g::r,h=>by
  unfold l6 at h;rw[A33,List.all_eq_true]at h;have a:=h.1 g (by simp);rw[A33]at a;unfold ascend;rw[a.1,aH h.2];rfl
theorem mP:∀{l:List File},l6 l=true->∀x∈l,∀y∈l,above x.Path y.Path=false
 | [],_,x,hx,_,_=>by cases hx
 | f::r,h,x,hx,y,hy=>by
  have ha:=aH h;unfold l6 at h;rw[A33,List.all_eq_true]at h;cases a:above x.Path y.Path
  ·rfl
  have b:=VR a;rcases A39.1 hx with rfl | hx0
  ·rcases A39.1 hy with rfl | hy
   ·rw[nK]at b;cases b
   ·have:=h.1 y hy;rw[a,Bool.not_true,Bool.and_false]at this;cases this
  ·have c:=hx0;rcases A39.1 hy with d | hy2
   ·have:=eL ha x c;rw[<-d,RX b]at this;cases this
   ·rw[mP h.2 x c y hy2]at a;cases a
theorem nM:∀{l:List File},ascend l=true->(∀x∈l,∀y∈l,above x.Path y.Path=false)->l6 l=true
 | [],_,_=>rfl
 | f::r,h,ha=>by
  unfold l6;rw[A33,List.all_eq_true];refine⟨fun x a=>?_,nM (sT h) fun x a y b=>ha x (by simp[a]) y (by simp[b])⟩;rw[eL h x a,ha f (by simp) x (by simp[a])];rfl
theorem MX(l:List File):bW l=l6 l:=by
 cases h:l6 l
 ·cases c:bW l
  ·rfl
  unfold bW at c;rw[A33,List.all_eq_true]at c;have:l6 l=true:=nM c.1 fun x d y e=>by
   cases b:above x.Path y.Path
   ·rfl
   have f:=c.2 y e;rw[(wR _ _).2 ⟨x.Path,List.mem_map_of_mem d,b⟩]at f;cases f
  rw[this]at h;cases h
 ·unfold bW;rw[A33,List.all_eq_true];refine⟨aH h,fun y e=>?_⟩;cases g:S3 y.Path (l.map (·.Path))
  ·rfl
  obtain⟨a,ha,b⟩:=(wR _ _).1 g;obtain⟨x,d,rfl⟩:=A65.1 ha;rw[mP h x d y e]at b;cases b
def O7:List File->Str->Option Str
 | [],_=>none
 | f::r,p=>if f.Path=p then some f.Blob else O7 r p
abbrev AscS(l:List Str):Prop:=l.Pairwise fun x y=>tS x y=true
theorem wS:∀{l:List File} {p x:Str},O7 l p=some x->∃f∈l,f.Path=p/\f.Blob=x
 | [],_,_,h=>by cases h
 | f::r,p,x,h=>by
  unfold O7 at h;split at h
  ·rename_i e;exact⟨f,by simp,e,Option.some.inj h⟩
  ·obtain⟨g,b,a⟩:=wS h;exact⟨g,by simp[b],a⟩
theorem MY{p:Str}:∀{l:List File},O7 l p=none↔p∉l.map (·.Path)
 | []=>by simp[O7]
 | f::r=>by
  unfold O7;split
  ·rename_i e;simp[e]
  ·rename_i e;rw[MY (l:=r),A49,A39,not_or];exact⟨fun h=>⟨fun b=>e b.symm,h⟩,fun h=>h.2⟩
theorem zR{l:List File}(h:L5 l=0):ascend l=true/\l.length<=200/\(∀f∈l,l5 f.Blob=0)/\∀f∈l,w8 f.Path=0:=by
 unfold L5 at h;split at h
 ·cases h
 ·rename_i g;split at h
  ·cases h
  ·rename_i b;split at h
   ·cases h
   ·rename_i c;split at h
    ·cases h
    ·rename_i d;refine⟨aH (by simpa using c),by omega,fun f a=>?_,fun f a=>?_⟩
     ·have:=fun e=>d (List.any_eq_true.2 ⟨f,a,e⟩);simpa using this
     ·have:=fun e=>b (List.any_eq_true.2 ⟨f,a,e⟩);simpa using this
def Q0(a:Str):Str->List Str
 | []=>[a]
 | c::r=>if c=10 then (a++[c])::Q0 [] r else Q0 (a++[c]) r
def S6(b:Str):List Str:=Q0 [] b
theorem zS(a b:Str)(h:(10:UInt8)∉a):Q0 b a=[b++a]:=by
 induction a generalizing b with
 | nil=>simp[Q0]
 | cons c r d =>
  simp only[A39,not_or]at h;rw[Q0,A5 (fun e=>h.1 e.symm),d _ h.2];simp
theorem EJ(a b d:Str)(h:(10:UInt8)∉a):Q0 d (a++10::b)=(d++a++[10])::Q0 [] b:=by
 induction a generalizing d with
 | nil=>simp[Q0]
 | cons c r f =>
  simp only[A39,not_or]at h;rw[A57,Q0,A5 (fun e=>h.1 e.symm),f _ h.2];simp
theorem j2(s a:Str):(Q0 a s).length=s.count 10+1:=by
 induction s generalizing a with
 | nil=>rfl
 | cons c r d =>
  by_cases b:c=10
  ·subst b;rw[Q0,A4 rfl,A34,d,List.count_cons_self]
  ·rw[Q0,A5 b,d,List.count_cons_of_ne b]
theorem IG(s b:Str):H3 b s=if (Q0 b s).getLastD []=[] then (Q0 b s).dropLast else Q0 b s:=by
 induction s generalizing b with
 | nil=>by_cases h:b=[]<;>simp[H3,Q0,h]
 | cons c r j =>
  rw[H3,Q0];by_cases f:c=10
  ·rw[A4 f,A4 f,j];have l:Q0 [] r≠[]:=fun e=>by have:=j2 r [];rw[e]at this;simp at this
   obtain⟨x,y,i⟩:=List.exists_cons_of_ne_nil l;rw[i];have k:((b++[c])::x::y).getLastD []=(x::y).getLastD []:=by cases y<;>simp[List.getLastD]
   rw[k];split
   ·rfl
   ·rfl
  ·rw[A5 f,A5 f,j]
theorem wT(s a:Str):(H3 a s).length=s.count 10+if s=[] then (if a=[] then 0 else 1) else if ended s=true then 0 else 1:=by
 induction s generalizing a with
 | nil=>by_cases h:a=[]<;>simp[H3,h]
 | cons c r i =>
  have j:ended (c::r)=if r=[] then c == 10 else ended r:=by
   cases r with
   | nil=>simp[ended]
   | cons d t=>simp[ended,List.getLast?_cons_cons]
  rw[H3,A5 (List.cons_ne_nil _ _),j];by_cases b:c=10
  ·subst b;rw[A4 rfl,A34,i,List.count_cons_self];by_cases f:r=[]<;>simp[f];omega
  ·rw[A5 b,i,List.count_cons_of_ne b];by_cases f:r=[]<;>simp[f,b]
theorem bJ(s:Str):(E9 s).length=s.count 10+if s≠[]/\ended s=false then 1 else 0:=by
 unfold E9;rw[wT];by_cases hs:s=[]<;>simp[hs];cases ended s<;>simp
theorem MZ{P:List Str}{i:Nat}{r a b:Str}(h:P.drop i=S6 r)(c:r=a++10::b)(ha:(10:UInt8)∉a):P[i]?=some (a++[10])/\P.drop (i+1)=S6 b:=by
 have e:S6 r=(a++[10])::S6 b:=by rw[c];unfold S6;rw[EJ _ _ _ ha];rfl
 rw[e]at h;refine⟨by rw[<-List.head?_drop,h];rfl,?_⟩;rw[<-List.tail_drop,h];rfl
theorem lA{α:Type}(P:List α)(z x:α)(i:Nat)(h:P[i]?=some x):(P.take i++List.replicate (P.length-i) z).set i x=P.take (i+1)++List.replicate (P.length-(i+1)) z:=by
 obtain⟨a,c⟩:=List.getElem?_eq_some_iff.1 h;have b:(P.take i).length=i:=by rw[A42];omega
 rw[List.set_append_right _ _ (by omega),b,A80,show P.length-i=(P.length-(i+1))+1 by omega,List.replicate_succ,List.set_cons_zero,A55 a,c,A45];rfl
def Q1(b:Str):List Str×Int:=if b.length>1048576\/(E9 b).length>4096 then ([],1) else (E9 b,0)
theorem IH(b:Str):(Q1 b).1.length<=4096:=by
 unfold Q1;split
 ·simp
 ·dsimp only;omega
def I9(n:Int):Prop:=0<=n/\n<=4096
instance (n:Int):Decidable (I9 n):=by unfold I9;exact inferInstance
def wU(k:Nat)(i j:Int)(c:Change):Prop:=((((((¬I9 c.Old\/¬I9 c.OldLen)\/¬I9 c.New)\/¬I9 c.NewLen)\/c.OldLen+c.NewLen=0)\/c.Old-i≠c.New-j)\/c.Old<i)\/(0<(k:Int)/\c.Old=i)
instance (k:Nat) (i j:Int) (c:Change):Decidable (wU k i j c):=by unfold wU;exact inferInstance
def L4(k:Nat)(i j:Int):List Change->Int->Int->Bool
 | [],m,n=>decide (¬(m-i≠n-j\/m<i))
 | c::r,m,n=>decide (¬wU k i j c)&&L4 (k+1) (c.Old+c.OldLen) (c.New+c.NewLen) r m n
def n8(l:List Change)(m n:Int):Int:=if ¬I9 m\/¬I9 n then 80 else if L4 0 0 0 l m n=true then 0 else 80
def ScOk(i j:Int):List Change->Int->Int->Prop
 | [],m,n=>i<=m/\j<=n
 | c::r,m,n=>I9 c.Old/\I9 c.OldLen/\I9 c.New/\I9 c.NewLen/\i<=c.Old/\j<=c.New/\ScOk (c.Old+c.OldLen) (c.New+c.NewLen) r m n
theorem w9:∀(l:List Change) (k:Nat) (i j m n:Int),L4 k i j l m n=true->ScOk i j l m n
 | [],k,i,j,m,n,h=>by simp only[L4,decide_eq_true_eq]at h;simp only[ScOk];omega
 | c::r,k,i,j,m,n,h=>by
  simp only[L4,A33,decide_eq_true_eq]at h;obtain⟨a,d⟩:=h;unfold wU at a;refine⟨?_,?_,?_,?_,?_,?_,w9 r _ _ _ m n d⟩
  all_goals (by_cases b:I9 c.Old<;>by_cases a2:I9 c.OldLen<;>by_cases a3:I9 c.New<;>by_cases a4:I9 c.NewLen<;>simp[b,a2,a3,a4]at a ⊢<;>omega)
theorem BP{l:List Change}{m n:Int}(h:n8 l m n=0):I9 m/\I9 n/\ScOk 0 0 l m n:=by
 unfold n8 at h;split at h
 ·omega
 ·rename_i b;split at h
  ·rename_i c;by_cases a:I9 m<;>by_cases a2:I9 n<;>simp[a,a2]at b;exact⟨a,a2,w9 _ _ _ _ _ _ c⟩
  ·omega
def H5(l:List Change)(k:Nat):Change:=l.getD k ⟨0,0,0,0⟩
theorem cL{l:List Change}{k:Nat}(h:k<l.length):l[k]?=some (H5 l k):=by
 unfold H5;rw[A43,A32 h];rfl
theorem ScOk.end_le:∀{l:List Change} {i j m n:Int},ScOk i j l m n->i<=m/\j<=n
 | [],_,_,_,_,h=>h
 | c::r,i,j,m,n,⟨h1,h2,h3,h4,h5,h6,h7⟩=>by have:=h7.end_le;unfold I9 at *;omega
theorem ScOk.get:∀{l:List Change} {i j m n:Int} (k:Nat),ScOk i j l m n->k<l.length->I9 (H5 l k).Old/\I9 (H5 l k).OldLen/\I9 (H5 l k).New/\I9 (H5 l k).NewLen/\(H5 l k).Old+(H5 l k).OldLen<=m/\(H5 l k).New+(H5 l k).NewLen<=n
 | c::r,i,j,m,n,0,⟨h1,h2,h3,h4,h5,h6,h7⟩,_=>by have:=h7.end_le;exact⟨h1,h2,h3,h4,this.1,this.2⟩
 | c::r,i,j,m,n,k+1,⟨h1,h2,h3,h4,h5,h6,h7⟩,hk=>by
  have:=h7.get k (by simpa using hk);simpa[H5] using this
theorem ScOk.next:∀{l:List Change} {i j m n:Int} (k:Nat),ScOk i j l m n->k+1<l.length->(H5 l k).Old+(H5 l k).OldLen<=(H5 l (k+1)).Old
 | [c],_,_,_,_,_,_,hk=>by simp at hk
 | c::c2::r,i,j,m,n,0,⟨_,_,_,_,_,_,h7⟩,_=>by simpa[H5] using h7.2.2.2.2.1
 | c::c2::r,i,j,m,n,k+1,⟨_,_,_,_,_,_,h7⟩,hk=>by
  have:=h7.next k (by simpa using hk);simpa[H5] using this
theorem ScOk.mono{l:List Change}{m n:Int}(h:ScOk 0 0 l m n):∀(a b:Nat),a<=b->b<l.length->(H5 l a).Old<=(H5 l b).Old/\(H5 l a).Old+(H5 l a).OldLen<=(H5 l b).Old+(H5 l b).OldLen
 | a,0,h1,h2=>by rw[show a=0 by omega];omega
 | a,b+1,h1,h2=>by
  by_cases c:a=b+1
  ·subst c;omega
  ·have f:=h.mono a b (by omega) (by omega);have g:=h.next b h2;have i:=h.get b (by omega);have j:=h.get (b+1) h2;unfold I9 at *;omega
def x4(a b:Int):Int:=if b<a then b else a
def opens(l:List Change)(a:Int)(k:Nat):Prop:=k=0\/2*a<(H5 l k).Old-(H5 l (k-1)).Old-(H5 l (k-1)).OldLen
instance (l:List Change) (ctx:Int) (k:Nat):Decidable (opens l ctx k):=by unfold opens;exact inferInstance
def wV:Hunk:=⟨0,0,⟨0,0⟩,⟨0,0⟩⟩
def V3(l:List Change)(a:Int)(k:Nat):Hunk:=⟨k,0,⟨(H5 l k).Old-x4 a (H5 l k).Old,0⟩,⟨(H5 l k).New-x4 a (H5 l k).Old,0⟩⟩
def eM(l:List Change)(m b:Int)(k:Nat)(h:Hunk):Hunk :=
 let c:=H5 l k;let a:=x4 b (m-(c.Old+c.OldLen))
 ⟨h.First,k+1,⟨h.Old.From,c.Old+c.OldLen+a⟩,⟨h.New.From,c.New+c.NewLen+a⟩⟩
def l7(l:List Change)(a:Int)(k:Nat)(b:List Hunk):List Hunk:=if opens l a k then b++[V3 l a k] else b
def I6(l:List Change)(m ctx:Int):Nat->List Hunk
 | 0=>[]
 | k+1=>let a:=l7 l ctx k (I6 l m ctx k);a.set (a.length-1) (eM l m ctx k (a.getD (a.length-1) wV))
def iF(l:List Change)(m n a:Int):List Hunk×Int:=if a<0\/1048576<a then ([],3) else if n8 l m n≠0 then ([],n8 l m n) else (I6 l m a l.length,0)
theorem bX(l:List Change)(m ctx:Int):∀k,(I6 l m ctx k).length<=k/\(0<k->0<(I6 l m ctx k).length)
 | 0=>by simp[I6]
 | k+1=>by
  have h:=bX l m ctx k;simp only[I6,A74,l7];split
  ·simp only[A35,A34,A38];omega
  ·rename_i a;have:k≠0:=fun e=>a (.inl e);omega
def NA(l:List Change)(m:Int)(k:Nat)(h:Hunk):Prop :=
 ∃a b:Nat,h.First=a/\h.Last=(b:Int)+1/\a<=b/\b<k/\0<=h.Old.From/\h.Old.From<=(H5 l a).Old/\(H5 l b).Old+(H5 l b).OldLen<=h.Old.To/\h.Old.To<=m /\ -4096<=h.New.From/\h.New.From<=4096
theorem wW{l:List Change}{m n ctx:Int}(hs:ScOk 0 0 l m n)(P:0<=ctx):∀k,k<=l.length->∀h∈I6 l m ctx k,NA l m k h
 | 0,_,h,hm=>by simp[I6]at hm
 | k + 1,hk,h,hm=>by
  have H:=wW hs P k (by omega);have F:=hs.get k (by omega);have G:=bX l m ctx k;simp only[I6]at hm;obtain⟨c,f⟩:∃c,c=l7 l ctx k (I6 l m ctx k):=⟨_,rfl⟩
  rw[<-f]at hm;have j:∀x,0<=x->0<=x4 ctx x/\x4 ctx x<=x:=fun x hx=>by unfold x4;split<;>omega
  have h1:=j (H5 l k).Old F.1.1;have h2:=j (m-((H5 l k).Old+(H5 l k).OldLen)) (by omega);obtain⟨⟨g1,S⟩,⟨T,U⟩,⟨V,W⟩,⟨X,Y⟩,Z,M⟩:=F;have s:∀o:Hunk,(∃a:Nat,o.First=a/\a<=k/\0<=o.Old.From/\o.Old.From<=(H5 l a).Old /\ -4096<=o.New.From/\o.New.From<=4096)->NA l m (k+1) (eM l m ctx k o):=by
   rintro o ⟨a,I,q,r,v,y,B⟩;refine⟨a,k,I,rfl,q,by omega,r,v,?_,?_,y,B⟩
   ·show _<=(H5 l k).Old+(H5 l k).OldLen+x4 ctx (m-((H5 l k).Old+(H5 l k).OldLen));omega
   ·show (H5 l k).Old+(H5 l k).OldLen+x4 ctx (m-((H5 l k).Old+(H5 l k).OldLen))<=m;omega
  obtain⟨p,E,rfl⟩:=List.getElem_of_mem hm;rw[A74]at E;rw[List.getElem_set];split
  ·rename_i Q;refine s _ ?_;by_cases u:opens l ctx k
   ·have e:c=I6 l m ctx k++[V3 l ctx k]:=by rw[f,l7,A4 u]
    have q:c.getD (c.length-1) wV=V3 l ctx k:=by rw[e];simp
    rw[q];refine⟨k,rfl,Nat.le_refl _,?_,?_,?_,?_⟩
    ·show 0<=(H5 l k).Old-x4 ctx (H5 l k).Old;omega
    ·show (H5 l k).Old-x4 ctx (H5 l k).Old<=_;omega
    ·show -4096<=(H5 l k).New-x4 ctx (H5 l k).Old;omega
    ·show (H5 l k).New-x4 ctx (H5 l k).Old<=_;omega
   ·have e:c=I6 l m ctx k:=by rw[f,l7,A5 u]
    have i:c.length-1<(I6 l m ctx k).length:=by rw[e]at E ⊢;omega
    have q:c.getD (c.length-1) wV∈I6 l m ctx k:=by
     rw[e]at i ⊢;rw[A43,A32 i];exact A37 i
    obtain⟨a,b,r,v,y,B,C,K,R,J,z,A⟩:=H _ q;exact⟨a,r,by omega,C,K,z,A⟩
  ·rename_i Q;have D:c[p]∈I6 l m ctx k:=by
    by_cases u:opens l ctx k
    ·have e:c=I6 l m ctx k++[V3 l ctx k]:=by rw[f,l7,A4 u]
     have i:p<(I6 l m ctx k).length:=by
      have:c.length=(I6 l m ctx k).length+1:=by rw[e];simp
      omega
     have:c[p]=(I6 l m ctx k)[p]:=by simp only[e];rw[A78 i]
     rw[this];exact A37 i
    ·have e:c=I6 l m ctx k:=by rw[f,l7,A5 u]
     have:c[p]∈c:=A37 E;rw[<-e];exact this
   obtain⟨a,b,r,v,y,B,C⟩:=H _ D;exact⟨a,b,r,v,y,by omega,C⟩
def R2(s:Str):Bool:=decide (1<=s.length/\s.length<=200)
def D5(b:List PatchLine)(k:UInt8):List Str:=(b.filter (fun x=>decide (x.Kind≠k))).map (·.Text)
def wX(x:PatchLine):Prop:=((x.Kind≠32/\x.Kind≠45)/\x.Kind≠43)\/N0 x.Text=false
instance (x:PatchLine):Decidable (wX x):=by unfold wX;exact inferInstance
def U1(x:PatchLine):Bool:=decide (¬wX x)
def Z8(a:List PatchLine):Bool:=a.any (fun x=>decide (x.Kind≠32))
def V4(some:Bool)(i j:Int)(h:PatchHunk):Prop:=((((some=false\/h.Old<i)\/h.New<j)\/4096<h.Old)\/4096<h.New)\/h.Old-i≠h.New-j
instance (s:Bool) (i j:Int) (h:PatchHunk):Decidable (V4 s i j h):=by unfold V4;exact inferInstance
def M1(h:PatchHunk):Int:=(D5 h.Lines 43).length
def N4(h:PatchHunk):Int:=(D5 h.Lines 45).length
def Z9(i j:Int):List PatchHunk->Bool
 | []=>true
 | h::r=>h.Lines.all U1&&(decide (¬V4 (Z8 h.Lines) i j h)&&(decide (¬(4096<h.Old+M1 h\/4096<h.New+N4 h))&&Z9 (h.Old+M1 h) (h.New+N4 h) r))
def L6(hs:List PatchHunk)(k:UInt8):List Str:=(hs.map (fun h=>D5 h.Lines k)).flatten
def T7:List Str->Bool
 | []=>true
 | x::r=>(r.isEmpty||ended x)&&T7 r
def NB(hs:List PatchHunk)(k:UInt8):Bool:=T7 (L6 hs k)
def Y2(hs:List PatchHunk):Bool:=Z9 0 0 hs&&(NB hs 43&&NB hs 45)
def markS:Str:=[10,92,32,78,111,32,110,101,119,108,105,110,101,32,97,116,32,101,110,100,32,111,102,32,102,105,108,101,10]
def n9(x:PatchLine):List Str:=if ended x.Text then [[x.Kind]++x.Text] else [[x.Kind]++x.Text,markS]
def m6(h:PatchHunk):Str:=[64,64,32,45]++J7 h.Old (M1 h)++[32,43]++J7 h.New (N4 h)++[32,64,64,10]
def o4(h:PatchHunk):List Str:=m6 h::(h.Lines.map n9).flatten
def dG(p:Patch):List Str:=[[45,45,45,32]++L9 p.OldName++[10],[43,43,43,32]++L9 p.NewName++[10]]
def iG(p:Patch):List Str:=dG p++(p.Hunks.map o4).flatten
def K1(p:Patch):Str:=(iG p).flatten
def J1(p:Patch):Int:=if R2 p.OldName=false\/R2 p.NewName=false then 120 else if Y2 p.Hunks=false then 121 else if 16777216<(K1 p).length then 1 else 0
def qH(x:PatchLine):Nat:=x.Text.length+64
def zT(h:PatchHunk):Nat:=64+(h.Lines.map qH).sum
def x6(hs:List PatchHunk):Nat:=(hs.map zT).sum
structure PFit (p:Patch):Prop where
 old:p.OldName.length<=4194304
 new:p.NewName.length<=4194304
 hunks:x6 p.Hunks<=268435456
theorem II(b:List PatchLine)(i:Nat):((b.take i).map qH).sum<=(b.map qH).sum:=by
 conv=>rhs;rw[<-A68 i b,A63,A86]
 omega
theorem cM(a:List PatchLine):64*a.length<=(a.map qH).sum:=by
 induction a with
 | nil=>simp
 | cons x r b=>simp only[A49,A77,A34,qH];omega
theorem pE{a:List PatchLine}{x:PatchLine}(h:x∈a):x.Text.length+64<=(a.map qH).sum:=by
 induction a with
 | nil=>simp at h
 | cons y r b =>
  simp only[A49,A77];rcases A39.1 h with rfl | h
  ·unfold qH;omega
  ·have:=b h;omega
theorem lB{hs:List PatchHunk}{h:PatchHunk}(a:h∈hs):zT h<=x6 hs:=by
 unfold x6;induction hs with
 | nil=>simp at a
 | cons y r b =>
  simp only[A49,A77];rcases A39.1 a with rfl | a
  ·omega
  ·have:=b a;omega
theorem pF(hs:List PatchHunk):64*hs.length<=x6 hs:=by
 unfold x6;induction hs with
 | nil=>simp
 | cons x r a=>simp only[A49,A77,A34,zT];omega
theorem wY(hs:List PatchHunk)(i:Nat):x6 (hs.take i)<=x6 hs:=by
 unfold x6
 conv=>rhs;rw[<-A68 i hs,A63,A86]
 omega
theorem Q4(a:List PatchLine)(k:UInt8):(D5 a k).length<=a.length:=by unfold D5;rw[A67];exact List.length_filter_le _ _
theorem bK(a:List PatchLine)(k:UInt8)(i:Nat)(h:i<a.length):D5 (a.take (i+1)) k=if a[i].Kind≠k then D5 (a.take i) k++[a[i].Text] else D5 (a.take i) k:=by
 unfold D5;rw[A55 h,A87,A63];by_cases b:a[i].Kind=k
 ·rw[A5 (by simp[b])];simp[b]
 ·rw[A4 b];simp[b]
theorem IJ(x:PatchLine):(n9 x).flatten.length<=qH x:=by
 unfold n9 qH markS;split<;>simp<;>omega
theorem iH(b:List PatchLine):(b.map n9).flatten.flatten.length<=(b.map qH).sum:=by
 induction b with
 | nil=>simp
 | cons x r c=>have:=IJ x;simp only[A49,A62,A58,A35,A77];omega
theorem rP(h:PatchHunk):(m6 h).length<=52:=by
 have a:=eJ h.Old (M1 h);have b:=eJ h.New (N4 h);unfold m6;simp only[A35,A34,A38];omega
theorem IK(h:PatchHunk):(o4 h).flatten.length<=zT h:=by
 have b:=rP h;have c:=iH h.Lines;unfold o4 zT;simp only[A62,A35];omega
theorem cN(hs:List PatchHunk):(hs.map o4).flatten.flatten.length<=x6 hs:=by
 unfold x6;induction hs with
 | nil=>simp
 | cons x r b=>have:=IK x;simp only[A49,A62,A58,A35,A77];omega
theorem eN(p:Patch):(dG p).flatten.length<=4*p.OldName.length+4*p.NewName.length+14:=by
 have b:=bV p.OldName;have c:=bV p.NewName;unfold dG;simp only[A62,List.flatten_nil,A35,A34,A38];omega
theorem IL(hs:List PatchHunk)(k:Nat)(h:k<hs.length):((hs.take (k+1)).map o4).flatten=((hs.take k).map o4).flatten++o4 hs[k]:=by
 rw[A55 h,A63,A58];simp only[A49,A88,A62,List.flatten_nil,A71]
theorem IM(b:List PatchLine)(k:Nat)(h:k<b.length):((b.take (k+1)).map n9).flatten=((b.take k).map n9).flatten++n9 b[k]:=by
 rw[A55 h,A63,A58];simp only[A49,A88,A62,List.flatten_nil,A71]
theorem cO:∀(hs:List PatchHunk) (i j:Int),Z9 i j hs=true->0<=i->0<=j->∀h∈hs,(0<=h.Old/\h.Old<=4096)/\(0<=h.New/\h.New<=4096)
 | [],_,_,_,_,_,h,hm=>by simp at hm
 | x::r,i,j,hg,hi,hj,h,hm=>by
  simp only[Z9,A33,decide_eq_true_eq]at hg;obtain⟨_,a,d,b⟩:=hg;unfold V4 at a;have c:(0<=x.Old/\x.Old<=4096)/\(0<=x.New/\x.New<=4096):=by omega
  rcases A39.1 hm with rfl | hm
  ·exact c
  ·exact cO r _ _ b (by unfold M1;omega) (by unfold N4;omega) h hm
theorem iI{hs:List PatchHunk}(h:Y2 hs=true):∀x∈hs,(0<=x.Old/\x.Old<=4096)/\(0<=x.New/\x.New<=4096):=by
 unfold Y2 at h;rw[A33]at h;exact cO hs 0 0 h.1 (by omega) (by omega)
def V5(k:UInt8)(a:List Str):List PatchLine:=a.map fun t=>⟨k,t⟩
theorem NC(k:UInt8)(a:List Str)(i:Nat)(h:i<a.length):V5 k (a.take (i+1))=V5 k (a.take i)++[⟨k,a[i]⟩]:=by
 unfold V5;rw[A55 h,A63];rfl
theorem lC(k:UInt8)(a:List Str):(V5 k a).length=a.length:=by simp[V5]
def sub(x:List Str)(a b:Int):List Str:=(x.drop a.toNat).take (b.toNat-a.toNat)
theorem eO(x:List Str)(a b:Int):(sub x a b).length<=x.length:=by unfold sub;rw[A42,A47];omega
def x5(c:Change):Int:=c.Old+c.OldLen
def m7(l:List Change)(i0:Int)(a t:Nat):Int:=if t=0 then i0 else x5 (H5 l (a+t-1))
theorem xA(l:List Change)(i0:Int)(a t:Nat):m7 l i0 a (t+1)=x5 (H5 l (a+t)):=by
 unfold m7;rw[A5 (by omega)];congr 2
def W6(l:List Change)(x y:List Str)(i0:Int)(a:Nat):Nat->List PatchLine
 | 0=>[]
 | t+1=>W6 l x y i0 a t++V5 32 (sub x (m7 l i0 a t) (H5 l (a+t)).Old)++V5 45 (sub x (H5 l (a+t)).Old (x5 (H5 l (a+t))))++V5 43 (sub y (H5 l (a+t)).New ((H5 l (a+t)).New+(H5 l (a+t)).NewLen))
def N5(l:List Change)(x y:List Str)(h:Hunk):PatchHunk :=
 ⟨h.Old.From,h.New.From,W6 l x y h.Old.From h.First.toNat (h.Last.toNat-h.First.toNat)++V5 32 (sub x (m7 l h.Old.From h.First.toNat (h.Last.toNat-h.First.toNat)) h.Old.To)⟩
theorem ND(l:List Change)(x y:List Str)(i0:Int)(a t:Nat):(W6 l x y i0 a t).length<=t*(2*x.length+y.length):=by
 induction t with
 | zero=>simp[W6]
 | succ t i =>
  have b:=eO x (m7 l i0 a t) (H5 l (a+t)).Old;have c:=eO x (H5 l (a+t)).Old (x5 (H5 l (a+t)));have f:=eO y (H5 l (a+t)).New ((H5 l (a+t)).New+(H5 l (a+t)).NewLen);simp only[W6,A35,lC];rw[Nat.succ_mul];omega
def R8:Patch:=⟨[],[],[]⟩
def X2(x y:List Str):List Change:=rM (I4 (G2 [x,y]) x) (I4 (G2 [x,y]) y)
theorem pG(x y:List Str):(X2 x y).length<=x.length+1:=by
 unfold X2 rM kA;have a:=zQ (M3 0 0 (I4 (G2 [x,y]) x) (I4 (G2 [x,y]) y)) 0 0 ((I4 (G2 [x,y]) x).length) ((I4 (G2 [x,y]) y).length);have b:=mM 0 0 (I4 (G2 [x,y]) x) (I4 (G2 [x,y]) y);have c:(I4 (G2 [x,y]) x).length=x.length:=by simp[I4]
 omega
def dH(h:PatchHunk)(b:List Str):Bool:=if (b.length:Int)<h.Old+M1 h then false else decide ((b.drop h.Old.toNat).take (D5 h.Lines 43).length=D5 h.Lines 43)
def zU:List PatchHunk->List Str->Nat
 | [],_=>0
 | h::r,x=>if dH h x=true then zU r x+1 else 0
def nN(p:Patch)(a:Str):Int×Int:=if J1 p≠0 then (0,J1 p) else if (Q1 a).2≠0 then (0,(Q1 a).2) else (zU p.Hunks (Q1 a).1,0)
def aQ(hs:List PatchHunk)(k:Nat):PatchHunk:=hs.getD k ⟨0,0,[]⟩
theorem EK{hs:List PatchHunk}{k:Nat}(h:k<hs.length):hs[k]?=some (aQ hs k):=by
 unfold aQ;rw[A43,A32 h];rfl
theorem OU{hs:List PatchHunk}{k:Nat}(h:k<hs.length):aQ hs k∈hs:=A53 (EK h)
def p5(hs:List PatchHunk)(k:Nat):Int:=if k=0 then 0 else (aQ hs (k-1)).Old+M1 (aQ hs (k-1))
def aI(hs:List PatchHunk)(x:List Str):Nat->List Str
 | 0=>[]
 | k+1=>aI hs x k++sub x (p5 hs k) (aQ hs k).Old++D5 (aQ hs k).Lines 45
def uB(hs:List PatchHunk)(x:List Str):Str×Int :=
 let b:=aI hs x hs.length++x.drop (p5 hs hs.length).toNat
 if aZ b=false then ([],140) else u0 b
def cP(p:Patch)(a:Str):Str×Int:=if (nN p a).2≠0 then ([],(nN p a).2) else if (nN p a).1<p.Hunks.length then ([],140) else uB p.Hunks (E9 a)
theorem rQ{h:PatchHunk}{x:List Str}(a:dH h x=true):h.Old+M1 h<=x.length:=by
 unfold dH at a;split at a
 ·cases a
 ·omega
theorem iJ:∀(hs:List PatchHunk) (i j:Int),Z9 i j hs=true->∀k,k<hs.length->(if k=0 then i else (aQ hs (k-1)).Old+M1 (aQ hs (k-1)))<=(aQ hs k).Old
 | [],_,_,_,k,hk=>by simp at hk
 | y::r,i,j,hg,k,hk=>by
  simp only[Z9,A33,decide_eq_true_eq]at hg;obtain⟨_,b,_,a⟩:=hg;unfold V4 at b
  match k with
  | 0=>simp only[A4];show i<=y.Old;omega
  | 1 =>
   have:=iJ r _ _ a 0 (by simpa using hk);simpa[aQ] using this
  | k+2 =>
   have:=iJ r _ _ a (k+1) (by simp only[A34]at hk;omega);simpa[aQ] using this
theorem pH(h:PatchHunk):0<=M1 h:=by unfold M1;omega
theorem IN(x:List Str)(a b:Int)(_h0:0<=a)(c:a<=b):(x.take a.toNat).flatten.length+(sub x a b).flatten.length=(x.take b.toNat).flatten.length:=by
 have e:x.take b.toNat=x.take a.toNat++sub x a b:=by
  unfold sub;rw[show b.toNat=a.toNat+(b.toNat-a.toNat) by omega,List.take_add];congr 2;omega
 rw[e,A58,A35]
theorem VS(hs:List PatchHunk)(k:Nat)(h:k<hs.length):x6 (hs.take (k+1))=x6 (hs.take k)+zT (aQ hs k):=by
 have e:hs[k]=aQ hs k:=by have:=EK h;rw[A32 h]at this;exact Option.some.inj this
 unfold x6;rw[A55 h,A63,A86,e];simp
theorem zV(b:List PatchLine)(k:UInt8):(D5 b k).flatten.length+(D5 b k).length<=(b.map qH).sum:=by
 unfold D5;induction b with
 | nil=>simp
 | cons x r d =>
  by_cases c:x.Kind=k
  ·simp[c,qH]at d ⊢;omega
  ·simp[c,qH]at d ⊢;omega
def aJ(o n:Bool):List PatchLine->Option (Bool×Bool)
 | []=>some (o,n)
 | x::r =>
  if x.Kind≠43/\o=true then none
  else if x.Kind≠45/\n=true then none
  else aJ (if x.Kind≠43 then !ended x.Text else o) (if x.Kind≠45 then !ended x.Text else n) r
def S7:Bool->List Str->Bool
 | _,[]=>true
 | o,s::r=>!o&&S7 (!ended s) r
def p6(o:Bool):List Str->Bool
 | []=>o
 | s::r=>p6 (!ended s) r
theorem dI:∀(a b:List Str) (o:Bool),S7 o (a++b)=(S7 o a&&S7 (p6 o a) b)
 | [],b,o=>by simp[S7,p6]
 | s::r,b,o=>by simp only[A57,S7,p6,dI r b];cases o<;>simp
theorem fI:∀(l:List Str),S7 false l=T7 l
 | []=>rfl
 | s::r=>by
  have a:=fI r;simp only[S7,T7];cases b:ended s
  ·cases r with
   | nil=>rfl
   | cons t u=>simp[S7]
  ·rw[<-a];cases r<;>simp[S7]
theorem pI:∀(a:List PatchLine) (o n:Bool),aJ o n a=if S7 o (D5 a 43)&&S7 n (D5 a 45) then some (p6 o (D5 a 43),p6 n (D5 a 45)) else none
 | [],o,n=>by simp[aJ,D5,S7,p6]
 | x::r,o,n=>by
  have b:D5 (x::r) 43=if x.Kind≠43 then x.Text::D5 r 43 else D5 r 43:=by
   unfold D5;by_cases h:x.Kind=43<;>simp[h]
  have c:D5 (x::r) 45=if x.Kind≠45 then x.Text::D5 r 45 else D5 r 45:=by
   unfold D5;by_cases h:x.Kind=45<;>simp[h]
  rw[aJ,pI r,b,c];by_cases d:x.Kind=43<;>by_cases e:x.Kind=45<;>cases o<;>cases n<;>simp[d,e,S7,p6]
def X3(i j:Int)(h:PatchHunk):Prop:=((((h.Old<0\/h.New<0)\/4096<h.Old)\/4096<h.New)\/h.Old<i)\/h.Old-i≠h.New-j
instance (i j:Int) (h:PatchHunk):Decidable (X3 i j h):=by unfold X3;exact inferInstance
def fJ(i j:Int)(o n:Bool):List PatchHunk->Bool
 | []=>true
 | h::r =>
  (h.Lines.all U1&&Z8 h.Lines)&&(decide (¬X3 i j h) &&
   match aJ o n h.Lines with
   | none=>false
   | some (o',n')=>decide (h.Old+M1 h<=4096/\h.New+N4 h<=4096)&&fJ (h.Old+M1 h) (h.New+N4 h) o' n' r)
theorem kB(h:PatchHunk)(r:List PatchHunk)(k:UInt8):L6 (h::r) k=D5 h.Lines k++L6 r k:=rfl
theorem OV:∀(hs:List PatchHunk) (i j:Int) (o n:Bool),0<=i->0<=j->fJ i j o n hs=(Z9 i j hs&&(S7 o (L6 hs 43)&&S7 n (L6 hs 45)))
 | [],i,j,o,n,_,_=>by simp[fJ,Z9,L6,S7]
 | h::r,i,j,o,n,hi,hj=>by
  rw[fJ,Z9,kB,kB,dI,dI,pI];have f:=pH h;have a2:0<=N4 h:=by unfold N4;omega
  cases g:h.Lines.all U1
  ·simp
  cases k:Z8 h.Lines
  ·have:decide (¬V4 false i j h)=false:=A3 (fun a=>a (by unfold V4;simp));rw[this];simp
  have c:decide (¬X3 i j h)=decide (¬V4 true i j h):=by
   apply decide_eq_decide.2;unfold X3 V4;constructor<;>intro a<;>simp only[not_or,Bool.true_eq_false,not_false_eq_true,true_and]at a ⊢<;>omega
  rw[c];by_cases b:V4 true i j h
  ·rw[A3 (fun a=>a b)];simp
  rw[A2 b];have hb:0<=h.Old/\0<=h.New:=by unfold V4 at b;simp only[not_or]at b;omega
  have d:decide (h.Old+M1 h<=4096/\h.New+N4 h<=4096)=decide (¬(4096<h.Old+M1 h\/4096<h.New+N4 h)):=decide_eq_decide.2 (by omega);have e:=OV r (h.Old+M1 h) (h.New+N4 h) (p6 o (D5 h.Lines 43)) (p6 n (D5 h.Lines 45)) (by omega) (by omega);cases l:S7 o (D5 h.Lines 43)<;>cases m:S7 n (D5 h.Lines 45)<;>simp[d,e,Bool.and_assoc]
theorem RZ(hs:List PatchHunk):fJ 0 0 false false hs=Y2 hs:=by
 rw[OV hs 0 0 false false (by omega) (by omega),fI,fI];rfl
theorem xB{hs:List PatchHunk}{x:List Str} :
  ∀k,k<=hs.length->(∀j,j<k->0<=p5 hs j/\p5 hs j<=(aQ hs j).Old/\(aQ hs j).Old+M1 (aQ hs j)<=x.length)->(aI hs x k).length<=(p5 hs k).toNat+x6 (hs.take k)/\(aI hs x k).flatten.length<=(x.take (p5 hs k).toNat).flatten.length+x6 (hs.take k)
 | 0,_,_=>by simp[aI]
 | k+1,hk,ho=>by
  obtain⟨r,u⟩:=xB k (by omega) (fun j A=>ho j (by omega));obtain⟨m,p,v⟩:=ho k (by omega);have w:=pH (aQ hs k);have e:p5 hs (k+1)=(aQ hs k).Old+M1 (aQ hs k):=by unfold p5;rw[A5 (by omega)];rfl
  have y:=IN x (p5 hs k) (aQ hs k).Old m p;have q:=VS hs k (by omega);have z:=zV (aQ hs k).Lines 45;have b:=IN x (aQ hs k).Old ((aQ hs k).Old+M1 (aQ hs k)) (by omega) (by omega);have c:(sub x (p5 hs k) (aQ hs k).Old).length<=(aQ hs k).Old.toNat-(p5 hs k).toNat:=by unfold sub;rw[A42];omega
  unfold zT at q;simp only[aI,A35,A58,e];constructor<;>omega
theorem uC{x:List Str}{a b:Int}{s:Str}(h:s∈sub x a b):s∈x:=by
 unfold sub at h;exact List.mem_of_mem_drop (List.mem_of_mem_take h)
def xC(c:Change):Int:=c.New+c.NewLen
def cQ(i:Int)(l:List Change)(k:Nat):Int:=if k=0 then i else x5 (H5 l (k-1))
def jG(j:Int)(l:List Change)(k:Nat):Int:=if k=0 then j else xC (H5 l (k-1))
theorem bY(i:Int)(c:Change)(r:List Change)(k:Nat):cQ i (c::r) (k+1)=cQ (x5 c) r k:=by
 cases k<;>rfl
theorem bZ(j:Int)(c:Change)(r:List Change)(k:Nat):jG j (c::r) (k+1)=jG (xC c) r k:=by
 cases k<;>rfl
theorem dJ(i:Int)(l:List Change)(k:Nat):cQ i l (k+1)=x5 (H5 l k):=rfl
theorem dK(j:Int)(l:List Change)(k:Nat):jG j l (k+1)=xC (H5 l k):=rfl
theorem pJ(c:Change)(r:List Change)(k:Nat):H5 (c::r) (k+1)=H5 r k:=rfl
def kC(x y:List Str)(i j:Int):List Change->Prop
 | []=>sub x i x.length=sub y j y.length
 | c::r=>sub x i c.Old=sub y j c.New/\kC x y (x5 c) (xC c) r
theorem bB(m n:Int):∀(l:List Change) (b:Nat) (i j:Int),L4 b i j l m n=true->∀k,k<l.length ->
  I9 (H5 l k).Old/\I9 (H5 l k).OldLen/\I9 (H5 l k).New/\I9 (H5 l k).NewLen/\(H5 l k).OldLen+(H5 l k).NewLen≠0/\(H5 l k).Old-cQ i l k=(H5 l k).New-jG j l k/\cQ i l k<=(H5 l k).Old/\(0<b+k->cQ i l k<(H5 l k).Old)
 | [],_,_,_,_,k,hk=>by simp at hk
 | c :: r,b,i,j,h,k,hk=>by
  simp only[L4,A33,decide_eq_true_eq]at h;obtain⟨a,C⟩:=h;cases k with
  | zero =>
   unfold wU at a;show I9 c.Old/\I9 c.OldLen/\I9 c.New/\I9 c.NewLen/\c.OldLen+c.NewLen≠0/\c.Old-i=c.New-j/\i<=c.Old/\(0<b+0->i<c.Old)
   have f:I9 c.Old:=by by_cases q:I9 c.Old;exact q;exact absurd (.inl (.inl (.inl (.inl (.inl (.inl (.inl q))))))) a
   have g:I9 c.OldLen:=by by_cases q:I9 c.OldLen;exact q;exact absurd (.inl (.inl (.inl (.inl (.inl (.inl (.inr q))))))) a
   have o:I9 c.New:=by by_cases q:I9 c.New;exact q;exact absurd (.inl (.inl (.inl (.inl (.inl (.inr q)))))) a
   have p:I9 c.NewLen:=by by_cases q:I9 c.NewLen;exact q;exact absurd (.inl (.inl (.inl (.inl (.inr q))))) a
   refine⟨f,g,o,p,fun q=>a (.inl (.inl (.inl (.inr q)))),?_,?_,fun B=>?_⟩
   ·by_cases q:c.Old-i=c.New-j
    ·exact q
    ·exact absurd (.inl (.inl (.inr q))) a
   ·by_cases q:c.Old<i
    ·exact absurd (.inl (.inr q)) a
    ·omega
   ·by_cases q:c.Old<i
    ·exact absurd (.inl (.inr q)) a
    ·by_cases D:c.Old=i
     ·exact absurd (.inr ⟨by omega,D⟩) a
     ·omega
  | succ k =>
   have:=bB m n r (b+1) _ _ C k (by simpa using hk);rw[pJ,bY,bZ];obtain⟨s,t,u,v,x,y,z,A⟩:=this;exact⟨s,t,u,v,x,y,z,fun B=>A (by omega)⟩
theorem xD(m n:Int):∀(l:List Change) (a:Nat) (i j:Int),L4 a i j l m n=true->m-cQ i l l.length=n-jG j l l.length/\cQ i l l.length<=m
 | [],_,i,j,h=>by
  simp only[L4,decide_eq_true_eq]at h;show m-i=n-j/\i<=m;omega
 | c::r,a,i,j,h=>by
  simp only[L4,A33,decide_eq_true_eq]at h;rw[A34,bY,bZ];exact xD m n r _ _ _ h.2
theorem xE(x y:List Str):∀(l:List Change) (i j:Int),kC x y i j l->∀k,k<l.length->sub x (cQ i l k) (H5 l k).Old=sub y (jG j l k) (H5 l k).New
 | [],_,_,_,k,hk=>by simp at hk
 | c::r,i,j,h,k,hk=>by
  cases k with
  | zero=>exact h.1
  | succ k=>rw[bY,bZ,pJ];exact xE x y r _ _ h.2 k (by simpa using hk)
theorem EL(x y:List Str):∀(l:List Change) (i j:Int),kC x y i j l->sub x (cQ i l l.length) x.length=sub y (jG j l l.length) y.length
 | [],_,_,h=>h
 | c::r,i,j,h=>by rw[A34,bY,bZ];exact EL x y r _ _ h.2
def rR(l:List Change)(m c:Int)(a b:Nat):Hunk:=eM l m c (b-1) (V3 l c a)
def GrOk(l:List Change)(m c:Int):Nat->List Hunk->Nat->Prop
 | a,[],k=>a=k
 | a,h::r,k=>∃b,a<b/\opens l c a/\h=rR l m c a b/\GrOk l m c b r k
theorem GrOk.le{l:List Change}{m c:Int}:∀{hs:List Hunk} {a k:Nat},GrOk l m c a hs k->a<=k
 | [],a,k,h=>Nat.le_of_eq h
 | _::_,a,k,⟨b,h1,_,_,h2⟩=>by have:=GrOk.le h2;omega
theorem GrOk.snoc{l:List Change}{m c:Int}{k:Nat}(d:opens l c k):∀{hs:List Hunk} {a:Nat},GrOk l m c a hs k->GrOk l m c a (hs++[rR l m c k (k+1)]) (k+1)
 | [],a,h=>by
  obtain rfl:a=k:=h;exact⟨a+1,by omega,d,rfl,rfl⟩
 | _::_,a,⟨b,h1,h2,h3,h4⟩=>⟨b,h1,h2,h3,GrOk.snoc d h4⟩
theorem GrOk.last{l:List Change}{m c:Int}{k:Nat}:∀{hs:List Hunk} {a:Nat},GrOk l m c a hs k->hs≠[]->GrOk l m c a (hs.set (hs.length-1) (eM l m c k (hs.getD (hs.length-1) wV))) (k+1)
 | [],_,_,h0=>absurd rfl h0
 | [h],a,⟨b,h1,h2,h3,h4⟩,_=>by
  obtain rfl:b=k:=h4;subst h3;exact⟨b+1,by omega,h2,rfl,rfl⟩
 | h::h'::r,a,⟨b,h1,h2,h3,h4⟩,_=>by
  have d:=GrOk.last h4 (by simp);refine⟨b,h1,h2,h3,?_⟩;simpa using d
theorem dL(l:List Change)(m a:Int):∀k,GrOk l m a 0 (I6 l m a k) k
 | 0=>rfl
 | k+1=>by
  have d:=dL l m a k;have c:=(bX l m a k).2;simp only[I6,l7];by_cases b:opens l a k
  ·rw[A4 b];have e:(I6 l m a k++[V3 l a k]).set ((I6 l m a k++[V3 l a k]).length-1) (eM l m a k ((I6 l m a k++[V3 l a k]).getD ((I6 l m a k++[V3 l a k]).length-1) wV))=I6 l m a k++[rR l m a k (k+1)]:=by
    simp[rR]
   rw[e];exact d.snoc b
  ·rw[A5 b];refine d.last ?_;have:k≠0:=fun e=>b (.inl e);have:=c (by omega);intro e;rw[e]at this;simp at this
theorem bL(x:List Str){a b c:Int}(f:0<=a)(g:a<=b)(h:b<=c):sub x a b++sub x b c=sub x a c:=by
 unfold sub;obtain⟨u,rfl⟩:∃u:Nat,(u:Int)=a:=⟨a.toNat,by omega⟩
 obtain⟨v,rfl⟩:∃v:Nat,(v:Int)=b:=⟨b.toNat,by omega⟩
 obtain⟨w,rfl⟩:∃w:Nat,(w:Int)=c:=⟨c.toNat,by omega⟩
 simp only[A36];have e:x.drop v=(x.drop u).drop (v-u):=by rw[List.drop_drop];congr 1;omega
 rw[e,show w-u=(v-u)+(w-v) by omega,List.take_add]
theorem eP(x:List Str)(a:Int):sub x a a=[]:=by simp[sub]
theorem iK(x:List Str){a b:Int}(c:0<=a)(d:a<=b)(f:b<=x.length):((sub x a b).length:Int)=b-a:=by
 unfold sub;rw[A42,A47];omega
theorem kD{x y:List Str}{p q g f e:Int}(h:sub x p q=sub y g f)(j:0<=p)(i:0<=g)(m:0<=e)(k:e<=q-p)(l:q-p=f-g):sub x (q-e) q=sub y (f-e) f:=by
 have c:∀(z:List Str) (a b:Int),0<=a->e<=b-a->sub z (b-e) b=(sub z a b).drop (b-a-e).toNat:=by
  intro z a b ha hb;unfold sub;rw[List.drop_take,List.drop_drop]
  congr 1
  ·omega
  ·congr 1;omega
 rw[c x p q j k,c y g f i (by omega),h,l]
theorem xF{x y:List Str}{p q c g e:Int}(h:sub x p q=sub y c g)(i:0<=p)(f:0<=c)(m:0<=e)(j:e<=q-p)(l:q-p=g-c):sub x p (p+e)=sub y c (c+e):=by
 have d:∀(z:List Str) (a b:Int),0<=a->e<=b-a->sub z a (a+e)=(sub z a b).take e.toNat:=by
  intro z a b ha hb;unfold sub;rw[List.take_take]
  congr 1
  omega
 rw[d x p q i j,d y c g f (by omega),h]
theorem iL(p q:List PatchLine)(k:UInt8):D5 (p++q) k=D5 p k++D5 q k:=by simp[D5]
theorem iM(k a:UInt8)(b:List Str):D5 (V5 k b) a=if k=a then [] else b:=by
 unfold D5 V5;by_cases h:k=a
 ·rw[A4 h];subst h;simp[List.filter_eq_nil_iff]
 ·rw[A5 h];rw[List.filter_eq_self.2 (by simp[h])];simp[Function.comp_def]
structure ScFit (x y:List Str) (l:List Change):Prop where
 lx:(x.length:Int)<=4096
 ly:(y.length:Int)<=4096
 sc:L4 0 0 0 l x.length y.length=true
 eq:kC x y 0 0 l
variable {x y:List Str}{l:List Change}
theorem ScFit.ok(h:ScFit x y l):ScOk 0 0 l x.length y.length:=w9 _ _ _ _ _ _ h.sc
theorem ScFit.check(h:ScFit x y l):n8 l x.length y.length=0:=by
 have a:=h.lx;have b:=h.ly;unfold n8;rw[A5 (by unfold I9;omega),A4 h.sc]
theorem ScFit.nn(h:ScFit x y l)(k:Nat)(m:k<=l.length):0<=cQ 0 l k/\0<=jG 0 l k/\cQ 0 l k<=x.length/\jG 0 l k<=y.length:=by
 cases k with
 | zero=>exact⟨Int.le_refl _,Int.le_refl _,Int.natCast_nonneg _,Int.natCast_nonneg _⟩
 | succ k =>
  obtain⟨⟨a,a2⟩,⟨b,c⟩,⟨d,e⟩,⟨f,g⟩,i,j⟩:=h.ok.get k (by omega);rw[dJ,dK];unfold x5 xC;omega
def eA(l:List Change)(b:Int)(a:Nat):Int:=x4 b (H5 l a).Old
def eB(l:List Change)(m a:Int)(b:Nat):Int:=x4 a (m-cQ 0 l b)
theorem OW{a b:Int}(h:0<=a)(c:0<=b):0<=x4 a b/\x4 a b<=a/\x4 a b<=b:=by unfold x4;split<;>omega
theorem lD{b:Int}{a:Nat}(c:opens l b a)(ha:a≠0):2*b<(H5 l a).Old-cQ 0 l a:=by
 rcases c with h | h
 ·exact absurd h ha
 ·unfold cQ;rw[A5 ha];unfold x5;omega
theorem ScFit.before(h:ScFit x y l){b:Int}(f:0<=b){a:Nat}(ha:a<l.length)(g:opens l b a) :
  0<=eA l b a/\eA l b a<=b/\eA l b a<=(H5 l a).Old-cQ 0 l a:=by
 obtain⟨⟨e,a2⟩,_⟩:=h.ok.get a ha;have i:=OW f e;unfold eA;by_cases c:a=0
 ·subst c;show _/\_/\_<=(H5 l 0).Old-0;omega
 ·have:=lD g c;omega
theorem ScFit.after(h:ScFit x y l){a:Int}(k:0<=a){b:Nat}(hb:b<=l.length)(m:b<l.length->opens l a b)(f:b≠0) :
  0<=eB l x.length a b/\eB l x.length a b<=a/\cQ 0 l b+eB l x.length a b<=x.length/\jG 0 l b+eB l x.length a b<=y.length /\
   sub x (cQ 0 l b) (cQ 0 l b+eB l x.length a b)=sub y (jG 0 l b) (jG 0 l b+eB l x.length a b):=by
 obtain⟨g,i,C,D⟩:=h.nn b hb;have d:=OW k (show 0<=(x.length:Int)-cQ 0 l b by omega);unfold eB;rcases Nat.lt_or_ge b l.length with c | hge
 ·obtain⟨g1,j,u,v,w,z,A,B⟩:=bB _ _ _ _ _ _ h.sc b c;obtain⟨⟨n,a2⟩,⟨o,p⟩,⟨q,r⟩,⟨s,t⟩,k5,k6⟩:=h.ok.get b c;have E:=lD (m c) f;refine⟨d.1,d.2.1,by omega,by omega,xF (xE x y l 0 0 h.eq b c) g i d.1 (by omega) (by omega)⟩
 ·have e:b=l.length:=by omega
  subst e;obtain⟨g1,j⟩:=xD _ _ _ _ _ _ h.sc;refine⟨d.1,d.2.1,by omega,by omega,xF (EL x y l 0 0 h.eq) g i d.1 (by omega) (by omega)⟩
def EM(l:List Change)(b:Int)(a t:Nat):Int:=if t=0 then b else xC (H5 l (a+t-1))
theorem xG(i0:Int)(a t:Nat)(b:t≠0):m7 l i0 a t=cQ 0 l (a+t):=by
 unfold m7 cQ;rw[A5 b,A5 (by omega)]
theorem OX(c:Int)(a t:Nat)(b:t≠0):EM l c a t=jG 0 l (a+t):=by
 unfold EM jG;rw[A5 b,A5 (by omega)]
theorem ScFit.made(h:ScFit x y l){b:Int}(H:0<=b){a:Nat}(I:opens l b a):∀t,a+t<=l.length->(t=0->a<l.length) ->
  D5 (W6 l x y ((H5 l a).Old-eA l b a) a t) 43=sub x ((H5 l a).Old-eA l b a) (m7 l ((H5 l a).Old-eA l b a) a t) /\
  D5 (W6 l x y ((H5 l a).Old-eA l b a) a t) 45=sub y ((H5 l a).New-eA l b a) (EM l ((H5 l a).New-eA l b a) a t)
 | 0,_,_=>by
  unfold m7 EM;rw[A4 rfl,A4 rfl,eP,eP];exact⟨rfl,rfl⟩
 | t + 1,hl,_=>by
  have j:a+t<l.length:=by omega
  have f:a<l.length:=by omega
  obtain⟨B,C⟩:=ScFit.made h H I t (by omega) (fun _=>f);obtain⟨U,q2,q3⟩:=h.before H f I;obtain⟨p1,p2,p3,p4⟩:=h.nn (a+t) (by omega);obtain⟨V,W,r3,r4⟩:=h.nn a (by omega);obtain⟨g1,g2,g3,g4,g5,g6,g7,g8⟩:=bB _ _ _ _ _ _ h.sc (a+t) j;obtain⟨k1,⟨k2,R⟩,k3,⟨k4,S⟩,k5,k6,k7,k8⟩:=bB _ _ _ _ _ _ h.sc a f;obtain⟨⟨X,a2⟩,⟨Y,Z⟩,⟨c1,c2⟩,⟨d1,d2⟩,w5,w6⟩:=h.ok.get (a+t) j
  have c:sub x (m7 l ((H5 l a).Old-eA l b a) a t) (H5 l (a+t)).Old=sub y (EM l ((H5 l a).New-eA l b a) a t) (H5 l (a+t)).New /\
    (H5 l a).Old-eA l b a<=m7 l ((H5 l a).Old-eA l b a) a t/\m7 l ((H5 l a).Old-eA l b a) a t<=(H5 l (a+t)).Old /\
    (H5 l a).New-eA l b a<=EM l ((H5 l a).New-eA l b a) a t/\EM l ((H5 l a).New-eA l b a) a t<=(H5 l (a+t)).New:=by
   have c:=xE x y l 0 0 h.eq (a+t) j;by_cases k:t=0
   ·subst k;unfold m7 EM;rw[A4 rfl,A4 rfl];rw[show a+0=a from rfl]at *;exact⟨kD c V W U (by omega) (by omega),by omega,by omega,by omega,by omega⟩
   ·rw[xG _ _ _ k,OX _ _ _ k];have m1:=h.ok.mono a (a+t-1) (by omega) (by omega);have m2:cQ 0 l (a+t)=(H5 l (a+t-1)).Old+(H5 l (a+t-1)).OldLen:=by unfold cQ;rw[A5 (by omega)];rfl
    have T:∀u,u<=t->(H5 l a).New<=jG 0 l (a+u)\/u=0:=by
     intro u;induction u with
     | zero=>exact fun _=>.inr rfl
     | succ u D =>
      intro hu;obtain⟨E,F,⟨e3,K⟩,⟨M,P⟩,e5,e6,e7,e8⟩:=bB _ _ _ _ _ _ h.sc (a+u) (by omega);have Q:jG 0 l (a+(u+1))=(H5 l (a+u)).New+(H5 l (a+u)).NewLen:=rfl;rcases D (by omega) with G | G
      ·left;omega
      ·left;subst G;rw[Q];show (H5 l a).New<=(H5 l a).New+(H5 l a).NewLen;exact Int.le_add_of_nonneg_right M
    have m5:=(T t (Nat.le_refl _)).resolve_right k;refine⟨c,by omega,by omega,by omega,by omega⟩
  obtain⟨m,p,q,z,A⟩:=c;simp (decide:=true) only [W6,iL,iM,B,C,if_true,if_false,A71];have E:m7 l ((H5 l a).Old-eA l b a) a (t+1)=x5 (H5 l (a+t)):=xA _ _ _ _;have F:EM l ((H5 l a).New-eA l b a) a (t+1)=xC (H5 l (a+t)):=rfl;rw[E,F];have J:0<=(H5 l a).Old-eA l b a:=by omega
  have s1:0<=(H5 l a).New-eA l b a:=by omega
  refine⟨?_,?_⟩
  ·rw[bL x J p q,bL x J (by omega) (by unfold x5;omega)]
  ·rw[m,bL y s1 z A];exact bL y s1 (by omega) (by omega)
structure HunkIs (x y:List Str) (l:List Change) (ctx:Int) (a b:Nat) (h:PatchHunk):Prop where
 old:h.Old=(H5 l a).Old-eA l ctx a
 new:h.New=(H5 l a).New-eA l ctx a
 o0:0<=h.Old
 n0:0<=h.New
 oe:h.Old+M1 h=cQ 0 l b+eB l x.length ctx b
 ne:h.New+N4 h=jG 0 l b+eB l x.length ctx b
 ox:h.Old+M1 h<=x.length
 ny:h.New+N4 h<=y.length
 ol:D5 h.Lines 43=sub x h.Old (h.Old+M1 h)
 nl:D5 h.Lines 45=sub y h.New (h.New+N4 h)
 ch:Z8 h.Lines=true
 gl:(∀s∈x,N0 s=true)->(∀s∈y,N0 s=true)->h.Lines.all U1=true
theorem xH(p q:List PatchLine):Z8 (p++q)=(Z8 p||Z8 q):=by simp[Z8]
theorem xI{k:UInt8}{a:List Str}(b:k≠32)(h:a≠[]):Z8 (V5 k a)=true:=by
 cases a with
 | nil=>exact absurd rfl h
 | cons t a=>simp[Z8,V5,b]
theorem iN{k:UInt8}{d:List Str}(i:k=32\/k=45\/k=43)(h:∀t∈d,N0 t=true):(V5 k d).all U1=true:=by
 rw[List.all_eq_true];intro q c;unfold V5 at c;obtain⟨t,j,rfl⟩:=A65.1 c;unfold U1;refine A2 ?_;rintro (⟨⟨b,f⟩,g⟩ | b)
 ·rcases i with e | e | e
  ·exact b e
  ·exact f e
  ·exact g e
 ·rw[show (PatchLine.mk k t).Text=t from rfl,h t j]at b;cases b
theorem sU(b:∀s∈x,N0 s=true)(c:∀s∈y,N0 s=true)(i0:Int)(a:Nat):∀t,(W6 l x y i0 a t).all U1=true
 | 0=>rfl
 | t+1=>by
  simp only[W6,A85,sU b c i0 a t,Bool.true_and,A33];exact⟨⟨iN (.inl rfl) (fun s hs=>b s (uC hs)),iN (.inr (.inl rfl)) (fun s hs=>b s (uC hs))⟩,iN (.inr (.inr rfl)) (fun s hs=>c s (uC hs))⟩
theorem ScFit.hunk(h:ScFit x y l){c:Int}(I:0<=c){a b:Nat}(ag:a<b)(hb:b<=l.length)(V:opens l c a)(K:b<l.length->opens l c b) :
  HunkIs x y l c a b (N5 l x y (rR l x.length c a b)):=by
 have z:a<l.length:=by omega
 obtain⟨q1,q2,q3⟩:=h.before I z V;obtain⟨w1,w2,w3,w4,w5⟩:=h.after I hb K (by omega);obtain⟨R,S⟩:=h.made I V (b-a) (by omega) (fun e=>by omega);rw[xG _ _ _ (by omega)]at R;rw[OX _ _ _ (by omega)]at S;rw[show a+(b-a)=b by omega]at R S;obtain⟨r1,r2,r3,r4⟩:=h.nn a (by omega);obtain⟨s1,s2,s3,s4⟩:=h.nn b hb;obtain⟨k1,⟨k2,aj⟩,k3,⟨k4,ak⟩,k5,k6,k7,k8⟩:=bB _ _ _ _ _ _ h.sc a z;have J:b-1<l.length:=by omega
 obtain⟨g1,⟨g2,ac⟩,g3,⟨g4,ae⟩,g5,g6,g7,g8⟩:=bB _ _ _ _ _ _ h.sc (b-1) J;have eo:cQ 0 l b=(H5 l (b-1)).Old+(H5 l (b-1)).OldLen:=by unfold cQ;rw[A5 (by omega)];rfl
 have en:jG 0 l b=(H5 l (b-1)).New+(H5 l (b-1)).NewLen:=by unfold jG;rw[A5 (by omega)];rfl
 have mo:=h.ok.mono a (b-1) (by omega) (by omega);have mn:(H5 l a).New<=jG 0 l b:=by
  have m4:∀u,a+u<=l.length->(H5 l a).New<=jG 0 l (a+u)\/u=0:=by
   intro u;induction u with
   | zero=>exact fun _=>.inr rfl
   | succ u M =>
    intro hu;obtain⟨C,e2,⟨e3,X⟩,⟨Y,Z⟩,e5,e6,e7,e8⟩:=bB _ _ _ _ _ _ h.sc (a+u) (by omega);have e9:jG 0 l (a+(u+1))=(H5 l (a+u)).New+(H5 l (a+u)).NewLen:=rfl;rcases M (by omega) with U | U
    ·left;omega
    ·left;subst U;rw[e9];show (H5 l a).New<=(H5 l a).New+(H5 l a).NewLen;exact Int.le_add_of_nonneg_right Y
  have:=(m4 (b-a) (by omega)).resolve_right (by omega)
  rwa[show a+(b-a)=b by omega]at this
 have hF:(rR l x.length c a b).First.toNat=a:=by show ((a:Int)).toNat=a;omega
 have hL:(rR l x.length c a b).Last.toNat-(rR l x.length c a b).First.toNat=b-a:=by
  show (((b-1:Nat):Int)+1).toNat-((a:Int)).toNat=b-a;omega
 have G:(rR l x.length c a b).Old.From=(H5 l a).Old-eA l c a:=rfl;have af:(rR l x.length c a b).New.From=(H5 l a).New-eA l c a:=rfl;have H:(rR l x.length c a b).Old.To=cQ 0 l b+eB l x.length c b:=by
  unfold eB;rw[eo];rfl
 obtain⟨P,A⟩:∃P,P=N5 l x y (rR l x.length c a b):=⟨_,rfl⟩
 have f:P.Lines=W6 l x y ((H5 l a).Old-eA l c a) a (b-a)++V5 32 (sub x (cQ 0 l b) (cQ 0 l b+eB l x.length c b)):=by
  rw[A];unfold N5;show W6 l x y _ (rR l x.length c a b).First.toNat ((rR l x.length c a b).Last.toNat-(rR l x.length c a b).First.toNat)++V5 32 (sub x (m7 l _ (rR l x.length c a b).First.toNat ((rR l x.length c a b).Last.toNat-(rR l x.length c a b).First.toNat)) _)=_;rw[hL,hF,G,H,xG _ _ _ (by omega),show a+(b-a)=b by omega]
 have q:P.Old=(H5 l a).Old-eA l c a:=by rw[A];rfl
 have p:P.New=(H5 l a).New-eA l c a:=by rw[A];rfl
 have j:D5 P.Lines 43=sub x ((H5 l a).Old-eA l c a) (cQ 0 l b+eB l x.length c b):=by
  rw[f,iL,iM,A5 (by decide),R];exact bL x (by omega) (by omega) (by omega)
 have k:D5 P.Lines 45=sub y ((H5 l a).New-eA l c a) (jG 0 l b+eB l x.length c b):=by
  rw[f,iL,iM,A5 (by decide),S,w5];exact bL y (by omega) (by omega) (by omega)
 have ai:M1 P=cQ 0 l b+eB l x.length c b-((H5 l a).Old-eA l c a):=by
  unfold M1;rw[j];exact iK x (by omega) (by omega) (by omega)
 have ah:N4 P=jG 0 l b+eB l x.length c b-((H5 l a).New-eA l c a):=by
  unfold N4;rw[k];exact iK y (by omega) (by omega) (by omega)
 rw[<-A];refine⟨q,p,by omega,by omega,by omega,by omega,by omega,by omega,?_,?_,?_,?_⟩
 ·rw[j];congr 1
  ·exact q.symm
  ·omega
 ·rw[k];congr 1
  ·exact p.symm
  ·omega
 ·rw[f,xH];have e:W6 l x y ((H5 l a).Old-eA l c a) a (b-a)=W6 l x y ((H5 l a).Old-eA l c a) a (b-1-a+1):=by congr 1;omega
  rw[e];simp only[W6,xH];rw[show a+(b-1-a)=b-1 by omega];have Q:Z8 (V5 45 (sub x (H5 l (b-1)).Old (x5 (H5 l (b-1)))))=true\/Z8 (V5 43 (sub y (H5 l (b-1)).New ((H5 l (b-1)).New+(H5 l (b-1)).NewLen)))=true:=by
   obtain⟨E,ad⟩:=g3;obtain⟨D,ab⟩:=g1;by_cases h0:(H5 l (b-1)).OldLen=0
   ·right;refine xI (by decide) fun B=>?_;have:=iK y (a:=(H5 l (b-1)).New) (b:=(H5 l (b-1)).New+(H5 l (b-1)).NewLen) E (by omega) (by omega);rw[B]at this;simp at this;omega
   ·left;refine xI (by decide) fun B=>?_;have:=iK x (a:=(H5 l (b-1)).Old) (b:=x5 (H5 l (b-1))) D (by unfold x5;omega) (by unfold x5;omega);rw[B]at this;unfold x5 at this;simp at this;omega
  rcases Q with C | C<;>rw[C]<;>simp
 ·intro W hy;rw[f,A85,sU W hy,Bool.true_and];exact iN (.inl rfl) (fun s hs=>W s (uC hs))
theorem ScFit.hunks(h:ScFit x y l){c:Int}(C:0<=c)(K:∀s∈x,N0 s=true)(L:∀s∈y,N0 s=true):∀(hs:List Hunk) (a:Nat),GrOk l x.length c a hs l.length ->
  ∀(i j e:Int),i=cQ 0 l a+e->j=jG 0 l a+e->0<=e->e<=c->(a=0->e=0) ->
  Z9 i j (hs.map (N5 l x y))=true/\(L6 (hs.map (N5 l x y)) 43).Sublist (x.drop i.toNat)/\(L6 (hs.map (N5 l x y)) 45).Sublist (y.drop j.toNat) /\
   ∀p∈hs.map (N5 l x y),(p.Old+M1 p<=x.length/\p.New+N4 p<=y.length/\0<=p.Old/\0<=p.New)/\D5 p.Lines 43=sub x p.Old (p.Old+M1 p)/\D5 p.Lines 45=sub y p.New (p.New+N4 p)
 | [],a,_,i,j,e,_,_,_,_,_=>⟨rfl,by simp[L6],by simp[L6],by simp⟩
 | J::hs,a,⟨b,hab,ho,hE,v⟩,i,j,e,hi,hj,he,hec,he0=>by
  have hb:=v.le;have w:b<l.length->opens l c b:=by
   intro W;cases hs with
   | nil=>exact absurd v (by show ¬b=l.length;omega)
   | cons G X=>obtain⟨_,_,E,_⟩:=v;exact E
  obtain⟨w1,w2,w3,w4,w5⟩:=h.after C hb w (by omega);obtain⟨q1,q2,q3⟩:=h.before C (show a<l.length by omega) ho;have H:=h.hunk C hab hb ho w;rw[<-hE]at H;obtain⟨P,B⟩:∃P,P=N5 l x y J:=⟨_,rfl⟩
  rw[<-B]at H;obtain⟨Y,i2,i3,i4⟩:=ScFit.hunks h C K L hs b v (P.Old+M1 P) (P.New+N4 P) (eB l x.length c b) H.oe H.ne w1 w2 (by omega);obtain⟨k1,⟨k2,Z⟩,k3,⟨k4,ab⟩,k5,k6,k7,k8⟩:=bB _ _ _ _ _ _ h.sc a (show a<l.length by omega);have Q:=H.old;have G:=H.new;have R:=H.o0;have T:=H.n0;have U:=H.ox;have V:=H.ny;have h7:=h.lx;have h8:=h.ly;have n1:0<=M1 P:=by unfold M1;omega
  have n2:0<=N4 P:=by unfold N4;omega
  have I:e+eA l c a<=(H5 l a).Old-cQ 0 l a:=by
   by_cases D:a=0
   ·have:=he0 D;omega
   ·have:=lD ho D;omega
  obtain⟨r1,r2,r3,r4⟩:=h.nn a (by omega);have g:i<=P.Old/\j<=P.New/\P.Old-i=P.New-j/\0<=i/\0<=j:=by omega
  have n:∀(z:List Str) (i f t:Int),0<=i->i<=f->f<=t->∀r:List Str,r.Sublist (z.drop t.toNat)->(sub z f t++r).Sublist (z.drop i.toNat):=by
   intro z i f t D Q G r v;have M:z.drop f.toNat=sub z f t++z.drop t.toNat:=by
    unfold sub;rw[show t.toNat=f.toNat+(t.toNat-f.toNat) by omega,<-List.drop_drop,show f.toNat+(t.toNat-f.toNat)-f.toNat=t.toNat-f.toNat by omega,A68]
   have N:z.drop f.toNat=(z.drop i.toNat).drop (f.toNat-i.toNat):=by rw[List.drop_drop];congr 1;omega
   refine List.Sublist.trans ?_ (List.drop_sublist (f.toNat-i.toNat) (z.drop i.toNat));rw[<-N,M];exact List.Sublist.append_left v _
  have A:∀(k:UInt8),L6 ((J::hs).map (N5 l x y)) k=D5 P.Lines k++L6 (hs.map (N5 l x y)) k:=by
   intro k;rw[B];simp[L6]
  refine⟨?_,?_,?_,?_⟩
  ·rw[A49,<-B];simp only[Z9,H.gl K L,Y,Bool.and_true,Bool.true_and,A33,decide_eq_true_eq];refine⟨?_,by omega⟩;unfold V4;rw[H.ch];rintro (((((q | q) | q) | q) | q) | q)
   ·cases q
   all_goals omega
  ·rw[A,H.ol];exact n x i P.Old (P.Old+M1 P) g.2.2.2.1 g.1 (by omega) _ i2
  ·rw[A,H.nl];exact n y j P.New (P.New+N4 P) g.2.2.2.2 g.2.1 (by omega) _ i3
  ·rw[A49,<-B];intro p F;rcases A39.1 F with rfl | F
   ·exact⟨⟨U,V,R,T⟩,H.ol,H.nl⟩
   ·exact i4 p F
theorem pK:∀{s z:List Str},s.Sublist z->T7 z=true->T7 s=true:=by
 intro s z hs;induction hs with
 | slnil=>exact fun h=>h
 | cons a _ d =>
  intro h;simp only[T7,A33]at h;exact d h.2
 | cons_cons a b d =>
  intro h;simp only[T7,A33,A59]at h ⊢;refine⟨?_,d h.2⟩;rcases h.1 with c | c
  ·left;rw[List.isEmpty_iff]at c ⊢;rw[c]at b;exact List.sublist_nil.1 b
  ·exact .inr c
def S0(l:List Change)(x y:List Str)(ctx:Int):List PatchHunk:=(I6 l x.length ctx l.length).map (N5 l x y)
theorem ScFit.good(h:ScFit x y l){a:Int}(b:0<=a)(i:∀s∈x,N0 s=true)(j:∀s∈y,N0 s=true)(c:T7 x=true)(d:T7 y=true):Y2 (S0 l x y a)=true:=by
 obtain⟨e,f,g,_⟩:=h.hunks b i j _ 0 (dL l x.length a l.length) 0 0 0 rfl rfl (Int.le_refl _) b (fun _=>rfl);unfold Y2 NB S0;rw[e,pK f (by simpa using c),pK g (by simpa using d)];rfl
theorem ScFit.texts(h:ScFit x y l){a:Int}(b:0<=a)(c:∀s∈x,N0 s=true)(d:∀s∈y,N0 s=true):∀p∈S0 l x y a,(p.Old+M1 p<=x.length/\p.New+N4 p<=y.length/\0<=p.Old/\0<=p.New)/\D5 p.Lines 43=sub x p.Old (p.Old+M1 p)/\D5 p.Lines 45=sub y p.New (p.New+N4 p) :=
 (h.hunks b c d _ 0 (dL l x.length a l.length) 0 0 0 rfl rfl (Int.le_refl _) b (fun _=>rfl)).2.2.2
theorem sV(a:Str)(c:UInt8)(h:∀z∈a,z≠10):N0 (a++[c])=true:=by
 unfold N0;simp only[List.dropLast_concat,A33];refine⟨List.all_eq_true.2 fun z b=>by simpa using h z b,by simp⟩
theorem kE:∀(s a:Str),(∀z∈a,z≠10)->(∀t∈H3 a s,N0 t=true)/\T7 (H3 a s)=true
 | [],a,hc=>by
  unfold H3;split
  ·exact⟨by simp,rfl⟩
  ·rename_i h;refine⟨fun t f=>?_,rfl⟩;obtain rfl:t=a:=by simpa using f
   obtain⟨d,r,e⟩:∃d r,t=r++[d]:=⟨t.getLast h,t.dropLast,(List.dropLast_concat_getLast h).symm⟩
   rw[e];exact sV r d fun z b=>hc z (by rw[e];simp[b])
 | c::r,a,hc=>by
  rw[o9];by_cases h:c=10
  ·rw[A4 h];obtain⟨g,i⟩:=kE r [] (by simp);refine⟨fun t f=>?_,?_⟩
   ·rcases A39.1 f with rfl | f
    ·exact sV a c hc
    ·exact g t f
   ·simp only[T7,i,Bool.and_true,A59];right;unfold ended;subst h;simp
  ·rw[A5 h];refine kE r (a++[c]) fun z b=>?_;rcases A40.1 b with b | b
   ·exact hc z b
   ·simp at b;subst b;exact h
theorem dM(b:Str):(∀t∈E9 b,N0 t=true)/\T7 (E9 b)=true:=kE b [] (by simp)
theorem rS{m n:Int}(c:I9 m)(d:I9 n):∀(p:List Span) (i j i0 a:Int) (b:Nat),Asc m n i j p->0<=i0->0<=a->i0<=i->i-i0=j-a->(0<b->i0<i)->L4 b i0 a (Z7 i j p m n) m n=true
 | [],i,j,i0,a,b,ha,h1,h2,h3,h4,h5=>by
  obtain⟨e,a2⟩:i<=m/\j<=n:=ha;obtain⟨k,l⟩:=c;obtain⟨o,q⟩:=d;unfold Z7;split
  ·rename_i f;simp only[L4,A33,decide_eq_true_eq];refine⟨?_,by omega⟩;unfold wU I9;show ¬(((((((¬(0<=i/\i<=4096)\/¬(0<=m-i/\m-i<=4096))\/¬(0<=j/\j<=4096))\/¬(0<=n-j/\n-j<=4096))\/m-i+(n-j)=0)\/i-i0≠j-a)\/i<i0)\/(0<(b:Int)/\i=i0));omega
  ·simp only[L4,decide_eq_true_eq];omega
 | x::r,i,j,i0,a,b,ha,h1,h2,h3,h4,h5=>by
  obtain⟨e,a2,a3⟩:=ha;have g:=a3.le;unfold Z7;split
  ·rename_i f;simp only[A57,A61,L4,A33,decide_eq_true_eq];refine⟨?_,?_⟩
   ·obtain⟨k,l⟩:=c;obtain⟨o,q⟩:=d;unfold wU I9;show ¬(((((((¬(0<=i/\i<=4096)\/¬(0<=x.From-i/\x.From-i<=4096))\/¬(0<=j/\j<=4096))\/¬(0<=x.To-j/\x.To-j<=4096))\/x.From-i+(x.To-j)=0)\/i-i0≠j-a)\/i<i0)\/(0<(b:Int)/\i=i0));omega
   ·exact rS c d r _ _ _ _ _ a3 (by omega) (by omega) (by omega) (by omega) (fun _=>by omega)
  ·rw[A61];exact rS c d r _ _ _ _ _ a3 h1 h2 (by omega) (by omega) (fun h=>by omega)
def XY(X Y:List Str)(s:Span):Prop:=0<=s.From/\0<=s.To/\∃v,X[s.From.toNat]?=some v/\Y[s.To.toNat]?=some v
theorem gC{X:List Str}{a b:Int}{v:Str}(c:0<=a)(d:a<=b)(g:X[b.toNat]?=some v):sub X a (b+1)=sub X a b++[v]:=by
 rw[<-bL X c d (by omega:b<=b+1)]
 congr 1
 unfold sub;obtain⟨f,e⟩:=List.getElem?_eq_some_iff.1 g;rw[A41 f,e,show (b+1).toNat-b.toNat=1 by omega];rfl
theorem rT{X Y:List Str}:∀(p:List Span) (i j i0 a:Int),Asc X.length Y.length i j p->0<=i0->0<=a->i0<=i->a<=j->(∀s∈p,XY X Y s)->sub X i0 i=sub Y a j->kC X Y i0 a (Z7 i j p X.length Y.length)
 | [],i,j,i0,a,ha,h1,h2,h3,h4,he,hs=>by
  obtain⟨f,a2⟩:i<=(X.length:Int)/\j<=(Y.length:Int):=ha;unfold Z7;split
  ·refine⟨hs,?_⟩;show sub X (i+(X.length-i)) X.length=sub Y (j+(Y.length-j)) Y.length;rw[show i+((X.length:Int)-i)=X.length by omega,show j+((Y.length:Int)-j)=Y.length by omega,eP,eP]
  ·have b:(X.length:Int)=i:=by omega
   have c:(Y.length:Int)=j:=by omega
   show sub X i0 X.length=sub Y a Y.length;rw[b,c];exact hs
 | x::r,i,j,i0,a,ha,h1,h2,h3,h4,he,hs=>by
  obtain⟨f,a2,a3⟩:=ha;obtain⟨_,_,v,e,v2⟩:=he x (by simp);have d:∀s∈r,XY X Y s:=fun s hs=>he s (by simp[hs]);unfold Z7;split
  ·refine⟨hs,?_⟩;show kC X Y (i+(x.From-i)) (j+(x.To-j)) (Z7 (x.From+1) (x.To+1) r X.length Y.length);rw[show i+(x.From-i)=x.From by omega,show j+(x.To-j)=x.To by omega];refine rT r _ _ _ _ a3 (by omega) (by omega) (by omega) (by omega) d ?_;rw[gC (by omega) (Int.le_refl _) e,gC (by omega) (Int.le_refl _) v2,eP,eP]
  ·have b:x.From=i:=by omega
   have c:x.To=j:=by omega
   rw[A61];refine rT r _ _ _ _ a3 h1 h2 (by omega) (by omega) d ?_;rw[gC h1 (by omega) e,gC h2 (by omega) v2,b,c,hs]
theorem SA:∀(a b:List Int) (p q:Int),∀s∈M3 p q a b,p<=s.From/\q<=s.To/\∃v,a[(s.From-p).toNat]?=some v/\b[(s.To-q).toNat]?=some v:=by
 intro a;induction a with
 | nil=>intro b p q s hs;simp[M3]at hs
 | cons x a f =>
  intro b;induction b with
  | nil=>intro p q s hs;simp[M3]at hs
  | cons y b g =>
   intro p q s hs;unfold M3 at hs;split at hs
   ·rename_i e;rcases A39.1 hs with rfl | hs
    ·exact⟨Int.le_refl _,Int.le_refl _,x,by simp,by simp[e]⟩
    ·obtain⟨h,i,v,c,d⟩:=f b (p+1) (q+1) s hs;refine⟨by omega,by omega,v,?_,?_⟩
     ·rw[show (s.From-p).toNat=(s.From-(p+1)).toNat+1 by omega];simpa using c
     ·rw[show (s.To-q).toNat=(s.To-(q+1)).toNat+1 by omega];simpa using d
   ·split at hs
    ·obtain⟨h,i,v,c,d⟩:=f (y::b) (p+1) q s hs;refine⟨by omega,by omega,v,?_,d⟩;rw[show (s.From-p).toNat=(s.From-(p+1)).toNat+1 by omega];simpa using c
    ·obtain⟨h,i,v,c,d⟩:=g p (q+1) s hs;refine⟨by omega,by omega,v,c,?_⟩;rw[show (s.To-q).toNat=(s.To-(q+1)).toNat+1 by omega];simpa using d
theorem kF:∀(l:List Str) (s t:Str) (k:Int),0<=k->s∈l->t∈l->N3 l s k=N3 l t k->s=t
 | [],_,_,_,_,h,_,_=>by simp at h
 | x::r,s,t,k,hk,hs,ht,e=>by
  unfold N3 at e;by_cases b:x=s
  ·by_cases a:x=t
   ·exact b.symm.trans a
   ·rw[A4 b,A5 a]at e;have d:t∈r:=(A39.1 ht).resolve_left (fun q=>a q.symm);have:=wP r t (k+1) (by omega) d;omega
  ·have c:s∈r:=(A39.1 hs).resolve_left (fun q=>b q.symm);by_cases a:x=t
   ·rw[A5 b,A4 a]at e;have:=wP r s (k+1) (by omega) c;omega
   ·rw[A5 b,A5 a]at e;exact kF r s t (k+1) (by omega) c ((A39.1 ht).resolve_left (fun q=>a q.symm)) e
theorem lE{a f:List Str}{i:Nat}{v:Int}(h:(I4 a f)[i]?=some v):∃s,f[i]?=some s/\N3 a s 0=v:=by
 unfold I4 at h;rw[A69]at h;cases b:f[i]? with
 | none=>rw[b]at h;cases h
 | some s=>rw[b]at h;exact⟨s,rfl,Option.some.inj h⟩
theorem xJ(x y:List Str)(p:x.length<=4096)(q:y.length<=4096):ScFit x y (X2 x y):=by
 have b:(I4 (G2 [x,y]) x).length=x.length:=by simp[I4]
 have c:(I4 (G2 [x,y]) y).length=y.length:=by simp[I4]
 have a:=wO (I4 (G2 [x,y]) x) (I4 (G2 [x,y]) y) 0 0;rw[b,c,Int.zero_add,Int.zero_add]at a;refine⟨by omega,by omega,?_,?_⟩
 ·unfold X2 rM kA;rw[b,c];exact rS ⟨by omega,by omega⟩ ⟨by omega,by omega⟩ _ _ _ _ _ _ a (Int.le_refl _) (Int.le_refl _) (Int.le_refl _) rfl (fun h=>absurd h (by omega))
 ·unfold X2 rM kA;rw[b,c];refine rT _ _ _ _ _ a (Int.le_refl _) (Int.le_refl _) (Int.le_refl _) (Int.le_refl _) ?_ (by rw[eP,eP]);intro s hs;obtain⟨j,k,v,d,f⟩:=SA _ _ _ _ s hs;rw[Int.sub_zero]at d f;obtain⟨u,i,m⟩:=lE d;obtain⟨w,w1,o⟩:=lE f;have e:u=w:=kF (G2 [x,y]) u w 0 (Int.le_refl _) (w7 _ _ x (by simp) (A53 i)) (w7 _ _ y (by simp) (A53 w1)) (m.trans o.symm);subst e;exact⟨j,k,u,i,w1⟩
theorem BQ:∀(b:List PatchLine),b.all U1=true->(b.map qH).sum<=64*((D5 b 43).length+(D5 b 45).length)+((D5 b 43).flatten.length+(D5 b 45).flatten.length)
 | [],_=>by simp
 | q::b,h=>by
  rw[List.all_cons,A33]at h;have x:=BQ b h.2;have v:q.Kind=32\/q.Kind=45\/q.Kind=43:=by
   have c:=h.1;unfold U1 at c;have c:=A0 c;by_cases d:q.Kind=32
   ·exact .inl d
   by_cases j:q.Kind=45
   ·exact .inr (.inl j)
   by_cases o:q.Kind=43
   ·exact .inr (.inr o)
   exact absurd (.inl ⟨⟨d,j⟩,o⟩) c
  have p:∀k:UInt8,D5 (q::b) k=if q.Kind≠k then q.Text::D5 b k else D5 b k:=by
   intro k;unfold D5;by_cases e:q.Kind=k
   ·rw[A5 (by simpa using e),List.filter_cons_of_neg (by simpa using e)]
   ·rw[A4 e,List.filter_cons_of_pos (by simpa using e)];rfl
  rw[p 43,p 45,A49,A77];have w:qH q=q.Text.length+64:=rfl;rcases v with e | e | e<;>rw[e]<;>simp (decide:=true) only [if_true,if_false,ne_eq,not_true_eq_false,not_false_eq_true,A34,A62,A35]<;>omega
theorem pL:∀(hs:List PatchHunk) (i j:Int),Z9 i j hs=true->x6 hs<=128*((L6 hs 43).length+(L6 hs 45).length)+((L6 hs 43).flatten.length+(L6 hs 45).flatten.length)
 | [],_,_,_=>by simp[x6]
 | h :: hs,i,j,hg=>by
  simp only[Z9,A33,decide_eq_true_eq]at hg;obtain⟨y,z,E,A⟩:=hg;have D:=pL hs _ _ A;have F:=BQ h.Lines y;have B:1<=h.Lines.length:=by
   cases C:h.Lines with
   | nil=>exact absurd (.inl (.inl (.inl (.inl (.inl (by rw[C];rfl)))))) z
   | cons a b=>simp
  have v:h.Lines.length<=(D5 h.Lines 43).length+(D5 h.Lines 45).length:=by
   have:64*h.Lines.length<=(h.Lines.map qH).sum:=cM h.Lines;have r:∀c:List PatchLine,c.length<=(D5 c 43).length+(D5 c 45).length:=by
    intro c;induction c with
    | nil=>simp
    | cons q c D =>
     have w:∀k:UInt8,(D5 (q::c) k).length=if q.Kind≠k then (D5 c k).length+1 else (D5 c k).length:=by
      intro k;unfold D5;by_cases e:q.Kind=k
      ·rw[A5 (by simpa using e),List.filter_cons_of_neg (by simpa using e)]
      ·rw[A4 e,List.filter_cons_of_pos (by simpa using e)];simp
     rw[w 43,w 45,A34];by_cases e:q.Kind=43
     ·have x:q.Kind≠45:=by rw[e];decide
      rw[A4 x];split<;>omega
     ·rw[A4 e];split<;>omega
   exact r h.Lines
  have p:x6 (h::hs)=zT h+x6 hs:=by simp[x6]
  have o:zT h=64+(h.Lines.map qH).sum:=rfl;have d:∀k,L6 (h::hs) k=D5 h.Lines k++L6 hs k:=by intro k;simp[L6]
  rw[p,o,d 43,d 45];simp only[A35,A58];omega
theorem sW:∀{s z:List Str},s.Sublist z->s.flatten.length<=z.flatten.length:=by
 intro s z hs;induction hs with
 | slnil=>exact Nat.le_refl _
 | cons a _ b=>simp only[A62,A35];omega
 | cons_cons a _ b=>simp only[A62,A35];omega
theorem ScFit.size{x y:List Str}{l:List Change}(h:ScFit x y l){c:Int}(k:0<=c)(q:∀s∈x,N0 s=true)(r:∀s∈y,N0 s=true):x6 (S0 l x y c)<=128*(x.length+y.length)+(x.flatten.length+y.flatten.length):=by
 obtain⟨n,g,j,_⟩:=h.hunks k q r _ 0 (dL l x.length c l.length) 0 0 0 rfl rfl (Int.le_refl _) k (fun _=>rfl);have o:=pL _ _ _ n;have e:S0 l x y c=(I6 l x.length c l.length).map (N5 l x y):=rfl;rw[<-e]at g j o;have d:(L6 (S0 l x y c) 43).Sublist x:=by simpa using g
 have f:(L6 (S0 l x y c) 45).Sublist y:=by simpa using j
 have:=d.length_le;have:=f.length_le;have:=sW d;have:=sW f;omega
theorem kG(s:Str):∀b:Str,(H3 b s).flatten=b++s:=by
 induction s with
 | nil=>intro b;unfold H3;split<;>simp[*]
 | cons c r d=>intro b;rw[o9];split<;>simp[d]
theorem Y3(a:Str):(E9 a).flatten.length=a.length/\(E9 a).length<=a.length:=⟨by unfold E9;rw[kG];rfl,aF a⟩
abbrev nO:Int->Nat->Cell:=fun x _=>.v (.int .u16 x)
abbrev pU16s(l:List Int):PV:=.one (.list Int 1 nO l)
theorem NE(n:Int)(h:0<=n/\n<65536):IntKind.u16.wrap n=n:=by
 simp[IntKind.wrap,IntKind.signed,IntKind.bits];omega
def flat(a b:List Int)(done:Nat->Nat->Bool):List Int :=
 (List.range ((a.length+1)*(b.length+1))).map fun p=>if done (p / (b.length+1)) (p % (b.length+1))=true then (dist (a.drop (p / (b.length+1))) (b.drop (p % (b.length+1))):Int) else 0
theorem sX(a b:List Int)(done:Nat->Nat->Bool):(flat a b done).length=(a.length+1)*(b.length+1):=by simp[flat]
theorem uD{a b:List Int}{i j:Nat}(c:i<=a.length)(d:j<=b.length):i*(b.length+1)+j<(a.length+1)*(b.length+1)/\(i*(b.length+1)+j) / (b.length+1)=i/\(i*(b.length+1)+j) % (b.length+1)=j:=by
 refine⟨?_,?_,?_⟩
 ·have:(i+1)*(b.length+1)<=(a.length+1)*(b.length+1):=A54 _ (by omega);rw[A66,Nat.one_mul]at this;omega
 ·rw[Nat.mul_comm,Nat.mul_add_div (by omega),Nat.div_eq_of_lt (by omega),Nat.add_zero]
 ·rw[Nat.mul_comm,Nat.mul_add_mod,Nat.mod_eq_of_lt (by omega)]
theorem xK{a b:List Int}{done:Nat->Nat->Bool}{i j:Nat}(f:i<=a.length)(g:j<=b.length):(flat a b done)[i*(b.length+1)+j]?=some (if done i j=true then (dist (a.drop i) (b.drop j):Int) else 0):=by
 obtain⟨c,d,e⟩:=uD f g;unfold flat
 rw[RR _ _ _ c,d,e]
theorem IP{a b:List Int}{done c:Nat->Nat->Bool}{i j:Nat}{v:Int}(n:i<=a.length)(o:j<=b.length)(x:v=(dist (a.drop i) (b.drop j):Int))(m:c i j=true)
  (p:∀r q,r<=a.length->q<=b.length->¬(r=i/\q=j)->c r q=done r q):(flat a b done).set (i*(b.length+1)+j) v=flat a b c:=by
 obtain⟨y,k,l⟩:=uD n o;unfold flat
 refine BM _ _ _ _ _ (fun _=>?_) (fun q u d=>?_)
 ·rw[k,l,A4 m,x]
 ·have f:0<b.length+1:=by omega
  have e:=Nat.div_add_mod q (b.length+1);have w:q / (b.length+1)<=a.length:=by
   have:=(Nat.div_lt_iff_lt_mul f).2 u;omega
  have z:=Nat.mod_lt q f;rw[p _ _ w (by omega) (fun ⟨g,h⟩=>d (by rw[g,h,Nat.mul_comm]at e;exact e.symm))]
theorem SB(a b:List Int):List.replicate ((a.length+1)*(b.length+1)) 0=flat a b (fun _ _=>false):=by
 unfold flat
 simp only[Bool.false_eq_true,if_false];rw[List.map_const',A72]
theorem iO{a b:List Int}{done c:Nat->Nat->Bool}(h:∀r q,r<=a.length->q<=b.length->(done r q=c r q\/dist (a.drop r) (b.drop q)=0)):flat a b done=flat a b c:=by
 unfold flat
 apply List.map_congr_left;intro p d;have d:=A46.1 d;have f:0<b.length+1:=by omega
 have g:p / (b.length+1)<=a.length:=by have:=(Nat.div_lt_iff_lt_mul f).2 d;omega
 have i:=Nat.mod_lt p f;rcases h (p / (b.length+1)) (p % (b.length+1)) g (by omega) with e | e
 ·rw[e]
 ·rw[e];simp
def X8:List Int->List Int->Nat
 | x::a,y::b=>if x=y then X8 a b+1 else 0
 | _,_=>0
theorem IQ:∀(a b:List Int),X8 a b<=a.length/\X8 a b<=b.length
 | [],_=>by simp[X8]
 | _::_,[]=>by simp[X8]
 | x::a,y::b=>by
  have:=IQ a b;unfold X8;simp only[A34];split<;>omega
theorem xL(a b:List Int)(k:Nat)(d:k<a.length)(c:k<b.length):X8 (a.drop k) (b.drop k)=if a[k]=b[k] then X8 (a.drop (k+1)) (b.drop (k+1))+1 else 0:=by
 rw[A41 d,A41 c];rfl
theorem SC(a b:List Int)(k:Nat)(h:¬(k<a.length/\k<b.length)):X8 (a.drop k) (b.drop k)=0:=by
 by_cases c:k<a.length
 ·rw[A48 (as:=b) (by omega)];cases a.drop k<;>rfl
 ·rw[A48 (as:=a) (by omega)];rfl
theorem xM:∀(a b:List Int) (p q:Int),M3 p q a b=P0 p q (X8 a b)++M3 (p+X8 a b) (q+X8 a b) (a.drop (X8 a b)) (b.drop (X8 a b))
 | [],b,p,q=>by simp[X8,cK]
 | x::a,[],p,q=>by simp[X8,cK]
 | x::a,y::b,p,q=>by
  unfold X8;by_cases h:x=y
  ·rw[A4 h]
   conv=>lhs;unfold M3
   rw[A4 h,xM a b (p+1) (q+1),EE];simp only[List.drop_succ_cons,A57];rw[show p+1+(X8 a b:Int)=p+((X8 a b+1:Nat):Int) by omega,show q+1+(X8 a b:Int)=q+((X8 a b+1:Nat):Int) by omega]
  ·rw[A5 h];simp[cK]
def GrX(l:List Change)(m d:Int):Nat->List Hunk->Nat->Prop
 | a,[],k=>a=k
 | a,h::r,k=>∃b,a<b/\opens l d a/\(∀c,a<c->c<b->¬opens l d c)/\h=rR l m d a b/\GrX l m d b r k
theorem GrX.le{l:List Change}{m c:Int}:∀{hs:List Hunk} {a k:Nat},GrX l m c a hs k->a<=k
 | [],a,k,h=>Nat.le_of_eq h
 | _::_,a,k,⟨b,h1,_,_,_,h2⟩=>by have:=GrX.le h2;omega
theorem GrX.unique{l:List Change}{m d:Int}:∀{hs f:List Hunk} {a k:Nat},GrX l m d a hs k->GrX l m d a f k->hs=f
 | [],[],_,_,_,_=>rfl
 | [],_::_,a,k,h,⟨b,h1,_,_,_,h2⟩=>by have:=h2.le;have:a=k:=h;omega
 | _::_,[],a,k,⟨b,h1,_,_,_,h2⟩,h=>by have:=h2.le;have:a=k:=h;omega
 | x::r,x'::r',a,k,⟨b,h1,h2,h3,h4,h5⟩,⟨b',h1',h2',h3',h4',h5'⟩=>by
  have c:∀{r:List Hunk} {b:Nat},GrX l m d b r k->b<k->opens l d b:=by
   intro r b h e;cases r with
   | nil=>have:b=k:=h;omega
   | cons y r=>obtain⟨_,_,g,_⟩:=h;exact g
  have hb:b=b':=by
   have i:=h5.le;have j:=h5'.le;rcases Nat.lt_trichotomy b b' with e | rfl | e
   ·exact absurd (c h5 (by omega)) (h3' b h1 e)
   ·rfl
   ·exact absurd (c h5' (by omega)) (h3 b' h1' e)
  subst hb;rw[h4,h4',GrX.unique h5 h5']
theorem GrX.snoc{l:List Change}{m d:Int}{k n:Nat}(g:opens l d k)(f:k<n)(e:∀c,k<c->c<n->¬opens l d c):∀{hs:List Hunk} {a:Nat},GrX l m d a hs k->GrX l m d a (hs++[rR l m d k n]) n
 | [],a,h=>by
  obtain rfl:a=k:=h;exact⟨n,f,g,e,rfl,rfl⟩
 | _::_,a,⟨b,h1,h2,h3,h4,h5⟩=>⟨b,h1,h2,h3,h4,GrX.snoc g f e h5⟩
theorem GrX.last{l:List Change}{m d:Int}{k:Nat}(e:¬opens l d k):∀{hs:List Hunk} {a:Nat},GrX l m d a hs k->hs≠[]->GrX l m d a (hs.set (hs.length-1) (eM l m d k (hs.getD (hs.length-1) wV))) (k+1)
 | [],_,_,h0=>absurd rfl h0
 | [h],a,⟨b,h1,h2,h3,h4,h5⟩,_=>by
  obtain rfl:b=k:=h5;subst h4;refine⟨b+1,by omega,h2,fun c f i=>?_,rfl,rfl⟩;by_cases g:c=b
  ·rw[g];exact e
  ·exact h3 c f (by omega)
 | h::h'::r,a,⟨b,h1,h2,h3,h4,h5⟩,_=>by
  have j:=GrX.last e h5 (by simp);refine⟨b,h1,h2,h3,h4,?_⟩;simpa using j
theorem sY(l:List Change)(m a:Int):∀k,GrX l m a 0 (I6 l m a k) k
 | 0=>rfl
 | k+1=>by
  have f:=sY l m a k;have d:=(bX l m a k).2;simp only[I6,l7];by_cases b:opens l a k
  ·rw[A4 b];have e:(I6 l m a k++[V3 l a k]).set ((I6 l m a k++[V3 l a k]).length-1) (eM l m a k ((I6 l m a k++[V3 l a k]).getD ((I6 l m a k++[V3 l a k]).length-1) wV))=I6 l m a k++[rR l m a k (k+1)]:=by
    simp[rR]
   rw[e];exact f.snoc b (by omega) (fun c j o=>by omega)
  ·rw[A5 b];refine f.last b ?_;have:k≠0:=fun e=>b (.inl e);have:=d (by omega);intro e;rw[e]at this;simp at this
theorem GrX.len{l:List Change}{m c:Int}:∀{hs:List Hunk} {a k:Nat},GrX l m c a hs k->hs.length<=k-a
 | [],_,_,_=>Nat.zero_le _
 | _::_,a,k,⟨b,h1,_,_,_,h2⟩=>by have:=GrX.len h2;have:=h2.le;simp only[A34];omega
def cR:List Str->Int->List (Str×Cell)
 | [],_=>[]
 | s::r,i=>(s,.v (.int .i64 i))::cR r (i+1)
theorem BR(s:Str):∀(l:List Str) (i:Int),cR (l++[s]) i=cR l i++[(s,.v (.int .i64 (i+l.length)))]
 | [],i=>by simp[cR]
 | x::r,i=>by
  simp only[A57,cR,BR s r,A34];rw[show i+1+(r.length:Int)=i+((r.length+1:Nat):Int) by omega]
theorem BS(s:Str):∀(l:List Str) (i:Int),s∈l->O6 (cR l i) s=some (.v (.int .i64 (N3 l s i)))
 | [],_,h=>by simp at h
 | x::r,i,h=>by
  simp only[cR,O6,N3];by_cases a:x=s
  ·rw[A4 a,A4 a]
  ·rw[A5 a,A5 a];exact BS s r (i+1) ((A39.1 h).resolve_left (fun q=>a q.symm))
theorem xN(s:Str):∀(l:List Str) (i:Int),s∉l->O6 (cR l i) s=none
 | [],_,_=>rfl
 | x::r,i,h=>by
  simp only[cR,O6];rw[A5 (fun q=>h (by simp[q]))];exact xN s r (i+1) (fun q=>h (by simp[q]))
theorem kH(s:Str)(r:List Str):∀(l:List Str) (i:Int),s∈l->N3 (l++r) s i=N3 l s i
 | [],_,h=>by simp at h
 | x::l,i,h=>by
  simp only[A57,N3];by_cases a:x=s
  ·rw[A4 a,A4 a]
  ·rw[A5 a,A5 a];exact kH s r l (i+1) ((A39.1 h).resolve_left (fun q=>a q.symm))
theorem sZ(s:Str):∀(l:List Str) (i:Int),s∉l->N3 (l++[s]) s i=i+l.length
 | [],i,_=>by simp[N3]
 | x::l,i,h=>by
  simp only[A57,N3,A34];rw[A5 (fun q=>h (by simp[q])),sZ s l (i+1) (fun q=>h (by simp[q]))];omega
theorem pM:∀(l a:List Str),∃r,l.foldl O0 a=a++r
 | [],a=>⟨[],by simp⟩
 | s::l,a=>by
  obtain⟨r,b⟩:=pM l (O0 a s);rw[A70,b];unfold O0;split
  ·exact⟨r,rfl⟩
  ·exact⟨s::r,by simp⟩
def P1(files:List (List Str))(k j:Nat):List Str:=((files.take k).flatten++(files.getD k []).take j).foldl O0 []
theorem IR(files:List (List Str))(k:Nat):P1 files (k+1) 0=P1 files k (files.getD k []).length:=by
 unfold P1;rw[List.take_zero,A71,A44];by_cases h:k<files.length
 ·rw[aG files k h]
  congr 2
  simp[h]
 ·rw[A64 (by omega),A64 (by omega)];have:files.getD k []=[]:=by simp[show files.length<=k by omega]
  rw[this,A71]
theorem EN(files:List (List Str))(k j:Nat)(s:Str)(h:(files.getD k [])[j]?=some s):P1 files k (j+1)=O0 (P1 files k j) s:=by
 unfold P1;have b:j<(files.getD k []).length:=(List.getElem?_eq_some_iff.1 h).1;have a:=(List.getElem?_eq_some_iff.1 h).2;rw[A55 b,a,<-A45,A82];rfl
theorem IS(files:List (List Str)):P1 files files.length 0=G2 files:=by
 unfold P1 G2;rw[A44];simp
theorem tA(files:List (List Str))(k j:Nat):∃r,G2 files=P1 files k j++r:=by
 have h:∃m,files.flatten=((files.take k).flatten++(files.getD k []).take j)++m:=by
  refine⟨(files.getD k []).drop j++(files.drop (k+1)).flatten,?_⟩;by_cases b:k<files.length
  ·have e:files=files.take k++files.getD k []::files.drop (k+1):=by
    have:files.getD k []=files[k]:=by simp[b]
    rw[this,List.getElem_cons_drop,A68]
   conv=>lhs;rw[e]
   rw[A58,A62,A45]
   congr 1
   rw[<-A45,A68]
  ·have:files.getD k []=[]:=by simp[show files.length<=k by omega]
   rw[this,A64 (by omega:files.length<=k),A48 (by omega:files.length<=k+1)];simp
 obtain⟨m,c⟩:=h;unfold G2 P1;rw[c,A82];obtain⟨r,g⟩:=pM m (((files.take k).flatten++(files.getD k []).take j).foldl O0 []);exact⟨r,g⟩
theorem xO(files:List (List Str))(k j:Nat):(P1 files k j).length<=files.flatten.length:=by
 obtain⟨r,a⟩:=tA files k j;have:=wN files;rw[a,A35]at this;omega
def Q9(files:List (List Str))(k:Nat):List TC:=(List.range files.length).map fun r=>if r<k then .p (.list Int 1 H1 (I4 (G2 files) (files.getD r []))) else .p (.v (.slice none 0 0))
theorem SD{files:List (List Str)}{k:Nat}(h:k<files.length):(Q9 files k)[k]?=some (.p (.v (.slice none 0 0))):=by
 simp[Q9,h]
theorem EO(files:List (List Str))(k m:Nat)(_h:k<files.length):((Q9 files k).set k (.buf m Int 1 H1 (I4 (G2 files) (files.getD k [])))).map (TC.forget m)=Q9 files (k+1):=by
 have c:(Q9 files k).map (TC.forget m)=Q9 files k:=by
  unfold Q9;rw[A76];apply List.map_congr_left;intro r _;simp only[Function.comp];split<;>rfl
 rw[List.map_set,c];have d:(TC.buf m Int 1 H1 (I4 (G2 files) (files.getD k []))).forget m=.p (.list Int 1 H1 (I4 (G2 files) (files.getD k []))):=by simp[TC.forget]
 rw[d];unfold Q9;refine BM _ _ _ _ _ (fun _=>by simp) (fun q n j=>?_);simp only[show (q<k+1)=(q<k) from propext ⟨fun h=>by omega,fun h=>by omega⟩]
theorem NF(files:List (List Str)):List.replicate files.length (TC.p (.v (.slice none 0 0)))=Q9 files 0:=by
 unfold Q9;simp only[Nat.not_lt_zero,if_false,List.map_const',A72]
theorem NG(files:List (List Str)):Q9 files files.length=(files.map (I4 (G2 files))).map fun x=>TC.p (intsC x 0):=by
 unfold Q9;apply List.ext_getElem
 ·simp
 ·intro i b d;have c:i<files.length:=by simpa using b
  simp[c,intsC]
theorem OY(m n:Int):∀(l:List Change) (a:Nat) (i j:Int),(∀k,k<l.length->I9 (H5 l k).Old/\I9 (H5 l k).OldLen/\I9 (H5 l k).New/\I9 (H5 l k).NewLen/\(H5 l k).OldLen+(H5 l k).NewLen≠0/\(H5 l k).Old-cQ i l k=(H5 l k).New-jG j l k/\cQ i l k<=(H5 l k).Old/\(0<a+k->cQ i l k<(H5 l k).Old)) ->
  (m-cQ i l l.length=n-jG j l l.length/\cQ i l l.length<=m)->L4 a i j l m n=true
 | [],a,i,j,_,h=>by
  have b:m-i=n-j/\i<=m:=h;simp only[L4,decide_eq_true_eq];omega
 | c::r,a,i,j,h,he=>by
  simp only[L4,A33,decide_eq_true_eq];refine⟨?_,OY m n r (a+1) _ _ (fun k E=>?_) ?_⟩
  ·obtain⟨b,f,g,o,p,s,u,t⟩:=h 0 (by simp);have b:I9 c.Old:=b;have f:I9 c.OldLen:=f;have g:I9 c.New:=g;have o:I9 c.NewLen:=o;have p:c.OldLen+c.NewLen≠0:=p;have s:c.Old-i=c.New-j:=s;have u:i<=c.Old:=u;have t:0<a+0->i<c.Old:=t;unfold wU;rintro (((((((q | q) | q) | q) | q) | q) | q) | ⟨q,G⟩)
   ·exact q b
   ·exact q f
   ·exact q g
   ·exact q o
   ·exact p q
   ·exact q s
   ·omega
   ·have:=t (by omega);omega
  ·have:=h (k+1) (by simpa using E);rw[pJ,bY,bZ]at this;obtain⟨v,x,y,z,A,B,C,D⟩:=this;exact⟨v,x,y,z,A,B,C,fun F=>D (by omega)⟩
  ·rw[A34,bY,bZ]at he;exact he
theorem OZ(x y:List Str):∀(l:List Change) (i j:Int),(∀k,k<l.length->sub x (cQ i l k) (H5 l k).Old=sub y (jG j l k) (H5 l k).New)->sub x (cQ i l l.length) x.length=sub y (jG j l l.length) y.length->kC x y i j l
 | [],_,_,_,h=>h
 | c::r,i,j,h,he=>by
  refine⟨h 0 (by simp),OZ x y r _ _ (fun k a=>?_) ?_⟩
  ·have:=h (k+1) (by simpa using a);rw[pJ,bY,bZ]at this;exact this
  ·rw[A34,bY,bZ]at he;exact he
theorem PA{x:List Str}{p q:Int}{t:Nat}(b:0<=p)(h:p+t<q):(sub x p q)[t]?=x[(p+t).toNat]?:=by
 unfold sub;rw[List.getElem?_take,A4 (by omega),A60]
 congr 1;omega
theorem EP{x y:List Str}{p q b d:Int}(h:sub x p q=sub y b d)(f:0<=p)(c:0<=b)(j:q<=x.length)(i:q-p=d-b){t:Nat}(g:p+t<q):∃v,x[(p+t).toNat]?=some v/\y[(b+t).toNat]?=some v:=by
 have e:x[(p+t).toNat]?=some x[(p+t).toNat]:=A32 (by omega);refine⟨_,e,?_⟩;rw[<-PA (q:=d) c (by omega),<-h,PA f g];exact e
theorem tC{i j:Int}{n:Nat}{p:Span}(h:p∈P0 i j n):∃t:Nat,t<n/\p=⟨i+t,j+t⟩:=by
 unfold P0 at h;obtain⟨t,a,b⟩:=A65.1 h;exact⟨t,A46.1 a,b.symm⟩
theorem xP{x y:List Str}:∀(l:List Change) (e:Nat) (i j:Int),L4 e i j l x.length y.length=true->kC x y i j l->0<=i->0<=j->∀p∈X0 i j l x.length,XY x y p
 | [],e,i,j,hs,d,hi,hj,p,b=>by
  simp only[L4,decide_eq_true_eq]at hs;unfold X0 at b;obtain⟨t,s,rfl⟩:=tC b;have d:sub x i x.length=sub y j y.length:=d;exact⟨by dsimp only;omega,by dsimp only;omega,EP d hi hj (by omega) (by omega) (by omega)⟩
 | c::r,e,i,j,hs,d,hi,hj,p,b=>by
  have m:=w9 _ _ _ _ _ _ hs;have g:=bB x.length y.length (c::r) e i j hs 0 (by simp);obtain⟨g1,f,h,k,u,n,q,_⟩:=g;have g1:I9 c.Old:=g1;have f:I9 c.OldLen:=f;have h:I9 c.New:=h;have k:I9 c.NewLen:=k;have n:c.Old-i=c.New-j:=n;have q:i<=c.Old:=q;simp only[L4,A33,decide_eq_true_eq]at hs;unfold X0 at b;unfold I9 at g1 f h k;have v:=m.2.2.2.2.2.2.end_le;rcases A40.1 b with b | b
  ·obtain⟨t,s,rfl⟩:=tC b;exact⟨by dsimp only;omega,by dsimp only;omega,EP d.1 hi hj (by omega) (by omega) (by omega)⟩
  ·rw[show max i c.Old+c.OldLen=c.Old+c.OldLen by omega,show j+((c.Old-i).toNat:Int)+c.NewLen=c.New+c.NewLen by omega]at b;exact xP r (e+1) _ _ hs.2 d.2 (by omega) (by omega) p b
theorem ScFit.pairs{x y:List Str}{l:List Change}(h:ScFit x y l):∀p∈Z3 l x.length,XY x y p:=xP l 0 0 0 h.sc h.eq (Int.le_refl _) (Int.le_refl _)
def fK(c:Change):Change:=⟨c.Old+1,c.OldLen,c.New+1,c.NewLen⟩
def S8(l:List Change)(k:Nat):List Change:=l.set k (fK (H5 l k))
def uE(t:List Int)(i:Int):Int:=t.getD i.toNat 0
def tD(l:List Change)(k:Nat)(t:List Int)(f n:Int):Prop:=(f+n<t.length/\uE t f=uE t (f+n))/\(k+1=l.length\/(H5 l k).Old+(H5 l k).OldLen+1<(H5 l (k+1)).Old)
instance (l:List Change) (k:Nat) (t:List Int) (f n:Int):Decidable (tD l k t f n):=by unfold tD;exact inferInstance
def T8(l:List Change)(a b:List Int)(k:Nat):Bool :=
 if (H5 l k).NewLen=0 then decide (tD l k a (H5 l k).Old (H5 l k).OldLen) else if (H5 l k).OldLen=0 then decide (tD l k b (H5 l k).New (H5 l k).NewLen) else false
theorem Q5(l:List Change)(k:Nat):(S8 l k).length=l.length:=by simp[S8]
theorem gE(l:List Change){k:Nat}(a:k<l.length)(q:Nat):H5 (S8 l k) q=if q=k then fK (H5 l k) else H5 l q:=by
 unfold S8;by_cases h:q=k
 ·subst h;have:∀z,H5 (l.set q z) q=z:=fun z=>by unfold H5;simp[a]
  rw[A4 rfl,this]
 ·rw[A5 h];unfold H5;simp only[A43];rw[List.getElem?_set_ne (Ne.symm h)]
theorem pN(l:List Change){k:Nat}(a:k<l.length)(q:Nat):cQ 0 (S8 l k) q=cQ 0 l q+(if q=k+1 then 1 else 0):=by
 cases q with
 | zero=>simp[cQ]
 | succ q =>
  rw[dJ,dJ,gE l a];by_cases h:q=k
  ·subst h;rw[A4 rfl,A4 rfl];simp only[x5,fK];omega
  ·rw[A5 h,A5 (by omega)];omega
theorem pO(l:List Change){k:Nat}(a:k<l.length)(q:Nat):jG 0 (S8 l k) q=jG 0 l q+(if q=k+1 then 1 else 0):=by
 cases q with
 | zero=>simp[jG]
 | succ q =>
  rw[dK,dK,gE l a];by_cases h:q=k
  ·subst h;rw[A4 rfl,A4 rfl];simp only[xC,fK];omega
  ·rw[A5 h,A5 (by omega)];omega
structure IdsOf (x:List Str) (a:List Int):Prop where
 len:a.length=x.length
 inj:∀(i j:Nat) (u v:Str) (z:Int),x[i]?=some u->x[j]?=some v->a[i]?=some z->a[j]?=some z->u=v
theorem ScFit.down{x y:List Str}{l:List Change}{a b:List Int}(h:ScFit x y l)(ha:IdsOf x a)(hb:IdsOf y b){k:Nat}(m:k<l.length)(g:T8 l a b k=true):ScFit x y (S8 l k):=by
 have X:=h.lx;have Y:=h.ly;have Q:=bB _ _ _ 0 0 0 h.sc;have u:=xD _ _ _ 0 0 0 h.sc;have hq:=xE _ _ _ _ _ h.eq;have r:=EL _ _ _ _ _ h.eq;have K:=h.ok;obtain⟨c,p⟩:∃c,c=H5 l k:=⟨_,rfl⟩
 obtain⟨g1,T,g3,U,g5,g6,g7,g8⟩:=Q k m;have W:=K.get k m;rw[<-p]at g1 T g3 U g5 g6 g7 g8 W;unfold I9 at g1 T g3 U;have i:cQ 0 l (k+1)=c.Old+c.OldLen:=by rw[dJ,<-p];rfl
 have j:jG 0 l (k+1)=c.New+c.NewLen:=by rw[dK,<-p];rfl
 obtain⟨E,E',H,I,V,ac,ad,J⟩:∃E E':Int,sub x (c.Old+c.OldLen) E=sub y (c.New+c.NewLen) E'/\E-(c.Old+c.OldLen)=E'-(c.New+c.NewLen)/\E<=x.length/\E'<=y.length/\(c.Old+c.OldLen<E)/\(k+1<l.length->E=(H5 l (k+1)).Old/\E'=(H5 l (k+1)).New/\c.Old+c.OldLen+1<E):=by
  by_cases B:k+1=l.length
  ·rw[<-B,i,j]at u r;refine⟨x.length,y.length,r,by omega,by omega,by omega,?_,fun q=>absurd B (by omega)⟩;unfold T8 at g;rw[<-p]at g;split at g
   ·have:=(A0 g).1.1;rw[ha.len]at this;omega
   ·split at g
    ·have:=(A0 g).1.1;rw[hb.len]at this;omega
    ·cases g
  ·have B:k+1<l.length:=by omega
   obtain⟨M,F,P,G,f5,f6,f7,S⟩:=Q (k+1) B;have f9:=hq (k+1) B;have ab:=K.get (k+1) B;rw[i,j]at f6 f9;rw[i]at f7;unfold I9 at F G;have z:c.Old+c.OldLen+1<(H5 l (k+1)).Old:=by
    unfold T8 at g;rw[<-p]at g;split at g
    ·have:=(A0 g).2;rw[<-p]at this;omega
    ·split at g
     ·have:=(A0 g).2;rw[<-p]at this;omega
     ·cases g
   exact⟨_,_,f9,by omega,by omega,by omega,by omega,fun _=>⟨rfl,rfl,z⟩⟩
 have hv:∃v,x[c.Old.toNat]?=some v/\y[c.New.toNat]?=some v:=by
  obtain⟨v,C,v2⟩:=EP (t:=0) H (by omega) (by omega) (by omega) I (by omega);simp only[Int.natCast_zero,Int.add_zero]at C v2;unfold T8 at g;rw[<-p]at g;split at g
  ·rename_i Z;have:=(A0 g).1.2;rw[Z,Int.add_zero]at v2;refine⟨v,?_,v2⟩;have l1:c.Old.toNat<a.length:=by rw[ha.len];omega
   have l2:(c.Old+c.OldLen).toNat<a.length:=by rw[ha.len];omega
   have L:x[c.Old.toNat]?=some x[c.Old.toNat]:=A32 (by omega);have R:a[c.Old.toNat]?=some (uE a c.Old):=by unfold uE;rw[A43,A32 l1];rfl
   have D:a[(c.Old+c.OldLen).toNat]?=some (uE a (c.Old+c.OldLen)):=by unfold uE;rw[A43,A32 l2];rfl
   rw[<-this]at D;have:=ha.inj _ _ _ _ _ L C R D;rw[L,this]
  ·split at g
   ·rename_i _ Z;have:=(A0 g).1.2;rw[Z,Int.add_zero]at C;refine⟨v,C,?_⟩;have l1:c.New.toNat<b.length:=by rw[hb.len];omega
    have l2:(c.New+c.NewLen).toNat<b.length:=by rw[hb.len];omega
    have L:y[c.New.toNat]?=some y[c.New.toNat]:=A32 (by omega);have R:b[c.New.toNat]?=some (uE b c.New):=by unfold uE;rw[A43,A32 l1];rfl
    have D:b[(c.New+c.NewLen).toNat]?=some (uE b (c.New+c.NewLen)):=by unfold uE;rw[A43,A32 l2];rfl
    rw[<-this]at D;have:=hb.inj _ _ _ _ _ L v2 R D;rw[L,this]
   ·cases g
 obtain⟨v,C,v2⟩:=hv;have s:0<=cQ 0 l k/\0<=jG 0 l k:=by
  cases k with
  | zero=>simp[cQ,jG]
  | succ k =>
   obtain⟨M,F,P,G,_⟩:=Q k (by omega);unfold I9 at M F P G;rw[dJ,dK];unfold x5 xC;omega
 have A:sub x (c.Old+c.OldLen+1) E=sub y (c.New+c.NewLen+1) E':=by
  have:=kD (e:=E-(c.Old+c.OldLen)-1) H (by omega) (by omega) (by omega) (by omega) I;rw[show E-(E-(c.Old+c.OldLen)-1)=c.Old+c.OldLen+1 by omega,show E'-(E-(c.Old+c.OldLen)-1)=c.New+c.NewLen+1 by omega]at this;exact this
 refine⟨X,Y,OY _ _ _ 0 0 0 (fun q n=>?_) ?_,OZ _ _ _ 0 0 (fun q n=>?_) ?_⟩
 ·rw[Q5]at n;rw[gE l m,pN l m,pO l m];by_cases e:q=k
  ·rw[A4 e,A5 (show ¬q=k+1 by omega),e,<-p];unfold I9;simp only[fK];refine⟨by omega,T,by omega,U,g5,by omega,by omega,fun _=>by omega⟩
  ·rw[A5 e];obtain⟨M,F,P,G,f5,f6,f7,S⟩:=Q q n;refine⟨M,F,P,G,f5,?_,?_,?_⟩
   ·by_cases f:q=k+1
    ·rw[A4 f];omega
    ·rw[A5 f];omega
   ·by_cases f:q=k+1
    ·rw[A4 f];have:=S (by omega);omega
    ·rw[A5 f];omega
   ·intro h0;by_cases f:q=k+1
    ·rw[A4 f,f,i];have:=(J (by omega))
     omega
    ·rw[A5 f];have:=S h0;omega
 ·rw[Q5,pN l m,pO l m];by_cases f:l.length=k+1
  ·rw[A4 f,f,i,j];rw[f,i,j]at u;have h1:E<=x.length:=V;omega
  ·rw[A5 f];omega
 ·rw[Q5]at n;rw[gE l m,pN l m,pO l m];by_cases e:q=k
  ·rw[A4 e,A5 (show ¬q=k+1 by omega),e,<-p];simp only[fK,Int.add_zero];have:=hq k m;rw[<-p]at this;rw[gC s.1 g7 C,gC s.2 (by omega) v2,this]
  ·rw[A5 e];by_cases f:q=k+1
   ·rw[A4 f];subst f;obtain⟨q1,q2,_⟩:=J n;rw[i,j,<-q1,<-q2];exact A
   ·rw[A5 f,Int.add_zero,Int.add_zero];exact hq q n
 ·rw[Q5,pN l m,pO l m];by_cases f:l.length=k+1
  ·rw[A4 f];rw[f,i,j]at r u ⊢;have:=kD (e:=x.length-(c.Old+c.OldLen)-1) r (by omega) (by omega) (by omega) (by omega) (by omega);rw[show (x.length:Int)-(x.length-(c.Old+c.OldLen)-1)=c.Old+c.OldLen+1 by omega,show (y.length:Int)-(x.length-(c.Old+c.OldLen)-1)=c.New+c.NewLen+1 by omega]at this;exact this
  ·rw[A5 f,Int.add_zero,Int.add_zero];exact r
def eQ(l:List Change)(a b:List Int)(k:Nat):Nat:=((a.length:Int)-(H5 l k).Old).toNat+((b.length:Int)-(H5 l k).New).toNat
def cF(a b:List Int)(k:Nat):Nat->List Change->List Change
 | 0,l=>l
 | f+1,l=>if T8 l a b k=true then cF a b k f (S8 l k) else l
def V6(a b:List Int)(l:List Change)(k:Nat):List Change:=cF a b k (eQ l a b k) l
def gF(a b:List Int):Nat->List Change->List Change
 | 0,l=>l
 | k+1,l=>gF a b k (V6 a b l k)
def aK(l:List Change):List (Int×Int):=l.map fun c=>(c.OldLen,c.NewLen)
theorem NH{l:List Change}{k:Nat}(b:k<l.length):aK (S8 l k)=aK l:=by
 unfold aK S8;rw[List.map_set];have e:(fK (H5 l k)).OldLen=l[k].OldLen/\(fK (H5 l k)).NewLen=l[k].NewLen:=by unfold H5 fK;simp[b]
 apply List.ext_getElem
 ·simp
 ·intro i c f;by_cases a:k=i
  ·subst a;simp[e.1,e.2]
  ·simp[a]
section
variable {x y:List Str}{a b:List Int} (ha:IdsOf x a) (hb:IdsOf y b)
include ha hb
theorem gG{l:List Change}{k:Nat}(h:ScFit x y l)(c:k<l.length)(q:T8 l a b k=true):eQ (S8 l k) a b k<eQ l a b k:=by
 have d:=(h.down ha hb c q).ok.get k (by rw[Q5];exact c);unfold eQ;rw[gE l c,A4 rfl]at d ⊢;obtain⟨⟨f,_⟩,⟨i,_⟩,⟨j,_⟩,⟨m,_⟩,n,p⟩:=d;have r:=ha.len;have s:=hb.len;simp only[fK]at f i j m n p ⊢;omega
theorem mQ{k:Nat}:∀(f g:Nat) (l:List Change),ScFit x y l->k<l.length->eQ l a b k<=f->eQ l a b k<=g->cF a b k f l=cF a b k g l
 | 0,0,l,_,_,_,_=>rfl
 | 0,g+1,l,h,hk,h1,_=>by
  unfold cF;by_cases c:T8 l a b k=true
  ·have:=gG ha hb h hk c;omega
  ·rw[A5 c]
 | f+1,0,l,h,hk,_,h1=>by
  unfold cF;by_cases c:T8 l a b k=true
  ·have:=gG ha hb h hk c;omega
  ·rw[A5 c]
 | f+1,g+1,l,h,hk,h1,h2=>by
  unfold cF;by_cases c:T8 l a b k=true
  ·have:=gG ha hb h hk c;rw[A4 c,A4 c];exact mQ f g _ (h.down ha hb hk c) (by rw[Q5];exact hk) (by omega) (by omega)
  ·rw[A5 c,A5 c]
theorem zW{l:List Change}{k:Nat}(h:ScFit x y l)(d:k<l.length)(c:T8 l a b k=true):V6 a b l k=V6 a b (S8 l k) k:=by
 have f:=gG ha hb h d c;unfold V6;obtain⟨g,e⟩:∃g,eQ l a b k=g+1:=⟨eQ l a b k-1,by omega⟩
 rw[e]
 conv=>lhs;unfold cF
 rw[A4 c];exact mQ ha hb _ _ _ (h.down ha hb d c) (by rw[Q5];exact d) (by omega) (Nat.le_refl _)
omit ha hb in
theorem zX{l:List Change}{k:Nat}(c:T8 l a b k=false):V6 a b l k=l:=by
 unfold V6;cases eQ l a b k with
 | zero=>rfl
 | succ n=>unfold cF;rw[c];rfl
theorem xQ{k:Nat}:∀(f:Nat) (l:List Change),ScFit x y l->k<l.length->ScFit x y (cF a b k f l)/\aK (cF a b k f l)=aK l
 | 0,l,h,_=>⟨h,rfl⟩
 | f+1,l,h,hk=>by
  unfold cF;by_cases c:T8 l a b k=true
  ·rw[A4 c];have:=xQ f _ (h.down ha hb hk c) (by rw[Q5];exact hk);rw[NH hk]at this;exact this
  ·rw[A5 c];exact⟨h,rfl⟩
theorem pP{l:List Change}{k:Nat}(h:ScFit x y l)(c:k<l.length):ScFit x y (V6 a b l k)/\aK (V6 a b l k)=aK l:=xQ ha hb _ l h c
omit ha hb in
theorem xR{l a:List Change}(h:aK l=aK a):l.length=a.length:=by
 have:=congrArg List.length h;simpa[aK] using this
theorem pQ:∀(k:Nat) (l:List Change),ScFit x y l->k<=l.length->ScFit x y (gF a b k l)/\aK (gF a b k l)=aK l
 | 0,l,h,_=>⟨h,rfl⟩
 | k+1,l,h,hk=>by
  unfold gF;obtain⟨e,c⟩:=pP ha hb h (k:=k) (by omega);have d:=pQ k _ e (by rw[xR c];omega);rw[c]at d;exact d
end
theorem lF{names x:List Str}(h:∀s∈x,s∈names):IdsOf x (I4 names x):=by
 refine⟨by simp[I4],fun i j u v z a b d e=>?_⟩;obtain⟨s,s1,s2⟩:=lE d;obtain⟨t,c,t2⟩:=lE e;rw[a]at s1;cases s1;rw[b]at c;cases c;exact kF names u v 0 (Int.le_refl _) (h u (A53 a)) (h v (A53 b)) (s2.trans t2.symm)
def xS(l:List Change)(a b:List Int):List Change:=gF a b l.length l
def iP(x y:List Str)(d:Bool):List Change:=if d=true then xS (X2 x y) (I4 (G2 [x,y]) x) (I4 (G2 [x,y]) y) else X2 x y
def rU(on nn a b:Str)(ctx:Int)(d:Bool):Patch×Int :=
 if R2 on=false\/R2 nn=false then (R8,120)
 else if ctx<0\/1048576<ctx then (R8,3)
 else (⟨on,nn,S0 (iP (E9 a) (E9 b) d) (E9 a) (E9 b) ctx⟩,0)
theorem kI(x y:List Str)(d:Bool)(a:x.length<=4096)(b:y.length<=4096):ScFit x y (iP x y d)/\aK (iP x y d)=aK (X2 x y):=by
 have h:=xJ x y a b;unfold iP;cases d
 ·exact⟨h,rfl⟩
 ·rw[A4 rfl];exact pQ (lF fun s hs=>w7 _ _ x (by simp) hs) (lF fun s hs=>w7 _ _ y (by simp) hs) _ _ h (Nat.le_refl _)
theorem IT(x y:List Str)(d:Bool)(a:x.length<=4096)(b:y.length<=4096):(iP x y d).length<=x.length+1:=by
 rw[xR (kI x y d a b).2];exact pG x y
theorem SE{l:List Change}{m n ctx:Int}(h:ctx<0\/1048576<ctx):iF l m n ctx=([],3):=by unfold iF;rw[A4 h]
theorem SF{x y:List Str}{l:List Change}(h:ScFit x y l){ctx:Int}(a:¬(ctx<0\/1048576<ctx)):iF l x.length y.length ctx=(I6 l x.length ctx l.length,0):=by
 unfold iF;rw[A5 a,h.check,A5 (by simp)]
structure Made12 (on nn a b:Str) (l:List Change) (ctx:Int):Prop where
 chk:J1 ⟨on,nn,S0 l (E9 a) (E9 b) ctx⟩=0
 wr:(K1 ⟨on,nn,S0 l (E9 a) (E9 b) ctx⟩).length<=16777216
 fit:PFit ⟨on,nn,S0 l (E9 a) (E9 b) ctx⟩
 rg:∀h∈S0 l (E9 a) (E9 b) ctx,(-4611686018427387904<=h.Old/\h.Old<=4611686018427387904)/\(-4611686018427387904<=h.New/\h.New<=4611686018427387904)
 sz:x6 (S0 l (E9 a) (E9 b) ctx)<=268435456
def Few(a:Str):Prop:=a.length<=1048576/\(E9 a).length<=4096
theorem kJ{a:Str}(h:Few a):Q1 a=(E9 a,0):=by
 obtain⟨b,c⟩:=h;unfold Q1;rw[A5 (by omega)]
theorem xT(on nn a b:Str)(l:List Change)(ctx:Int)(x:R2 on=true)(k:R2 nn=true)(R:¬(ctx<0\/1048576<ctx))(ha:Few a)(hb:Few b)(c:ScFit (E9 a) (E9 b) l):Made12 on nn a b l ctx:=by
 obtain⟨ha,B⟩:=ha;obtain⟨hb,C⟩:=hb;obtain⟨J,K⟩:=Y3 a;obtain⟨L,M⟩:=Y3 b;obtain⟨r,a2⟩:=dM a;obtain⟨s,z⟩:=dM b;have j:0<=ctx:=by omega
 have u:=c.good j r s a2 z;have G:=c.size j r s;have y:=c.texts j r s;have E:=c.lx;have F:=c.ly;obtain⟨hs,i⟩:∃hs,hs=S0 l (E9 a) (E9 b) ctx:=⟨_,rfl⟩
 rw[<-i]at u G y;have q:=x;have o:=k;unfold R2 at q o;have S:=A0 q;have T:=A0 o;have D:(K1 ⟨on,nn,hs⟩).length<=16777216:=by
  have P:(K1 ⟨on,nn,hs⟩).length<=(dG ⟨on,nn,hs⟩).flatten.length+x6 hs:=by
   unfold K1 iG;rw[A58,A35];have:=cN hs;show _+((hs).map o4).flatten.flatten.length<=_;omega
  have A:=eN ⟨on,nn,hs⟩;have Q:(dG ⟨on,nn,hs⟩).flatten.length<=4*on.length+4*nn.length+14:=A;omega
 refine⟨?_,by rw[<-i];exact D,⟨by dsimp only;omega,by dsimp only;omega,by rw[<-i];dsimp only;omega⟩,fun h v=>?_,by rw[<-i];omega⟩
 ·rw[<-i];unfold J1;rw[A5 (by rw[show (Patch.mk on nn hs).OldName=on from rfl,show (Patch.mk on nn hs).NewName=nn from rfl,x,k];simp)];rw[A5 (by rw[u];simp),A5 (by omega)]
 ·rw[<-i]at v;obtain⟨⟨H,I,U,V⟩,_⟩:=y h v;unfold M1 at H;unfold N4 at I;omega
def iQ(x y:List Str)(i j:Int):List PatchHunk->Prop
 | []=>sub x i x.length=sub y j y.length/\0<=i/\0<=j/\i<=x.length/\j<=y.length
 | h::r=>(sub x i h.Old=sub y j h.New/\D5 h.Lines 43=sub x h.Old (h.Old+M1 h)/\D5 h.Lines 45=sub y h.New (h.New+N4 h))/\(0<=i/\0<=j/\i<=h.Old/\j<=h.New/\h.Old+M1 h<=x.length/\h.New+N4 h<=y.length)/\iQ x y (h.Old+M1 h) (h.New+N4 h) r
def aT(i:Int)(hs:List PatchHunk)(k:Nat):Int:=if k=0 then i else (aQ hs (k-1)).Old+M1 (aQ hs (k-1))
def bT(j:Int)(hs:List PatchHunk)(k:Nat):Int:=if k=0 then j else (aQ hs (k-1)).New+N4 (aQ hs (k-1))
theorem PB(i:Int)(h:PatchHunk)(r:List PatchHunk)(k:Nat):aT i (h::r) (k+1)=aT (h.Old+M1 h) r k:=by cases k<;>rfl
theorem PC(i:Int)(h:PatchHunk)(r:List PatchHunk)(k:Nat):bT i (h::r) (k+1)=bT (h.New+N4 h) r k:=by cases k<;>rfl
theorem BT{x y:List Str}:∀{hs:List PatchHunk} {i j:Int},iQ x y i j hs->∀k,k<hs.length ->
  (sub x (aT i hs k) (aQ hs k).Old=sub y (bT j hs k) (aQ hs k).New/\D5 (aQ hs k).Lines 43=sub x (aQ hs k).Old ((aQ hs k).Old+M1 (aQ hs k))/\D5 (aQ hs k).Lines 45=sub y (aQ hs k).New ((aQ hs k).New+N4 (aQ hs k))) /\
   (0<=aT i hs k/\0<=bT j hs k/\aT i hs k<=(aQ hs k).Old/\bT j hs k<=(aQ hs k).New/\(aQ hs k).Old+M1 (aQ hs k)<=x.length/\(aQ hs k).New+N4 (aQ hs k)<=y.length)
 | [],_,_,_,k,hk=>by simp at hk
 | h::r,i,j,⟨h1,h2,h3⟩,0,_=>⟨h1,h2⟩
 | h::r,i,j,⟨h1,h2,h3⟩,k+1,hk=>by
  rw[PB,PC];exact BT h3 k (by simpa using hk)
theorem BU{x y:List Str}:∀{hs:List PatchHunk} {i j:Int},iQ x y i j hs->sub x (aT i hs hs.length) x.length=sub y (bT j hs hs.length) y.length/\0<=aT i hs hs.length/\0<=bT j hs hs.length/\aT i hs hs.length<=x.length/\bT j hs hs.length<=y.length
 | [],_,_,h=>h
 | h::r,i,j,⟨_,_,h3⟩=>by rw[A34,PB,PC];exact BU h3
theorem BV{x y:List Str}{hs:List PatchHunk}(h:iQ x y 0 0 hs):∀k,k<=hs.length->aI hs x k=sub y 0 (bT 0 hs k)
 | 0,_=>by simp[aI,bT,sub]
 | k+1,hk=>by
  obtain⟨⟨g1,i,c⟩,l,f,m,g,n,o⟩:=BT h k (by omega);have j:0<=N4 (aQ hs k):=by unfold N4;omega
  have d:=BV h k (by omega);have a:p5 hs k=aT 0 hs k:=rfl;have b:bT 0 hs (k+1)=(aQ hs k).New+N4 (aQ hs k):=rfl;simp only[aI];rw[d,a,g1,c,b,bL y (by omega) f g,bL y (by omega) (by omega) (by omega)]
theorem PD(x:List Str)(i:Int):sub x i x.length=x.drop i.toNat:=by
 unfold sub;rw[A64 (by rw[A47];omega)]
theorem IU{x y:List Str}{hs:List PatchHunk}(h:iQ x y 0 0 hs):aI hs x hs.length++x.drop (p5 hs hs.length).toNat=y:=by
 obtain⟨b,e,c,f,d⟩:=BU h;rw[BV h hs.length (Nat.le_refl _),show p5 hs hs.length=aT 0 hs hs.length from rfl,<-PD,b,bL y (by omega) c d,PD];simp
theorem xU{x y:List Str}:∀{hs:List PatchHunk} {i j:Int},iQ x y i j hs->zU hs x=hs.length
 | [],_,_,_=>rfl
 | h::r,i,j,⟨⟨h1,h2,h3⟩,⟨g1,g2,g3,g4,g5,g6⟩,h4⟩=>by
  have b:=xU h4;have a:dH h x=true:=by
   unfold dH;rw[A5 (by omega)];refine A2 ?_;have e:((D5 h.Lines 43).length:Int)=M1 h:=rfl
   conv=>rhs;rw[h2]
   unfold sub
   congr 1
   omega
  simp only[zU];rw[A4 a,b,A34]
theorem ScFit.chain{x y:List Str}{l:List Change}(h:ScFit x y l){c:Int}(n:0<=c):∀(hs:List Hunk) (a:Nat),GrOk l x.length c a hs l.length ->
  ∀(i j e:Int),i=cQ 0 l a+e->j=jG 0 l a+e->0<=e->e<=c->(a=0->e=0)->i<=x.length->j<=y.length->iQ x y i j (hs.map (N5 l x y))
 | [],a,f,i,j,e,hi,hj,he,_,_,hix,hjy=>by
  have f:a=l.length:=f;have v:=EL _ _ _ _ _ h.eq;have o:=xD _ _ _ 0 0 0 h.sc;obtain⟨q,r,G,I⟩:=h.nn a (by omega);rw[<-f]at v o;refine⟨?_,by omega,by omega,hix,hjy⟩;have:=kD (e:=x.length-i) v q r (by omega) (by omega) (by omega);rw[show (x.length:Int)-(x.length-i)=i by omega,show (y.length:Int)-(x.length-i)=j by omega]at this;exact this
 | hk::hs,a,⟨b,hab,ho,hE,f⟩,i,j,e,hi,hj,he,hec,he0,hix,hjy=>by
  have hb:=f.le;have k:b<l.length->opens l c b:=by
   intro B;cases hs with
   | nil=>exact absurd f (by show ¬b=l.length;omega)
   | cons A C=>obtain⟨_,_,p,_⟩:=f;exact p
  obtain⟨w1,J,T,U,V⟩:=h.after n hb k (by omega);obtain⟨Q,R,S⟩:=h.before n (show a<l.length by omega) ho;have H:=h.hunk n hab hb ho k;rw[<-hE]at H;obtain⟨P,t⟩:∃P,P=N5 l x y hk:=⟨_,rfl⟩
  rw[<-t]at H;have D:=ScFit.chain h n hs b f (P.Old+M1 P) (P.New+N4 P) (eB l x.length c b) H.oe H.ne w1 J (by omega) H.ox H.ny;obtain⟨k1,⟨k2,E⟩,k3,⟨k4,F⟩,k5,k6,k7,k8⟩:=bB _ _ _ _ _ _ h.sc a (show a<l.length by omega);have K:=H.old;have A:=H.new;have L:=H.o0;have M:=H.n0;have u:e+eA l c a<=(H5 l a).Old-cQ 0 l a:=by
   by_cases s:a=0
   ·have:=he0 s;omega
   ·have:=lD ho s;omega
  obtain⟨q,r,G,I⟩:=h.nn a (by omega);have g:i<=P.Old/\j<=P.New/\P.Old-i=P.New-j/\0<=i/\0<=j:=by omega
  have m:=xE _ _ _ _ _ h.eq a (show a<l.length by omega);have z:=kD (e:=(H5 l a).Old-i) m q r (by omega) (by omega) (by omega);rw[show (H5 l a).Old-((H5 l a).Old-i)=i by omega,show (H5 l a).New-((H5 l a).Old-i)=j by omega]at z;have t2:=xF (e:=P.Old-i) z (by omega) (by omega) (by omega) (by omega) (by omega);rw[show i+(P.Old-i)=P.Old by omega,show j+(P.Old-i)=P.New by omega]at t2;rw[A49,<-t];exact⟨⟨t2,H.ol,H.nl⟩,⟨by omega,by omega,g.1,g.2.1,H.ox,H.ny⟩,D⟩
theorem ScFit.chain0{x y:List Str}{l:List Change}(h:ScFit x y l){a:Int}(b:0<=a):iQ x y 0 0 (S0 l x y a) :=
 h.chain b _ 0 (dL l x.length a l.length) 0 0 0 rfl rfl (Int.le_refl _) b (fun _=>rfl) (by omega) (by omega)
theorem pR:∀(y:List Str),(∀s∈y,N0 s=true)->T7 y=true->aZ y=true
 | [],_,_=>rfl
 | s::r,h,he=>by
  simp only[T7,A33]at he;simp only[aZ,A33];exact⟨⟨h s (List.mem_cons_self ..),he.1⟩,pR r (fun t a=>h t (List.mem_cons_of_mem _ a)) he.2⟩
theorem xV{p:Patch}{a b:Str}(m:J1 p=0)(ha:Few a)(hb:Few b)(h:iQ (E9 a) (E9 b) 0 0 p.Hunks):cP p a=(b,0):=by
 have o:nN p a=((p.Hunks.length:Int),0):=by
  unfold nN;rw[m,A5 (by simp),kJ ha,A5 (by simp),xU h]
 obtain⟨g,i⟩:=dM b;obtain⟨q,r⟩:=Y3 b;have d:(E9 b).flatten=b:=by have:=kG b [];simpa[E9] using this
 have c:=pR (E9 b) g i;unfold cP;rw[o,A5 (by simp),A5 (by simp)];unfold uB;rw[IU h];dsimp only;rw[c,A5 (by decide)];unfold u0;have j:=hb.1;have k:=hb.2;rw[c,A5 (by decide),A5 (by omega),d]
def o5(c:UInt8):Bool:=decide (48<=c.toNat/\c.toNat<=57)
def N1(s:Str):Str:=s.takeWhile o5
def dU(a:Str):Nat:=a.foldl (fun n c=>10*n+(c.toNat-48)) 0
def p7(s:Str):Option (Nat×Nat) :=
 if N1 s=[]\/(s.head?=some 48/\1<(N1 s).length)\/2147483647<dU (N1 s) then none else some (dU (N1 s),(N1 s).length)
theorem BW(a:Str)(c:UInt8):dU (a++[c])=10*dU a+(c.toNat-48):=by
 unfold dU;rw[A82];rfl
theorem bC(k:Nat)(h:k<10):(UInt8.ofNat (48+k)).toNat=48+k:=by
 rw[UInt8.toNat_ofNat'];omega
theorem xW(u:Nat):(∀c∈Lib.decDigits u,o5 c=true)/\dU (Lib.decDigits u)=u/\Lib.decDigits u≠[]/\((Lib.decDigits u).head?=some 48->u=0)/\(1<(Lib.decDigits u).length->10<=u):=by
 induction u using Nat.strongRecOn with
 | _ u r =>
  rw[Lib.decDigits];split
  ·rename_i h;refine⟨?_,?_,by simp,?_,by simp⟩
   ·intro c b;simp only[A39,A75,or_false]at b;subst b;unfold o5;rw[bC u h];simp;omega
   ·unfold dU;simp only[A70,List.foldl_nil];rw[bC u h];omega
   ·intro i;simp only[List.head?_cons,Option.some.injEq]at i;have:=congrArg UInt8.toNat i;rw[bC u h]at this;have e:(48:UInt8).toNat=48:=rfl;omega
  ·rename_i h;obtain⟨i,m,p,q,s⟩:=r (u / 10) (by omega);have k:u % 10<10:=Nat.mod_lt _ (by omega);refine⟨?_,?_,by simp,?_,fun _=>by omega⟩
   ·intro c b;rcases A40.1 b with b | b
    ·exact i c b
    ·simp only[A39,A75,or_false]at b;subst b;unfold o5;rw[bC _ k];simp;omega
   ·rw[BW,m,bC _ k];omega
   ·intro f;rw[List.head?_append]at f;cases j:(Lib.decDigits (u / 10)).head? with
    | none=>exact absurd (List.head?_eq_none_iff.1 j) p
    | some x =>
     rw[j]at f;have f:x=48:=by simpa using f
     have:=q (by rw[j,f]);omega
theorem VT{a t:Str}(h:∀c∈a,o5 c=true)(b:∀c,t.head?=some c->o5 c=false):N1 (a++t)=a:=by
 unfold N1;rw[List.takeWhile_append_of_pos h];cases t with
 | nil=>simp
 | cons c r=>rw[List.takeWhile_cons,b c rfl];simp
theorem EQ{n:Int}(a:0<=n)(b:n<=2147483647):M6 n=Lib.decDigits n.toNat:=by
 unfold M6 Lib.itoa;rw[A5 (by omega),A5 (by omega)]
theorem pS{n:Int}{t:Str}(j:0<=n)(k:n<=2147483647)(s:∀c,t.head?=some c->o5 c=false):p7 (M6 n++t)=some (n.toNat,(M6 n).length):=by
 rw[EQ j k];obtain⟨m,o,b,p,q⟩:=xW n.toNat
 have e:=VT m s;unfold p7;rw[e,o];rw[A5];rintro (h | ⟨h,i⟩ | h)
 ·exact b h
 ·have r:(Lib.decDigits n.toNat).head?=some 48:=by
   rw[List.head?_append]at h;cases f:(Lib.decDigits n.toNat).head? with
   | none=>exact absurd (List.head?_eq_none_iff.1 f) b
   | some x=>rw[f]at h;simpa using h
  have:=p r;have:=q i;omega
 ·omega
def kK(s:Str)(a c:Nat)(e:Nat):Option (Int×Int×Nat) :=
 if J7 (if 0<c then (a:Int)-1 else a) c=s.take e then some ((if 0<c then (a:Int)-1 else a),(c:Int),e) else none
def dN(s:Str):Option (Int×Int×Nat) :=
 match p7 s with
 | none=>none
 | some (a,k)=>if s[k]?=some 44 then (match p7 (s.drop (k+1)) with | none=>none | some (c,k2)=>kK s a c (k+1+k2)) else kK s a 1 k
theorem rV{s:Str}{a c e:Nat}{st:Int}(b:st=if 0<c then (a:Int)-1 else a)(h:J7 st c=s.take e):kK s a c e=some (st,(c:Int),e):=by
 unfold kK;rw[<-b,A4 h]
theorem BX{a n:Int}{t:Str}(A:0<=a)(C:0<=n)(B:a<=2147483647)(D:n<=2147483647-a)(v:∀c,t.head?=some c->o5 c=false/\c≠44):dN (J7 a n++t)=some (a,n,(J7 a n).length):=by
 have f:J7 a n=if n=0 then M6 a++[44,48] else if n=1 then M6 (a+1) else M6 (a+1)++[44]++M6 n:=by
  unfold J7;rw[A5 (by omega)]
 have m:M6 0=[48]:=by rw[EQ (by omega) (by omega)];rw[Lib.decDigits];rfl
 have i:o5 44=false:=by decide
 have j:(J7 a n++t).take (J7 a n).length=J7 a n:=List.take_left;by_cases q:n=0
 ·subst q;rw[A4 rfl]at f;have w:J7 a 0++t=M6 a++(44::(M6 0++t)):=by rw[f,m];simp
  have x:(M6 a++(44::(M6 0++t))).drop ((M6 a).length+1)=M6 0++t:=by rw[List.drop_append];simp
  have y:(M6 a).length+1+(M6 0).length=(J7 a 0).length:=by rw[f,m];simp
  rw[w]at j ⊢;unfold dN;rw[pS A B (by intro c b;cases b;exact i)];dsimp only;rw[A4 (by simp),x,pS (n:=0) (by omega) (by omega) (fun c b=>(v c b).1)];dsimp only;rw[y];exact rV (st:=a) (c:=0) (by simp;omega) j.symm
 ·by_cases u:n=1
  ·subst u;rw[A5 (by omega),A4 rfl]at f;rw[f]at j ⊢;unfold dN;rw[pS (by omega) (by omega) (fun c b=>(v c b).1)];dsimp only;rw[A5]
   ·exact rV (st:=a) (c:=1) (by simp;omega) (by rw[j];exact f)
   ·rw[A51 (Nat.le_refl _),A80];cases t with
    | nil=>simp
    | cons c r=>simp;exact fun e=>(v c rfl).2 e
  ·rw[A5 q,A5 u]at f;have w:J7 a n++t=M6 (a+1)++(44::(M6 n++t)):=by rw[f];simp
   have x:(M6 (a+1)++(44::(M6 n++t))).drop ((M6 (a+1)).length+1)=M6 n++t:=by rw[List.drop_append];simp
   have y:(M6 (a+1)).length+1+(M6 n).length=(J7 a n).length:=by rw[f];simp;omega
   have z:((n.toNat:Nat):Int)=n:=by omega
   rw[w]at j ⊢;unfold dN;rw[pS (by omega) (by omega) (by intro c b;cases b;exact i)];dsimp only;rw[A4 (by simp),x,pS (n:=n) (by omega) (by omega) (fun c b=>(v c b).1)];dsimp only;rw[y];have:=rV (s:=M6 (a+1)++(44::(M6 n++t))) (a:=(a+1).toNat) (c:=n.toNat) (e:=(J7 a n).length) (st:=a) (by rw[A4 (by omega)];omega) (by rw[j,z]);rw[this,z]
def SG(a b c:UInt8):Option UInt8 :=
 if ((((((a.toNat<48\/55<a.toNat)\/b.toNat<48)\/55<b.toNat)\/c.toNat<48)\/55<c.toNat)\/256<=64*(a.toNat-48)+8*(b.toNat-48)+(c.toNat-48)) then none
 else some (UInt8.ofNat (64*(a.toNat-48)+8*(b.toNat-48)+(c.toNat-48)))
def jE:Str->Option (UInt8×Nat)
 | []=>none
 | d::r=>if d.toNat=34\/d.toNat=92 then some (d,1) else if d.toNat=110 then some (10,1) else if d.toNat=116 then some (9,1) else match r with
  | e::f::_=>(SG d e f).map fun x=>(x,3)
  | _=>none
theorem BY{s:Str}{x:UInt8}{k:Nat}(h:jE s=some (x,k)):1<=k/\k<=s.length:=by
 cases s with
 | nil=>cases h
 | cons d r =>
  simp only[jE]at h;split at h
  ·cases h;simp
  ·split at h
   ·cases h;simp
   ·split at h
    ·cases h;simp
    ·split at h
     ·simp only[Option.map_eq_some_iff]at h;obtain⟨_,_,h⟩:=h;cases h;simp
     ·cases h
def N7(s:Str)(i:Nat)(b:Str):Option (Str×Nat) :=
 if h:i<s.length then
  if s[i].toNat=34 then some (b,i+1)
  else if s[i].toNat=92 then (match c:jE (s.drop (i+1)) with | none=>none | some (x,k)=>N7 s (i+1+k) (b++[x]))
  else N7 s (i+1) (b++[s[i]])
 else none
termination_by s.length-i
decreasing_by all_goals omega
def aL(s:Str):Option (Str×Nat) :=
 if s.head?=some 34 then (match N7 s 1 [] with | none=>none | some (w,k)=>if L9 w=s.take k then some (w,k) else none)
 else if s.takeWhile L8=[] then none else some (s.takeWhile L8,(s.takeWhile L8).length)
theorem NJ{s:Str}(n:Nat):∀{i:Nat} {a w:Str} {k:Nat},s.length-i<=n->N7 s i a=some (w,k)->i<k/\k<=s.length/\w.length+i<=a.length+k:=by
 induction n with
 | zero =>
  intro i a w k e h;rw[N7,dif_neg (by omega)]at h;cases h
 | succ n b =>
  intro i a w k e h;rw[N7]at h;split at h
  ·rename_i f;split at h
   ·cases h;omega
   ·split at h
    ·split at h
     ·cases h
     ·rename_i x g d;have c:=BY d;rw[A47]at c;have:=b (by omega) h;rw[A35]at this;simp only[A34,A38]at this;omega
    ·have:=b (by omega) h;rw[A35]at this;simp only[A34,A38]at this;omega
  ·cases h
theorem VU(c:UInt8)(b r f:Str):N7 (b++(X1 c++(r++[34]))) b.length f=N7 (b++(X1 c++(r++[34]))) (b.length+(X1 c).length) (f++[c]):=by
 have F:=c.toNat_lt;have j:∀(d:UInt8) (l:Str),(b++d::l)[b.length]?=some d:=by intro d l;rw[A51 (Nat.le_refl _),A80];rfl
 have m:∀(d:UInt8) (l:Str),(b++d::l).drop (b.length+1)=l:=by intro d l;rw[List.drop_append];simp
 have s:(92:UInt8).toNat=92:=rfl;have v:(110:UInt8).toNat=110:=rfl;have w:(116:UInt8).toNat=116:=rfl;have i:∀(l:Str) (k:Nat),jE (l++(r++[34]))=some (c,k)->k=l.length->N7 (b++((92::l)++(r++[34]))) b.length f=N7 (b++((92::l)++(r++[34]))) (b.length+(92::l).length) (f++[c]):=by
  intro l k C B;subst B;rw[N7,dif_pos (by simp)];have u:(b++((92::l)++(r++[34])))[b.length]'(by simp)=92:=by
   have:=j 92 (l++(r++[34]));rw[A32 (by simp)]at this;exact Option.some.inj this
  rw[u,A5 (by decide),A4 s];have A:(b++((92::l)++(r++[34]))).drop (b.length+1)=l++(r++[34]):=m 92 _;split
  ·rename_i q;rw[A,C]at q;cases q
  ·rename_i x G q;rw[A,C]at q;cases q;rw[A34,show b.length+1+l.length=b.length+(l.length+1) by omega]
 unfold X1;split
 ·rename_i h;refine i [c] 1 ?_ rfl;simp only[A57,A61,jE];rw[A4 h]
 ·rename_i h;split
  ·rename_i y;refine i [110] 1 ?_ rfl;simp only[A57,A61,jE];rw[A5 (by decide),A4 (by decide)];have:c=10:=UInt8.toNat_inj.1 y;rw[this]
  ·rename_i y;split
   ·rename_i z;refine i [116] 1 ?_ rfl;simp only[A57,A61,jE];rw[A5 (by decide),A5 (by decide),A4 (by decide)];have:c=9:=UInt8.toNat_inj.1 z;rw[this]
   ·rename_i z;split
    ·rename_i E;refine i (BN c) 3 ?_ (by rw[eK];rfl);rw[eK];have t:∀k,k<8->(UInt8.ofNat (48+k)).toNat=48+k:=fun k B=>bC k (by omega);have D:=t (c.toNat / 64) (by omega);have t2:=t (c.toNat / 8 % 8) (by omega);have t3:=t (c.toNat % 8) (by omega);simp only[A57,A61,jE];rw[D,A5 (by omega),A5 (by omega),A5 (by omega)];unfold SG;rw[D,t2,t3,A5 (by omega)];simp only[Option.map_some,Option.some.injEq,Prod.mk.injEq,and_true];apply UInt8.toNat_inj.1;rw[UInt8.toNat_ofNat'];omega
    ·rw[N7,dif_pos (by simp)];have u:(b++([c]++(r++[34])))[b.length]'(by simp)=c:=by
      have:=j c (r++[34]);rw[A32 (by simp)]at this;exact Option.some.inj this
     rw[u,A5 (by omega),A5 (by omega)];rfl
theorem XZ(w:Str):∀(b d:Str),N7 (b++((w.map X1).flatten++[34])) b.length d=some (d++w,(b++((w.map X1).flatten++[34])).length):=by
 induction w with
 | nil =>
  intro b d;rw[N7,dif_pos (by simp)];have j:(b++((([]:Str).map X1).flatten++[34]))[b.length]'(by simp)=34:=by simp
  rw[j,A4 (show (34:UInt8).toNat=34 from rfl)];simp
 | cons c r k =>
  intro b d;have e:(((c::r).map X1).flatten++[34])=X1 c++((r.map X1).flatten++[34]):=by simp
  rw[e,VU];have i:=k (b++X1 c) (d++[c]);rw[A45,A35,A45 d]at i;exact i
theorem mR{p:UInt8->Bool}:∀{w:Str},w.all p=true->w.takeWhile p=w
 | [],_=>rfl
 | c::r,h=>by
  simp only[List.all_cons,A33]at h;rw[List.takeWhile_cons,A4 h.1,mR h.2]
theorem NK(w:Str):aL (L9 w)=some (w,(L9 w).length):=by
 unfold aL;by_cases h:w≠[]/\w.all L8=true
 ·have e:L9 w=w:=by unfold L9;rw[A4 h]
  rw[e];have d:w.takeWhile L8=w:=by
   exact mR h.2
  rw[d,A5,A5 h.1];intro b;cases w with
  | nil=>exact h.1 rfl
  | cons c r =>
   simp only[List.head?_cons,Option.some.injEq]at b;subst b;have:=h.2;simp only[List.all_cons,A33]at this;exact absurd this.1 (by decide)
 ·have e:L9 w=[34]++((w.map X1).flatten++[34]):=by unfold L9;rw[A5 h];rfl
  have d:=XZ w [34] [];rw[<-e]at d;rw[A4 (by rw[e];rfl),show N7 (L9 w) 1 []=_ from d];dsimp only;rw[A61,A44,A4 rfl]
structure Cmd where
 Kind:Int
 A:Int
 B:Int
 C:Int
 Dense:Bool
 Text:Str
 deriving DecidableEq
abbrev cmdC(c:Cmd):List Cell:=[.v (.int .i64 c.Kind),.v (.int .i64 c.A),.v (.int .i64 c.B),.v (.int .i64 c.C),.v (.bool c.Dense),.v (.string ⟨c.Text.toArray⟩)]
abbrev iR(c:Cmd):PV:=.agg (cmdC c)
abbrev pT(c:Cmd):List TC:=[.p (.v (.int .i64 c.Kind)),.p (.v (.int .i64 c.A)),.p (.v (.int .i64 c.B)),.p (.v (.int .i64 c.C)),.p (.v (.bool c.Dense)),.p (.v (.string ⟨c.Text.toArray⟩))]
abbrev VV(c:Cmd):List Value:=[.int .i64 c.Kind,.int .i64 c.A,.int .i64 c.B,.int .i64 c.C,.bool c.Dense,.string ⟨c.Text.toArray⟩]
def nP:Cmd:=⟨0,0,0,0,false,[]⟩
structure CForm where
 word:Str
 kind:Int
 dense:Bool
 b:Bool
 c:Bool
 text:Bool
 deriving DecidableEq
def xX:CForm->Nat->Cell:=fun f j=>match j with
 | 0=>.v (.string ⟨f.word.toArray⟩)
 | 1=>.v (.int .i64 f.kind)
 | 2=>.v (.bool f.dense)
 | 3=>.v (.bool f.b)
 | 4=>.v (.bool f.c)
 | _=>.v (.bool f.text)
abbrev VW(f:CForm):List TC:=[.p (.v (.string ⟨f.word.toArray⟩)),.p (.v (.int .i64 f.kind)),.p (.v (.bool f.dense)),.p (.v (.bool f.b)),.p (.v (.bool f.c)),.p (.v (.bool f.text))]
abbrev VX(f:CForm):PV:=.agg [.v (.string ⟨f.word.toArray⟩),.v (.int .i64 f.kind),.v (.bool f.dense),.v (.bool f.b),.v (.bool f.c),.v (.bool f.text)]
abbrev VY(l:List CForm):PV:=.one (.list CForm 6 xX l)
def formsL:List CForm:=[⟨[108,111,103],1,false,false,false,false⟩,⟨[115,104,111,119],2,false,false,false,false⟩,⟨[100,105,102,102],3,false,true,true,true⟩,⟨[99,111,109,98,105,110,101,100],4,false,false,true,true⟩,
 ⟨[99,99],4,true,false,true,true⟩,⟨[108,105,116,101,114,97,108],5,false,false,false,true⟩,⟨[114,101,103,101,120],6,false,false,false,true⟩,⟨[108,105,110,101,115],7,false,true,true,true⟩,⟨[98,108,97,109,101],8,false,false,false,true⟩,⟨[98,97,115,101,115],9,false,true,false,false⟩]
def b9(f:CForm):List Nat:=1::((if f.b=true then [2] else [])++(if f.c=true then [3] else []))
def Cmd.get(c:Cmd)(o:Nat):Int:=match o with
 | 1=>c.A
 | 2=>c.B
 | _=>c.C
def Cmd.put(c:Cmd)(o:Nat)(n:Int):Cmd:=match o with
 | 1=>{ c with A:=n }
 | 2=>{ c with B:=n }
 | _=>{ c with C:=n }
theorem PE{f:CForm}{o:Nat}(h:o∈b9 f):o=1\/o=2\/o=3:=by
 unfold b9 at h;rcases A39.1 h with h | h
 ·exact .inl h
 rcases A40.1 h with h | h
 ·split at h
  ·exact .inr (.inl (List.mem_singleton.1 h))
  ·cases h
 ·split at h
  ·exact .inr (.inr (List.mem_singleton.1 h))
  ·cases h
theorem IV(f:CForm):(b9 f).length<=3:=by unfold b9;cases f.b<;>cases f.c<;>decide
theorem VZ{c:Cmd}{o:Nat}(h:o=1\/o=2\/o=3):(pT c)[o]?=some (.p (.v (.int .i64 (c.get o)))):=by
 rcases h with rfl | rfl | rfl<;>rfl
theorem IW{c:Cmd}{o:Nat}(n:Int)(h:o=1\/o=2\/o=3):setTs (pT c) o [.p (.v (.int .i64 n))]=pT (c.put o n):=by
 rcases h with rfl | rfl | rfl<;>rfl
theorem ER(c:Cmd)(o:Nat)(n:Int):(c.put o n).Text=c.Text:=by
 unfold Cmd.put;split<;>rfl
def iS:List Nat->Cmd->Str->Option (Cmd×Str)
 | [],c,s=>some (c,s)
 | o::r,c,s=>if c.get o<0\/2147483647<c.get o then none else iS r (c.put o 0) (s++([32]++M6 (c.get o)))
def rW(f:CForm)(c:Cmd)(s:Str):Str×Int:=if c=⟨f.kind,0,0,0,f.dense,[]⟩ then (s,0) else ([],2)
def uF(f:CForm)(c:Cmd):Str×Int:=match iS (b9 f) c f.word with
 | none=>([],2)
 | some (c',s)=>if f.text=true then rW f { c' with Text:=[] } (s++([32]++L9 c'.Text)) else rW f c' s
def IX(c:Cmd):List CForm->Str×Int
 | []=>([],2)
 | f::r=>if f.kind≠c.Kind\/f.dense≠c.Dense then IX c r else uF f c
def nQ(c:Cmd):Str×Int:=IX c formsL
theorem SH{f:CForm}(h:f∈formsL):f.word.length<=8:=by
 unfold formsL at h;simp only[A39,A75,or_false]at h;rcases h with h | h | h | h | h | h | h | h | h | h<;>(rw[h];decide)
def iT:List Nat->List Str->Cmd->Option Cmd
 | o::r,w::ws,c=>match p7 w with
  | some (n,e)=>if e=w.length then iT r ws (c.put o n) else none
  | none=>none
 | _,_,c=>some c
def dO(f:CForm)(a:List Str):Option Cmd :=
 let b:Cmd:=⟨f.kind,0,0,0,f.dense,[]⟩
 if f.text=true then
  if a=[] then none
  else if a.length-1≠(b9 f).length then none
  else iT (b9 f) a.dropLast { b with Text:=a.getLastD [] }
 else if a.length≠(b9 f).length then none
 else iT (b9 f) a b
def iU(w:Str)(a:List Str):List CForm->Option Cmd
 | []=>none
 | f::r=>if f.word≠w then iU w a r else match dO f a with
  | some c=>some c
  | none=>iU w a r
def R3:List Str->Str
 | []=>[]
 | [w]=>w
 | w::x::r=>w++32::R3 (x::r)
theorem xY(w:Str):R3 [w]=w:=rfl
theorem gH(w x:Str)(r:List Str):R3 (w::x::r)=w++32::R3 (x::r):=rfl
theorem SI{w:Str}(b:w.all L8=true)(r:List Str):(R3 (w::r)).takeWhile L8=w:=by
 have ha:∀c∈w,L8 c=true:=List.all_eq_true.1 b;cases r with
 | nil =>
  rw[xY];have:=List.takeWhile_append_of_pos (l₂:=[]) ha;simpa using this
 | cons x r =>
  rw[gH,List.takeWhile_append_of_pos ha,List.takeWhile_cons];rw[show L8 32=false by rfl];simp
theorem IY(w:Str)(r:List Str):w.length<=(R3 (w::r)).length:=by
 cases r with
 | nil=>exact Nat.le_refl _
 | cons x r=>rw[gH,A35];omega
theorem IZ{w:Str}(a:w≠[])(b:w.all L8=true):L9 w=w:=by unfold L9;rw[A4 ⟨a,b⟩]
def dP(s:Str):Option (List Str):=if s=[] then some [] else if ended s=true then some ((E9 s).map List.dropLast) else none
theorem iV(a b d:Str)(h:(10:UInt8)∉a):H3 d (a++10::b)=(d++a++[10])::H3 [] b:=by
 induction a generalizing d with
 | nil=>simp[H3]
 | cons c r f =>
  simp only[A39,not_or]at h;rw[A57,o9,A5 (fun e=>h.1 e.symm),f _ h.2];simp
def S9(b:List Str):Str:=(b.map fun t=>t++[10]).flatten
theorem pU:∀(a:List Str),(∀t∈a,(10:UInt8)∉t)->E9 (S9 a)=a.map fun t=>t++[10]
 | [],_=>rfl
 | t::r,h=>by
  have b:=pU r (fun x d=>h x (by simp[d]));have e:S9 (t::r)=t++10::S9 r:=by unfold S9;simp
  have c:=iV t (S9 r) [] (h t (by simp));unfold E9 at b ⊢;rw[e,c,b];simp
theorem rX(a:Str):ended (a++[10])=true:=by unfold ended;simp
theorem SJ{s:Str}:ended s=true↔∃a,s=a++[10]:=by
 constructor
 ·intro h;unfold ended at h;have h:s.getLast?=some 10:=by simpa using h
  obtain⟨c,b⟩:=List.getLast?_eq_some_iff.1 h;exact⟨c,b⟩
 ·rintro⟨a,rfl⟩;exact rX a
theorem ES{a:List Str}(h:a≠[]):ended (S9 a)=true:=by
 have b:=List.dropLast_concat_getLast h;rw[SJ];refine⟨S9 a.dropLast++a.getLast h,?_⟩
 conv=>lhs;rw[<-b]
 unfold S9;simp
theorem JA(a:List Str)(h:∀t∈a,(10:UInt8)∉t):dP (S9 a)=some a:=by
 unfold dP;by_cases c:a=[]
 ·subst c;rfl
 ·have b:=ES c;have d:S9 a≠[]:=fun e=>by rw[e]at b;cases b
  rw[A5 d,A4 b,pU a h,A76]
  congr 1
  conv=>rhs;rw[<-List.map_id a]
  refine List.map_congr_left fun t _=>?_;simp
def ET:Str:=[92,32,78,111,32,110,101,119,108,105,110,101,32,97,116,32,101,110,100,32,111,102,32,102,105,108,101]
theorem WA:markS=[10]++ET++[10]:=rfl
def fL(x:PatchLine):List Str:=if ended x.Text=true then [x.Kind::x.Text.dropLast] else [x.Kind::x.Text,ET]
def j3(h:PatchHunk):Str:=[64,64,32,45]++J7 h.Old (M1 h)++[32,43]++J7 h.New (N4 h)++[32,64,64]
def iW(h:PatchHunk):List Str:=j3 h::(h.Lines.map fL).flatten
def eR(p:Patch):List Str:=([45,45,45,32]++L9 p.OldName)::([43,43,43,32]++L9 p.NewName)::(p.Hunks.map iW).flatten
theorem xZ(a b:List Str):S9 (a++b)=S9 a++S9 b:=by unfold S9;simp
theorem kL(a:Str)(b:List Str):S9 (a::b)=a++[10]++S9 b:=by unfold S9;simp
theorem JB(x:PatchLine):S9 (fL x)=(n9 x).flatten:=by
 unfold fL n9;by_cases h:ended x.Text=true
 ·rw[A4 h,A4 h];obtain⟨a,ha⟩:=SJ.1 h;rw[ha];unfold S9;simp
 ·rw[A5 h,A5 h,WA];unfold S9;simp
theorem EU(b:List PatchLine):S9 ((b.map fL).flatten)=((b.map n9).flatten).flatten:=by
 induction b with
 | nil=>rfl
 | cons x r c=>simp only[A49,A62,xZ,c,JB,A58]
theorem JC(h:PatchHunk):S9 (iW h)=(o4 h).flatten:=by
 unfold iW o4;rw[kL,EU,A62];unfold j3 m6;simp
theorem EV(p:Patch):S9 (eR p)=K1 p:=by
 unfold eR K1 iG dG;rw[kL,kL];have h:∀hs:List PatchHunk,S9 ((hs.map iW).flatten)=((hs.map o4).flatten).flatten:=by
  intro hs;induction hs with
  | nil=>rfl
  | cons x r b=>simp only[A49,A62,xZ,b,JC,A58]
 rw[h];simp
theorem SK{n:Int}(a:0<=n)(b:n<=2147483647):(10:UInt8)∉M6 n:=by
 rw[EQ a b];intro h;have:=(xW n.toNat).1 _ h;revert this;decide
theorem yA(n:Int):(10:UInt8)∉M6 n:=by
 by_cases h:n<0\/2147483647<n
 ·unfold M6;rw[A4 h];simp
 ·exact SK (by omega) (by omega)
theorem yB(a n:Int):(10:UInt8)∉J7 a n:=by
 have c:=yA a;have b:=yA (a+1);have d:=yA n;unfold J7;split
 ·simp
 ·split
  ·simp[c]
  ·split
   ·exact b
   ·simp[b,d]
theorem WB(c:UInt8):(10:UInt8)∉X1 c:=by
 have b:=c.toNat_lt;have a:∀{d:UInt8},d.toNat≠10->(10:UInt8)≠d:=fun h e=>h (by rw[<-e];rfl);unfold X1;split
 ·rename_i h;simp only[A39,A75,or_false,not_or];exact⟨by decide,a (by omega)⟩
 ·split
  ·decide
  ·split
   ·decide
   ·split
    ·rw[eK];have t:∀k,k<8->(10:UInt8)≠UInt8.ofNat (48+k):=fun k f=>a (by rw[bC k (by omega)];omega);simp only[A39,A75,or_false,not_or];exact⟨by decide,t _ (by omega),t _ (by omega),t _ (by omega)⟩
    ·simp only[A39,A75,or_false];exact a (by omega)
theorem yC(w:Str):(10:UInt8)∉L9 w:=by
 unfold L9;split
 ·rename_i h;intro a;have:=List.all_eq_true.1 h.2 _ a;revert this;decide
 ·simp only[A39,A40,List.mem_flatten,A65,A75,or_false,not_or,not_exists,not_and];refine⟨by decide,?_,by decide⟩;rintro l ⟨x,_,rfl⟩;exact WB x
theorem SL{x:PatchLine}(b:U1 x=true):∀t∈fL x,(10:UInt8)∉t:=by
 unfold U1 at b;have b:=A0 b;unfold wX at b;have j:x.Kind≠10:=fun e=>by rw[e]at b;exact b (.inl ⟨⟨by decide,by decide⟩,by decide⟩)
 have f:N0 x.Text=true:=by cases h:N0 x.Text<;>simp[h]at b ⊢
 unfold N0 at f;simp only[A33]at f;have g:(10:UInt8)∉x.Text.dropLast:=fun a=>by have:=List.all_eq_true.1 f.1 _ a;simp at this
 intro t c;unfold fL at c;split at c
 ·simp only[A39,A75,or_false]at c;subst c;simp only[A39,not_or];exact⟨fun e=>j e.symm,g⟩
 ·rename_i k;simp only[A39,A75,or_false]at c;rcases c with rfl | rfl
  ·simp only[A39,not_or];refine⟨fun e=>j e.symm,fun a=>?_⟩;have d:x.Text≠[]:=by intro e;rw[e]at a;cases a
   rw[<-List.dropLast_concat_getLast d]at a;rcases A40.1 a with a | a
   ·exact g a
   ·simp only[A39,A75,or_false]at a;refine k (SJ.2 ⟨x.Text.dropLast,?_⟩)
    conv=>lhs;rw[<-List.dropLast_concat_getLast d]
    rw[a]
  ·decide
theorem NL{p:Patch}(b:Y2 p.Hunks=true):∀t∈eR p,(10:UInt8)∉t:=by
 have e:∀(hs:List PatchHunk) (i j:Int),Z9 i j hs=true->∀h∈hs,h.Lines.all U1=true:=by
  intro hs;induction hs with
  | nil=>intro i j _ h d;cases d
  | cons x r s =>
   intro i j b h d;simp only[Z9,A33]at b;rcases A39.1 d with rfl | d
   ·exact b.1
   ·exact s _ _ b.2.2.2 h d
 unfold Y2 at b;rw[A33]at b;have e:=e p.Hunks 0 0 b.1;intro t c;unfold eR at c;rcases A39.1 c with rfl | c
 ·have:=yC p.OldName;simp[this]
 ·rcases A39.1 c with rfl | c
  ·have:=yC p.NewName;simp[this]
  ·obtain⟨l,f,a⟩:=List.mem_flatten.1 c;obtain⟨h,o,rfl⟩:=A65.1 f;unfold iW at a;rcases A39.1 a with rfl | a
   ·have g:=yB h.Old (M1 h);have k:=yB h.New (N4 h);unfold j3;simp[g,k]
   ·obtain⟨u,m,n⟩:=List.mem_flatten.1 a;obtain⟨x,q,rfl⟩:=A65.1 m;exact SL (List.all_eq_true.1 (e h o) x q) t n
def U2(l a:Str):Option Str:=if l.take a.length=a then (match aL (l.drop a.length) with | some (w,k)=>if k=(l.drop a.length).length then some w else none | none=>none) else none
def j4(l:Str)(i:Nat)(b:Str):Option (Int×Int×Nat):=if (l.drop i).take b.length=b then (match dN (l.drop (i+b.length)) with | none=>none | some (a,n,e)=>some (a,n,i+b.length+e)) else none
def bD(l:Str):Option (Int×Int×Int×Int) :=
 match j4 l 0 [64,64,32,45] with
 | none=>none
 | some (a,m,i)=>match j4 l i [32,43] with
  | none=>none
  | some (b,n,j)=>if l.drop j=[32,64,64] then some (a,m,b,n) else none
theorem SM(w a:Str):U2 (a++L9 w) a=some w:=by
 unfold U2;rw[A4 List.take_left,List.drop_left,NK];dsimp only;rw[A4 rfl]
theorem SN(h:PatchHunk)(B:0<=h.Old/\h.Old<=4096)(C:0<=h.New/\h.New<=4096)(D:M1 h<=4096)(E:N4 h<=4096):bD (j3 h)=some (h.Old,M1 h,h.New,N4 h):=by
 have w:0<=M1 h:=by unfold M1;omega
 have z:0<=N4 h:=by unfold N4;omega
 have m:=BX (a:=h.Old) (n:=M1 h) (t:=[32,43]++J7 h.New (N4 h)++[32,64,64]) (by omega) w (by omega) (by omega) (by intro c f;cases f;exact⟨by decide,by decide⟩);have q:=BX (a:=h.New) (n:=N4 h) (t:=[32,64,64]) (by omega) z (by omega) (by omega) (by intro c f;cases f;exact⟨by decide,by decide⟩);obtain⟨x,j⟩:∃x,x=J7 h.Old (M1 h):=⟨_,rfl⟩
 obtain⟨y,i⟩:∃y,y=J7 h.New (N4 h):=⟨_,rfl⟩
 have e:j3 h=[64,64,32,45]++(x++([32,43]++(y++[32,64,64]))):=by unfold j3;rw[j,i];simp
 rw[<-j,<-i]at m;rw[<-i]at q;have t0:((j3 h).drop 0).take 4=[64,64,32,45]:=by rw[e];rfl
 have s:(j3 h).drop 4=x++([32,43]++y++[32,64,64]):=by rw[e];simp
 have s1:j4 (j3 h) 0 [64,64,32,45]=some (h.Old,M1 h,4+x.length):=by
  simp only[j4,A34,A38,Nat.zero_add,Nat.reduceAdd];rw[A4 t0,s,m]
 have b:(j3 h).drop (4+x.length)=[32,43]++(y++[32,64,64]):=by
  rw[e,show 4+x.length=(([64,64,32,45]:Str)++x).length by simp;omega,<-A45,List.drop_left]
 have A:((j3 h).drop (4+x.length)).take 2=[32,43]:=by rw[b];rfl
 have v:(j3 h).drop (4+x.length+2)=y++[32,64,64]:=by rw[<-List.drop_drop,b];rfl
 have s2:j4 (j3 h) (4+x.length) [32,43]=some (h.New,N4 h,4+x.length+2+y.length):=by
  simp only[j4,A34,A38,Nat.zero_add,Nat.reduceAdd];rw[A4 A,v,q]
 have u:(j3 h).drop (4+x.length+2+y.length)=[32,64,64]:=by
  rw[show 4+x.length+2+y.length=4+x.length+(2+y.length) by omega,<-List.drop_drop,b,show 2+y.length=(([32,43]:Str)++y).length by simp;omega,<-A45,List.drop_left]
 unfold bD;rw[s1];dsimp only;rw[s2];dsimp only;rw[A4 u]
def gI(t:Str):Str:=if ended t=true then t.dropLast else t
def pV(hs:List PatchHunk)(x:PatchLine):Option (List PatchHunk):=match hs.getLast? with
 | none=>none
 | some h=>some (hs.dropLast++[⟨h.Old,h.New,h.Lines++[x]⟩])
def lG(hs:List PatchHunk)(l:Str):Option (List PatchHunk):=match hs.getLast? with
 | none=>none
 | some h=>match h.Lines.getLast? with
  | none=>none
  | some x=>if l=ET then some (hs.dropLast++[⟨h.Old,h.New,h.Lines.dropLast++[⟨x.Kind,gI x.Text⟩]⟩]) else none
def gJ(hs:List PatchHunk)(l:Str):Option (List PatchHunk):=match l with
 | []=>none
 | c::r=>if c=64 then (match bD l with | none=>none | some (a,_,b,_)=>some (hs++[⟨a,b,[]⟩]))
  else if c=32\/c=45\/c=43 then pV hs ⟨c,r++[10]⟩
  else if c=92 then lG hs l else none
def S4(hs:List PatchHunk):List Str->Option (List PatchHunk)
 | []=>some hs
 | x::r=>match gJ hs x with
  | none=>none
  | some hs'=>S4 hs' r
def Y4(l:List Str):Option Patch:=match l with
 | a::b::r=>(match U2 a [45,45,45,32],U2 b [43,43,43,32] with
  | some o,some n=>(match S4 [] r with | some hs=>some ⟨o,n,hs⟩ | none=>none)
  | _,_=>none)
 | _=>none
theorem SO(hs:List PatchHunk)(o n:Int)(c:List PatchLine)(x:PatchLine)(rest:List Str)(d:U1 x=true):S4 (hs++[⟨o,n,c⟩]) (fL x++rest)=S4 (hs++[⟨o,n,c++[x]⟩]) rest:=by
 unfold U1 at d;have d:=A0 d;unfold wX at d;have m:x.Kind=32\/x.Kind=45\/x.Kind=43:=by
  by_cases g:x.Kind=32
  ·exact .inl g
  ·by_cases e:x.Kind=45
   ·exact .inr (.inl e)
   ·by_cases j:x.Kind=43
    ·exact .inr (.inr j)
    ·exact absurd (.inl ⟨⟨g,e⟩,j⟩) d
 have f:x.Kind≠64:=by rcases m with h | h | h<;>rw[h]<;>decide
 have b:∀t:Str,gJ (hs++[⟨o,n,c⟩]) (x.Kind::t)=some (hs++[⟨o,n,c++[⟨x.Kind,t++[10]⟩]⟩]):=by
  intro t;simp only[gJ];rw[A5 f,A4 m];unfold pV;simp
 unfold fL;split
 ·rename_i k;obtain⟨a,ha⟩:=SJ.1 k;rw[A57,A61,S4,b];dsimp only;rw[ha,List.dropLast_concat,<-ha]
 ·rename_i k;rw[A57,S4,b];dsimp only;have e:gJ (hs++[⟨o,n,c++[⟨x.Kind,x.Text++[10]⟩]⟩]) ET=some (hs++[⟨o,n,c++[x]⟩]):=by
   have:ET=92::[32,78,111,32,110,101,119,108,105,110,101,32,97,116,32,101,110,100,32,111,102,32,102,105,108,101]:=rfl;rw[this];simp only[gJ];rw[A5 (by decide),A5 (by decide),A4 (by decide)];unfold lG;simp only[List.getLast?_append,List.getLast?_singleton,Option.some_or,List.dropLast_concat];rw[A4 this.symm];unfold gI;rw[A4 (rX _),List.dropLast_concat]
  rw[A57,A61,S4,e]
theorem yD(hs:List PatchHunk)(o n:Int):∀(c b:List PatchLine) (rest:List Str),c.all U1=true->S4 (hs++[⟨o,n,b⟩]) ((c.map fL).flatten++rest)=S4 (hs++[⟨o,n,b++c⟩]) rest
 | [],b,rest,_=>by simp
 | x::r,b,rest,hg=>by
  simp only[List.all_cons,A33]at hg;rw[A49,A62,A45,SO _ _ _ _ _ _ hg.1,yD hs o n r _ _ hg.2,A45];rfl
def HRead(h:PatchHunk):Prop:=h.Lines.all U1=true/\(0<=h.Old/\h.Old<=4096)/\(0<=h.New/\h.New<=4096)/\M1 h<=4096/\N4 h<=4096
theorem BZ:∀(hs:List PatchHunk) (i j:Int),Z9 i j hs=true->0<=i->0<=j->∀h∈hs,HRead h
 | [],_,_,_,_,_,h,hm=>by cases hm
 | x::r,i,j,hg,hi,hj,h,hm=>by
  have c:=cO (x::r) i j hg hi hj h hm;simp only[Z9,A33,decide_eq_true_eq]at hg;obtain⟨g1,a,d,b⟩:=hg;unfold V4 at a;have e:=cO (x::r) i j (by simp only[Z9,A33,decide_eq_true_eq];exact⟨g1,by unfold V4;exact a,d,b⟩) hi hj x (by simp);rcases A39.1 hm with rfl | hm
  ·exact⟨g1,c.1,c.2,by omega,by omega⟩
  ·exact BZ r _ _ b (by unfold M1;omega) (by unfold N4;omega) h hm
theorem yE:∀(c hs:List PatchHunk),(∀h∈c,HRead h)->S4 hs ((c.map iW).flatten)=some (hs++c)
 | [],hs,_=>by simp[S4]
 | h::r,hs,hg=>by
  obtain⟨g1,g,i,j,k⟩:=hg h (by simp);have e:((h::r).map iW).flatten=j3 h::((h.Lines.map fL).flatten++(r.map iW).flatten):=by simp[iW]
  have d:=SN h g i j k;have b:gJ hs (j3 h)=some (hs++[⟨h.Old,h.New,[]⟩]):=by
   have:j3 h=64::([64,32,45]++J7 h.Old (M1 h)++[32,43]++J7 h.New (N4 h)++[32,64,64]):=rfl;rw[this]at d ⊢;simp only[gJ];rw[A4 trivial,d]
  rw[e,S4,b];dsimp only;rw[yD _ _ _ _ _ _ g1,A61,yE r _ (fun x o=>hg x (by simp[o])),A45];rfl
theorem JD{p:Patch}(a:Y2 p.Hunks=true):Y4 (eR p)=some p:=by
 unfold Y2 at a;rw[A33]at a;unfold Y4 eR;simp only[SM];rw[yE p.Hunks [] (BZ p.Hunks 0 0 a.1 (by omega) (by omega))];rfl
def aM(f:List Str->Option Patch)(s:Str):Patch×Int :=
 if 16777216<s.length then (R8,1) else match dP s with
 | none=>(R8,4)
 | some l=>match f l with
  | none=>(R8,4)
  | some p=>if J1 p≠0\/K1 p≠s then (R8,4) else (p,0)
theorem check12_good{p:Patch}(h:J1 p=0):Y2 p.Hunks=true:=by
 unfold J1 at h;split at h
 ·cases h
 ·split at h
  ·cases h
  ·rename_i a;simpa using a
theorem JE{f:List Str->Option Patch}(c:∀p:Patch,Y2 p.Hunks=true->f (eR p)=some p){p:Patch}(a:J1 p=0):aM f (K1 p)=(p,0):=by
 have b:=check12_good a;have d:dP (K1 p)=some (eR p):=by rw[<-EV];exact JA _ (NL b)
 have hs:¬16777216<(K1 p).length:=by
  intro h;unfold J1 at a;split at a
  ·cases a
  ·split at a
   ·cases a
   ·first | (rw[A4 h]at a;cases a) | (simp at a)
 unfold aM;rw[A5 hs,d];dsimp only;rw[c p b];dsimp only;rw[A5];simp[a]
theorem ZQ(a b:Cmd):CS (VV a) (VV b)=decide (a=b):=by
 obtain⟨c,a2,a3,a4,a5,d⟩:=a;obtain⟨e,f,g,h,i,j⟩:=b;rw[Bool.eq_iff_iff,decide_eq_true_eq];simp only[VV,CS,eqV,ByteArray.toList_mk,Bool.and_true,A33,beq_iff_eq,Cmd.mk.injEq]
def yF(f:CForm)(a:List Str):Cmd:=if f.text=true then ⟨f.kind,0,0,0,f.dense,a.getLastD []⟩ else ⟨f.kind,0,0,0,f.dense,[]⟩
def mS(f:CForm)(a:List Str):List Str:=if f.text=true then a.dropLast else a
theorem JF(f:CForm)(a:List Str):dO f a=if f.text=true/\a=[] then none else if (mS f a).length≠(b9 f).length then none else iT (b9 f) (mS f a) (yF f a):=by
 unfold dO mS yF;by_cases b:f.text=true
 ·by_cases c:a=[]
  ·simp only[A4 b,A4 c,A4 (And.intro b c)]
  ·simp only[A4 b,A5 c,A5 (fun h:f.text=true/\a=[]=>c h.2),List.length_dropLast]
 ·simp only[A5 b,A5 (fun h:f.text=true/\a=[]=>b h.1)]
theorem SP{f:CForm}{a:List Str}{w:Str}(h:w∈mS f a):w∈a:=by
 unfold mS at h;split at h
 ·exact (List.dropLast_sublist a).subset h
 ·exact h
theorem SQ(f:CForm)(a:List Str):(mS f a).length<=a.length:=by
 unfold mS;split
 ·rw[List.length_dropLast];omega
 ·exact Nat.le_refl _
def nR(a:List Str):Cmd×Int:=match a with
 | []=>(nP,320)
 | w::r=>match iU w r formsL with
  | some c=>(c,0)
  | none=>(nP,320)
theorem yG:∀(a:List Str),(∀w∈a,w≠[])->a.length<=(R3 a).length
 | [],_=>Nat.zero_le _
 | [w],h=>by
  have:=List.length_pos_iff.2 (h w (by simp));rw[xY,List.length_singleton];exact this
 | w::x::r,h=>by
  have:=yG (x::r) fun v b=>h v (by simp[b]);rw[gH];simp only[A35,A34]at this ⊢;omega
theorem SR(w t:Str)(c:UInt8):(w++c::t).drop (w.length+1)=t:=by
 rw[show w++c::t=(w++[c])++t by simp];exact List.drop_left' (by simp)
def uG:Str:=[99,111,109,109,105,116]
def eS(ns:List Int)(i:Nat):Str:=uG++((ns.take i).map fun n=>32::M6 n).flatten
def iX(ns:List Int):Str:=eS ns ns.length
theorem yH{ns:List Int}{i:Nat}{n:Int}(h:ns[i]?=some n):eS ns (i+1)=eS ns i++([32]++M6 n):=by
 unfold eS;rw[List.take_add_one,h,A45];simp
theorem lH(ns:List Int):∀i,(eS ns i).length<=6+11*i
 | 0=>by simp[eS,uG]
 | i+1=>by
  have:=lH ns i;by_cases h:i<ns.length
  ·rw[yH (A32 h)];have:=Z4 ns[i];simp only[A35,A34,A38];omega
  ·have:eS ns (i+1)=eS ns i:=by
    unfold eS;rw[A64 (by omega),A64 (by omega)]
   rw[this];omega
def eT(L:List (List Int))(i:Nat):Str:=((L.take i).map fun ns=>iX ns++[10]).flatten
def WC(L:List (List Int)):Str:=eT L L.length
theorem yI{L:List (List Int)}{i:Nat}{ns:List Int}(h:L[i]?=some ns):eT L (i+1)=eT L i++(iX ns++[10]):=by
 unfold eT;rw[List.take_add_one,h];simp
theorem CA{L:List (List Int)}{m:Nat}(b:∀ns∈L,ns.length<=m):∀i,(eT L i).length<=(7+11*m)*i
 | 0=>by simp[eT]
 | i+1=>by
  have:=CA b i;by_cases h:i<L.length
  ·rw[yI (A32 h)];have a:=lH L[i] L[i].length;have c:=b L[i] (A37 h);have d:(iX L[i]).length<=6+11*m:=by
    unfold iX;have:11*L[i].length<=11*m:=Nat.mul_le_mul_left _ c;omega
   simp only[A35,A34,A38];rw[Nat.mul_succ];omega
  ·have a:eT L (i+1)=eT L i:=by
    unfold eT;rw[A64 (by omega),A64 (by omega)]
   rw[a,Nat.mul_succ];omega
theorem SS(L:List (List Int)):eT L 0=[]:=by simp[eT]
def pW(e:Int):Str:=[101,114,114,111,114,32]++M6 e++[10]
def fM(a b:Str)(e:Int):Str:=[62,32]++a++[10]++(if e≠0 then pW e else b)
theorem lI{α:Type}[DecidableEq α]:∀{l m:List α},l.Nodup->(∀x∈l,x∈m)->l.length<=m.length
 | [],_,_,_=>Nat.zero_le _
 | x::l,m,h,hs=>by
  have b:=List.nodup_cons.1 h;have d:l.length<=(m.erase x).length:=lI b.2 fun y c=>by
   have a:y≠x:=fun e=>b.1 (e ▸ c);exact (List.mem_erase_of_ne a).2 (hs y (by simp[c]))
  have f:=List.length_erase_of_mem (hs x (by simp));have i:0<m.length:=List.length_pos_of_mem (hs x (by simp));rw[A34];omega
theorem cA{l:List Int}{n:Nat}(h:l.Nodup)(b:∀x∈l,0<=x/\x<n):l.length<=n:=by
 have:=lI (m:=(List.range n).map fun i:Nat=>(i:Int)) h fun x c=>by
  have:=b x c;exact A65.2 ⟨x.toNat,A46.2 (by omega),by omega⟩
 simpa using this
theorem WD{l:List Int}{n:Nat}(h:l.Nodup)(d:∀x∈l,0<=x/\x<n)(f:n<=l.length)(c:Nat)(e:c<n):(c:Int)∈l:=by
 apply Classical.byContradiction;intro b;have:=cA (l:=(c:Int)::l) (n:=n) (List.nodup_cons.2 ⟨b,h⟩) fun x a=>by
  rcases A39.1 a with rfl | a
  ·exact⟨by omega,by omega⟩
  ·exact d x a
 rw[A34]at this;omega
theorem nS{q r:Nat->Bool}(x:Nat)(d:∀y,r y=(q y&&decide (y≠x))):∀{L:List Nat},L.Nodup->L.countP q=L.countP r+(if x∈L/\q x=true then 1 else 0)
 | [],_=>by simp
 | y :: L,h=>by
  have c:=List.nodup_cons.1 h;have g:=nS x d c.2;rw[List.countP_cons,List.countP_cons,g,d y];by_cases e:y=x
  ·subst e;have:¬(y∈L/\q y=true):=fun e=>c.1 e.1;rw[A5 this];cases j:q y<;>simp
  ·have f:(x∈y::L/\q x=true)↔(x∈L/\q x=true):=by
    rw[A39];constructor
    ·rintro⟨a | a,b⟩
     ·exact absurd a.symm e
     ·exact⟨a,b⟩
    ·exact fun ⟨a,b⟩=>⟨.inr a,b⟩
   rw[show (if x∈y::L/\q x=true then 1 else 0)=(if x∈L/\q x=true then 1 else 0) by simp only[f]];simp only[e,ne_eq,not_false_eq_true,decide_true,Bool.and_true];omega
abbrev Graph:=List Commit
def F1(g:Graph)(c:Nat):List Int:=(g[c]?.map (·.Parents)).getD []
def kM(n:Int)(a:List Int):List Int->Bool
 | []=>true
 | p::r=>decide (0<=p/\p<n/\p∉a)&&kM n (a++[p]) r
def related(g:Graph):Bool:=g.all fun c=>kM g.length [] c.Parents
theorem JG{n:Int}:∀{ps a:List Int},kM n a ps=true->(∀p∈ps,0<=p/\p<n/\p∉a)/\ps.Nodup
 | [],_,_=>⟨(fun _ h=>by cases h),List.nodup_nil⟩
 | p::r,a,h=>by
  unfold kM at h;rw[A33,decide_eq_true_eq]at h;obtain⟨c,d⟩:=JG h.2;refine⟨fun q b=>?_,List.nodup_cons.2 ⟨fun e=>(c p e).2.2 (by simp),d⟩⟩;rcases A39.1 b with rfl | b
  ·exact h.1
  ·have:=c q b;exact⟨this.1,this.2.1,fun hs=>this.2.2 (by simp[hs])⟩
theorem gK{g:Graph}{c:Nat}(b:c<g.length):F1 g c=g[c].Parents:=by unfold F1;rw[A32 b];rfl
theorem pX{g:Graph}{c:Nat}(a:¬c<g.length):F1 g c=[]:=by unfold F1;rw[A52 (by omega)];rfl
theorem O4{g:Graph}(h:related g=true)(c:Nat):(∀p∈F1 g c,0<=p/\p<g.length)/\(F1 g c).Nodup:=by
 by_cases a:c<g.length
 ·rw[gK a];have:=JG (List.all_eq_true.1 h g[c] (A37 a));exact⟨fun p b=>⟨(this.1 p b).1,(this.1 p b).2.1⟩,this.2⟩
 ·rw[pX a];exact⟨(fun _ h=>by cases h),List.nodup_nil⟩
inductive Reaches (g:Graph):Nat->Nat->Prop
 | one {c p:Nat} (h:(p:Int)∈F1 g c):Reaches g c p
 | more {c d p:Nat} (h:Reaches g c d) (h2:(p:Int)∈F1 g d):Reaches g c p
theorem Reaches.trans{g:Graph}{a b c:Nat}(h:Reaches g a b)(d:Reaches g b c):Reaches g a c:=by
 induction d with
 | one d=>exact .more h d
 | more _ f i=>exact .more i f
theorem Reaches.lt{g:Graph}(i:related g=true){a b:Nat}(h:Reaches g a b):a<g.length/\b<g.length:=by
 have d:∀{c p:Nat},(p:Int)∈F1 g c->c<g.length/\p<g.length:=fun {c p} h=>by
  refine⟨?_,by have:=(O4 i c).1 p h;omega⟩;apply Classical.byContradiction;intro f;rw[pX f]at h;cases h
 induction h with
 | one h=>exact d h
 | more _ e j=>exact⟨j.1,(d e).2⟩
def bE(ps:List Int)(l:List Bool):List Bool:=ps.foldl (fun l p=>l.set p.toNat true) l
def H0(l:List Bool)(c:Nat):Bool:=l[c]?.getD false
def aR(g:Graph)(l:List Bool)(c:Nat):List Bool:=if H0 l c=true then bE (F1 g c) l else l
def nT(g:Graph)(l:List Bool):List Bool:=(List.range g.length).foldl (aR g) l
def cC(g:Graph):Nat->List Bool->List Bool
 | 0,l=>l
 | k+1,l=>cC g k (nT g l)
def N8(g:Graph)(a:List Int):List Bool:=cC g g.length (bE a (List.replicate g.length false))
theorem dQ{l:List Bool}{i c:Nat}:H0 (l.set i true) c=(H0 l c||decide (i=c/\c<l.length)):=by
 unfold H0;rw[List.getElem?_set];split
 ·rename_i e;subst e;split
  ·rename_i h;simp[h]
  ·rename_i h;simp[h,A52 (Nat.le_of_not_lt h)]
 ·rename_i h;simp[h]
theorem u5:∀(ps:List Int) (l:List Bool),(bE ps l).length=l.length
 | [],_=>rfl
 | p::r,l=>by show (bE r (l.set p.toNat true)).length=_;rw[u5 r];simp
theorem x1:∀(ps:List Int) (l:List Bool) (c:Nat),H0 (bE ps l) c=(H0 l c||(decide (c<l.length)&&ps.any fun p=>decide (p.toNat=c)))
 | [],l,c=>by simp[bE]
 | p::r,l,c=>by
  show H0 (bE r (l.set p.toNat true)) c=_;rw[x1 r,dQ,A74,List.any_cons];by_cases a:p.toNat=c<;>by_cases b:c<l.length<;>simp[a,b]
theorem SU(g:Graph)(l:List Bool)(c:Nat):(aR g l c).length=l.length:=by unfold aR;split<;>simp[u5]
theorem CB(g:Graph):∀(a:List Nat) (l:List Bool),(a.foldl (aR g) l).length=l.length
 | [],_=>rfl
 | c::r,l=>by rw[A70,CB g r,SU]
theorem yJ(g:Graph)(l:List Bool):(nT g l).length=l.length:=CB g _ l
theorem rY(g:Graph):∀(k:Nat) (l:List Bool),(cC g k l).length=l.length
 | 0,_=>rfl
 | k+1,l=>by rw[cC,rY g k,yJ]
theorem eU(g:Graph)(s:List Int):(N8 g s).length=g.length:=by unfold N8;rw[rY,u5];simp
def LeB(a b:List Bool):Prop:=a.length=b.length/\∀c,H0 a c=true->H0 b c=true
theorem LeB.refl(a:List Bool):LeB a a:=⟨rfl,fun _ h=>h⟩
theorem LeB.trans{a b c:List Bool}(h:LeB a b)(d:LeB b c):LeB a c:=⟨h.1.trans d.1,fun x e=>d.2 x (h.2 x e)⟩
theorem lJ:∀{a b:List Bool},LeB a b->a=b\/a.countP id<b.countP id
 | [],[],_=>.inl rfl
 | [],_::_,h=>by have:=h.1;simp at this
 | _::_,[],h=>by have:=h.1;simp at this
 | x::a,y::b,h=>by
  have e:LeB a b:=⟨by simpa using h.1,fun c f=>h.2 (c+1) f⟩
  have d:x=true->y=true:=fun g=>by simpa[H0] using h.2 0 (by simpa[H0] using g)
  rw[List.countP_cons,List.countP_cons];rcases lJ e with rfl | h3
  ·cases x<;>cases y
   ·exact .inl rfl
   ·right;simp
   ·exact absurd (d rfl) (by decide)
   ·exact .inl rfl
  ·right;cases x<;>cases y
   ·simpa using h3
   ·simp;omega
   ·exact absurd (d rfl) (by decide)
   ·simpa using h3
theorem JH{a b:List Bool}(h:LeB a b)(d:LeB b a):a=b:=by
 rcases lJ h with e | e
 ·exact e
 ·rcases lJ d with c | c
  ·exact c.symm
  ·omega
theorem CC(ps:List Int)(l:List Bool):LeB l (bE ps l):=⟨(u5 ps l).symm,fun c h=>by rw[x1,h];rfl⟩
theorem JI(g:Graph)(l:List Bool)(c:Nat):LeB l (aR g l c):=by unfold aR;split<;>first | exact CC _ _ | exact LeB.refl _
theorem pY(g:Graph):∀(b:List Nat) (l:List Bool),LeB l (b.foldl (aR g) l)
 | [],l=>LeB.refl l
 | c::r,l=>(JI g l c).trans (pY g r _)
theorem JJ(g:Graph):∀(k:Nat) (l:List Bool),LeB l (cC g k l)
 | 0,l=>LeB.refl l
 | k+1,l=>(pY g _ l).trans (JJ g k _)
def eV(g:Graph)(l:List Bool):Prop:=∀c,H0 l c=true->∀p∈F1 g c,H0 l p.toNat=true
theorem JK(g:Graph):∀(a:List Nat) (l:List Bool),a.foldl (aR g) l=l->∀c∈a,aR g l c=l
 | [],_,_,_,h=>by cases h
 | d::r,l,h,c,hc=>by
  rw[A70]at h;have b:aR g l d=l:=JH (by have:=pY g r (aR g l d);rw[h]at this;exact this) (JI g l d);rcases A39.1 hc with rfl | hc
  ·exact b
  ·rw[b]at h;exact JK g r l h c hc
theorem EW{l:List Bool}{c:Nat}(h:H0 l c=true):c<l.length:=by
 unfold H0 at h;apply Classical.byContradiction;intro a;rw[A52 (by omega)]at h;cases h
theorem NM{g:Graph}{l:List Bool}(f:related g=true)(e:l.length=g.length)(h:nT g l=l):eV g l:=by
 intro c b p d;have a:=JK g _ l h c (A46.2 (by rw[<-e];exact EW b));unfold aR at a;rw[A4 b]at a;rw[<-a,x1];have:=(O4 f c).1 p d;rw[A59];right;rw[A33,decide_eq_true_eq,List.any_eq_true];exact⟨by omega,p,d,by simp⟩
theorem pZ{g:Graph}{l:List Bool}(h:eV g l):nT g l=l:=by
 have d:∀(b:List Nat),b.foldl (aR g) l=l:=by
  intro b;induction b with
  | nil=>rfl
  | cons c r i =>
   rw[A70];have:aR g l c=l:=by
    unfold aR;split
    ·rename_i f;refine JH ⟨u5 _ _,fun x a=>?_⟩ (CC _ _);rw[x1,A59,A33,List.any_eq_true]at a;rcases a with a | ⟨_,p,hp,e⟩
     ·exact a
     ·rw[<-A0 e];exact h c f p hp
    ·rfl
   rw[this];exact i
 exact d _
theorem tE{g:Graph}(b:related g=true):∀(k:Nat) {l:List Bool},l.length=g.length->eV g (cC g k l)\/l.countP id+k<=(cC g k l).countP id
 | 0,l,_=>.inr (by simp[cC])
 | k+1,l,hl=>by
  rw[cC];rcases lJ (pY g (List.range g.length) l) with e | e
  ·left;have a:eV g l:=NM b hl e.symm;rw[show nT g l=l from e.symm];have:∀k,cC g k l=l:=fun k=>by
    induction k with
    | zero=>rfl
    | succ k d=>rw[cC,pZ a];exact d
   rw[this];exact a
  ·rcases tE b k (l:=nT g l) (by rw[yJ];exact hl) with h | h
   ·exact .inl h
   ·right;have e:l.countP id<(nT g l).countP id:=e;omega
theorem EX{g:Graph}(j:related g=true)(s:List Int)(hs:∀f∈s,0<=f/\f<g.length):eV g (N8 g s):=by
 by_cases i:s=[]
 ·subst i;have:eV g (List.replicate g.length false):=fun c d=>by
   unfold H0 at d;rw[List.getElem?_replicate]at d;split at d<;>cases d
  have e:∀k,cC g k (List.replicate g.length false)=List.replicate g.length false:=fun k=>by
   induction k with
   | zero=>rfl
   | succ k m=>rw[cC,pZ this];exact m
  unfold N8;show eV g (cC g g.length (List.replicate g.length false));rw[e];exact this
 ·rcases tE j g.length (l:=bE s (List.replicate g.length false)) (by rw[u5];simp) with h | h
  ·exact h
  ·obtain⟨f,r,rfl⟩:=List.exists_cons_of_ne_nil i;have q:(cC g g.length (bE (f::r) (List.replicate g.length false))).countP id<=g.length:=by
    have:=List.countP_le_length (p:=id) (l:=cC g g.length (bE (f::r) (List.replicate g.length false)));rw[rY,u5,A73]at this;exact this
   have v:0<(bE (f::r) (List.replicate g.length false)).countP id:=by
    rw[List.countP_pos_iff];have w:=hs f (by simp);have a:H0 (bE (f::r) (List.replicate g.length false)) f.toNat=true:=by
     rw[x1,A59];right;rw[A33,decide_eq_true_eq,List.any_eq_true];exact⟨by rw[A73];omega,f,by simp,by simp⟩
    have b:=EW a;unfold H0 at a;rw[A32 b]at a;exact⟨_,A37 b,a⟩
   omega
theorem lK{g:Graph}(w:related g=true){s:List Int}(hs:∀f∈s,0<=f/\f<g.length)(x:Nat):H0 (N8 g s) x=true↔∃f:Nat,(f:Int)∈s/\(f=x\/Reaches g f x):=by
 constructor
 ·let Good:List Bool->Prop:=fun l=>∀x,H0 l x=true->∃f:Nat,(f:Int)∈s/\(f=x\/Reaches g f x)
  have y:∀l c,Good l->Good (aR g l c):=by
   intro l c h x a;unfold aR at a;split at a
   ·rename_i A;rw[x1,A59,A33,List.any_eq_true]at a;rcases a with a | ⟨_,p,hp,e⟩
    ·exact h x a
    ·have e:=A0 e;have B:=(O4 w c).1 p hp;have u:((x:Nat):Int)=p:=by omega
     obtain⟨f,q,b⟩:=h c A;refine⟨f,q,.inr ?_⟩;rcases b with rfl | b
     ·exact .one (by rw[u];exact hp)
     ·exact .more b (by rw[u];exact hp)
   ·exact h x a
  have b:∀(t:List Nat) l,Good l->Good (t.foldl (aR g) l):=by
   intro t;induction t with
   | nil=>exact fun l h=>h
   | cons c r j=>exact fun l h=>j _ (y l c h)
  have z:∀k l,Good l->Good (cC g k l):=by
   intro k;induction k with
   | zero=>exact fun l h=>h
   | succ k j=>exact fun l h=>j _ (b _ l h)
  refine z _ _ (fun x a=>?_) x;rw[x1,A59,A33,List.any_eq_true]at a;rcases a with a | ⟨_,p,hp,e⟩
  ·unfold H0 at a;rw[List.getElem?_replicate]at a;split at a<;>cases a
  ·have e:=A0 e;have:=hs p hp;exact⟨x,by rw[show ((x:Nat):Int)=p by omega];exact hp,.inl rfl⟩
 ·rintro⟨f,q,h⟩;have d:=EX w s hs;have v:H0 (N8 g s) f=true:=by
   refine (JJ g _ _).2 f ?_;rw[x1,A59];right;rw[A33,decide_eq_true_eq,List.any_eq_true];have:=hs f q;exact⟨by rw[A73];omega,f,q,by simp⟩
  rcases h with rfl | h
  ·exact v
  ·induction h with
   | one h=>exact d _ v _ h
   | more _ b j=>exact d _ j _ b
def cyclic(g:Graph):Bool:=(List.range g.length).any fun c=>decide (F1 g c≠[])&&H0 (N8 g (F1 g c)) c
theorem iY{g:Graph}(k:related g=true):cyclic g=true↔∃c,Reaches g c c:=by
 unfold cyclic;rw[List.any_eq_true];constructor
 ·rintro⟨c,_,h⟩;rw[A33]at h;obtain⟨f,j,d⟩:=(lK k (O4 k c).1 c).1 h.2;rcases d with rfl | d
  ·exact⟨f,.one j⟩
  ·exact⟨c,(Reaches.one j).trans d⟩
 ·rintro⟨c,h⟩;have q:=(h.lt k).1;refine⟨c,A46.2 q,?_⟩;have u:∀{a b:Nat},Reaches g a b->∃f:Nat,(f:Int)∈F1 g a/\(f=b\/Reaches g f b):=by
   intro a b h;induction h with
   | one h=>exact⟨_,h,.inl rfl⟩
   | more _ d v =>
    obtain⟨f,j,p⟩:=v;refine⟨f,j,.inr ?_⟩;rcases p with rfl | p
    ·exact .one d
    ·exact .more p d
  obtain⟨f,j,d⟩:=u h;rw[A33,decide_eq_true_eq];exact⟨(fun e=>by rw[e]at j;cases j),(lK k (O4 k c).1 c).2 ⟨f,j,d⟩⟩
def qA(g:Graph)(ex:List Int)(p:Nat):Nat:=(List.range g.length).countP fun c:Nat=>decide ((c:Int)∉ex/\(p:Int)∈F1 g c)
theorem CD{g:Graph}{ex:List Int}{x p:Nat}(f:(x:Int)∉ex)(a:x<g.length):qA g ex p=qA g (ex++[(x:Int)]) p+(if (p:Int)∈F1 g x then 1 else 0):=by
 unfold qA;rw[nS (q:=fun c:Nat=>decide ((c:Int)∉ex/\(p:Int)∈F1 g c)) (r:=fun c:Nat=>decide ((c:Int)∉ex++[(x:Int)]/\(p:Int)∈F1 g c)) x (fun y=>?_) List.nodup_range]
 ·congr 1
  simp only[A46,a,true_and,decide_eq_true_eq,f,not_false_eq_true]
 ·simp only[A40,List.mem_singleton];by_cases b:(y:Int)∈ex<;>by_cases d:y=x<;>by_cases e:(p:Int)∈F1 g y<;>simp[b,d,e]<;>omega
theorem WE{g:Graph}{ex:List Int}{p:Nat}(h:0<qA g ex p):∃c,c<g.length/\(c:Int)∉ex/\(p:Int)∈F1 g c:=by
 unfold qA at h;rw[List.countP_pos_iff]at h;obtain⟨c,a,h⟩:=h;have:=A0 h;exact⟨c,A46.1 a,this.1,this.2⟩
theorem CE{g:Graph}{ex:List Int}{p:Nat}(h:qA g ex p=0){c:Nat}(a:c<g.length)(d:(p:Int)∈F1 g c):(c:Int)∈ex:=by
 apply Classical.byContradiction;intro b;have:0<qA g ex p:=by
  unfold qA;rw[List.countP_pos_iff];exact⟨c,A46.2 a,by simp[b,d]⟩
 omega
structure KInv (g:Graph) (k i:Nat) (ch:List Int) (out:List Int):Prop where
 len:ch.length=g.length
 nodup:out.Nodup
 rng:∀x∈out,0<=x/\x<g.length
 cnt:∀p,p<g.length->ch[p]?.getD 0+(if (p:Int)∈(F1 g (out.getD k 0).toNat).take i then 1 else 0)=qA g (out.take k) p
 zero:∀p,p<g.length->((p:Int)∈out↔ch[p]?.getD 0=0)
 kids:∀j (h:j<out.length) (c:Nat),out[j]∈F1 g c->(c:Int)∈out.take j
theorem minimal{R:Nat->Nat->Prop}(i:∀a b c,R a b->R b c->R a c)(g:∀a,¬R a a):∀{M:List Nat},M≠[]->∃m∈M,∀x∈M,¬R x m
 | [],h=>absurd rfl h
 | [a],_=>⟨a,by simp,fun x d=>by rw[List.mem_singleton.1 d];exact g a⟩
 | a::b::r,_=>by
  obtain⟨m,j,h⟩:=minimal i g (M:=b::r) (by simp);by_cases e:R a m
  ·refine⟨a,by simp,fun x d f=>?_⟩;rcases A39.1 d with rfl | d
   ·exact g _ f
   ·exact h x d (i _ _ _ f e)
  ·refine⟨m,List.mem_cons_of_mem _ j,fun x d=>?_⟩;rcases A39.1 d with rfl | d
   ·exact e
   ·exact h x d
theorem KInv.done{g:Graph}(O:related g=true){Q b:List Int}(h:KInv g b.length 0 Q b):(decide (b.length<g.length))=cyclic g:=by
 cases z:cyclic g
 ·rw[decide_eq_false_iff_not];intro A;have N:∀c,¬Reaches g c c:=fun c d=>by rw[(iY O).2 ⟨c,d⟩]at z;cases z
  let M:=(List.range g.length).filter fun c:Nat=>decide ((c:Int)∉b);have W:M≠[]:=by
   intro e;have w:∀c,c<g.length->(c:Int)∈b:=fun c z=>by
    apply Classical.byContradiction;intro U;have:c∈M:=List.mem_filter.2 ⟨A46.2 z,by simp[U]⟩;rw[e]at this;cases this
   have:=lI (l:=(List.range g.length).map fun i:Nat=>(i:Int)) (m:=b) ((List.nodup_range).map (fun i:Nat=>(i:Int)) (fun _ _ L e=>L (Int.ofNat.inj e))) fun x Y=>by
    obtain⟨i,k,rfl⟩:=A65.1 Y;exact w i (A46.1 k)
   rw[A67,A72]at this;omega
  obtain⟨m,X,B⟩:=minimal (R:=Reaches g) (fun _ _ _ F C=>F.trans C) N W;obtain⟨q,u⟩:=List.mem_filter.1 X;have q:=A46.1 q;have u:=A0 u;have F:=h.cnt m q;have C:¬Q[m]?.getD 0=0:=fun e=>u ((h.zero m q).2 e);rw[A44,List.take_zero,A5 (by simp),Int.add_zero]at F;obtain⟨c,G,H,I⟩:=WE (g:=g) (ex:=b) (p:=m) (by omega);exact B c (List.mem_filter.2 ⟨A46.2 G,by simp[H]⟩) (.one I)
 ·rw[decide_eq_true_eq];obtain⟨c,d⟩:=(iY O).1 z;apply Classical.byContradiction;intro U;have K:=WD h.nodup h.rng (by omega) c (d.lt O).1;have P:∀{x y:Nat},Reaches g x y->∀j (s:j<b.length),b[j]=(y:Int)->∃i,∃k:i<b.length,i<j/\b[i]=(x:Int):=by
   have one:∀{x y:Nat},(y:Int)∈F1 g x->∀j (s:j<b.length),b[j]=(y:Int)->∃i,∃k:i<b.length,i<j/\b[i]=(x:Int):=by
    intro x y v j s e;have:=h.kids j s x (by rw[e];exact v);obtain⟨i,k,S⟩:=List.getElem_of_mem this;rw[A42]at k;rw[List.getElem_take]at S;exact⟨i,by omega,by omega,S⟩
   intro x y v;induction v with
   | one h=>exact one h
   | more _ C ih =>
    intro j s e;obtain⟨i,k,A,E⟩:=one C j s e;obtain⟨Z,J,T,V⟩:=ih i k E;exact⟨Z,J,by omega,V⟩
  obtain⟨j,s,e⟩:=List.getElem_of_mem K;obtain⟨i,k,A,E⟩:=P d j s e;have:=(List.getElem_inj (i:=i) (j:=j) (h₀:=k) (h₁:=s) h.nodup).1 (E.trans e.symm);omega
def O5(l:List Int)(p:Nat):Int:=l[p]?.getD 0
def bump(l:List Int)(p:Int):List Int:=l.set p.toNat (O5 l p.toNat+1)
def aN(l:List Int)(p:Int):List Int:=l.set p.toNat (O5 l p.toNat-1)
def Y5(ps:List Int)(l:List Int):List Int:=ps.foldl bump l
def Q6(g:Graph)(i:Nat):List Int:=(g.take i).foldl (fun l c=>Y5 c.Parents l) (List.replicate g.length 0)
theorem eW{l:List Int}{i p:Nat}{v:Int}(h:i<l.length):O5 (l.set i v) p=if i=p then v else O5 l p:=by
 unfold O5;rw[List.getElem?_set];split
 ·rename_i e;subst e;simp[h]
 ·rfl
theorem kN:∀(ps:List Int) (l:List Int),(Y5 ps l).length=l.length
 | [],_=>rfl
 | p::r,l=>by show (Y5 r (bump l p)).length=_;rw[kN r];simp[bump]
theorem nU{n:Int}:∀{ps:List Int} {l:List Int},(∀p∈ps,0<=p/\p<l.length)->ps.Nodup->∀p:Nat,O5 (Y5 ps l) p=O5 l p+(if (p:Int)∈ps then 1 else 0)
 | [],l,_,_,p=>by simp[Y5]
 | q::r,l,h,b,p=>by
  show O5 (Y5 r (bump l q)) p=_;have f:=h q (by simp);have b:=List.nodup_cons.1 b;rw[nU (n:=n) (fun x d=>by have:=h x (by simp[d]);simpa[bump] using this) b.2 p];unfold bump;rw[eW (by omega)];by_cases e:q.toNat=p
  ·have a:(p:Int)=q:=by omega
   have c:¬(p:Int)∈r:=by rw[a];exact b.1
   rw[A4 e,A5 c,a,A4 (by simp),e];omega
  ·have a:((p:Int)∈q::r)↔(p:Int)∈r:=by
    rw[A39];exact⟨fun h=>h.resolve_left (by omega),.inr⟩
   rw[A5 e];simp only[a]
theorem cS(g:Graph):∀i,(Q6 g i).length=g.length:=by
 intro i;unfold Q6;have b:∀(a:List Commit) (l:List Int),(a.foldl (fun l c=>Y5 c.Parents l) l).length=l.length:=by
  intro a;induction a with
  | nil=>intro l;rfl
  | cons c r d=>intro l;rw[A70,d,kN]
 rw[b];simp
theorem mT{g:Graph}{i:Nat}(a:i<g.length):Q6 g (i+1)=Y5 (F1 g i) (Q6 g i):=by
 unfold Q6;rw[List.take_add_one,A32 a,Option.toList_some,A82,gK a];rfl
theorem kO{g:Graph}(b:related g=true)(p:Nat)(a:p<g.length):∀i,i<=g.length->O5 (Q6 g i) p=((List.range i).countP fun c:Nat=>decide ((p:Int)∈F1 g c):Nat)
 | 0,_=>by
  unfold Q6 O5;simp[List.getElem?_replicate,a]
 | i+1,hi=>by
  have hpr:=O4 b i;rw[mT (by omega),nU (n:=0) (fun q d=>by rw[cS];exact hpr.1 q d) hpr.2,kO b p a i (by omega),A84,List.countP_append];by_cases h:(p:Int)∈F1 g i<;>simp[h]
theorem tF{g:Graph}(b:related g=true)(p:Nat)(a:p<g.length):O5 (Q6 g g.length) p=qA g [] p:=by
 rw[kO b p a _ (Nat.le_refl _)];unfold qA;simp
def V7(b:List Int)(i:Nat):List Int:=((List.range i).filter fun c=>decide (O5 b c=0)).map fun c:Nat=>(c:Int)
theorem EY(a:List Int)(i:Nat):V7 a (i+1)=if O5 a i=0 then V7 a i++[(i:Int)] else V7 a i:=by
 unfold V7;rw[A84,A87,A63];by_cases h:O5 a i=0<;>simp[h]
theorem tG(a:List Int)(i p:Nat):(p:Int)∈V7 a i↔p<i/\O5 a p=0:=by
 unfold V7;rw[A65];constructor
 ·rintro⟨c,b,e⟩;have e:c=p:=Int.ofNat.inj e;subst e;rw[List.mem_filter,A46,decide_eq_true_eq]at b;exact b
 ·rintro⟨d,f⟩;exact⟨p,by rw[List.mem_filter,A46,decide_eq_true_eq];exact⟨d,f⟩,rfl⟩
theorem kP{b:List Int}{i:Nat}:∀x∈V7 b i,0<=x/\x<i:=by
 intro x a;unfold V7 at a;obtain⟨c,d,rfl⟩:=A65.1 a;have:=A46.1 (List.mem_filter.1 d).1;omega
theorem mU(c:List Int)(i:Nat):(V7 c i).Nodup:=by
 unfold V7;exact (List.nodup_range.filter _).map (fun i:Nat=>(i:Int)) fun _ _ b e=>b (Int.ofNat.inj e)
theorem JL(a:List Int)(i:Nat):(V7 a i).length<=i:=cA (mU a i) kP
theorem KInv.start{g:Graph}(l:related g=true):KInv g 0 0 (Q6 g g.length) (V7 (Q6 g g.length) g.length) where
 len:=cS g _
 nodup:=mU _ _
 rng:=kP
 cnt:=fun p e=>by
  have:=tF l p e;unfold O5 at this;rw[this,List.take_zero,List.take_zero];simp
 zero:=fun p e=>by
  have:=tG (Q6 g g.length) g.length p;rw[this];exact⟨fun h=>h.2,fun h=>⟨e,h⟩⟩
 kids:=fun j k c b=>by
  have f:=kP _ (A37 k);have i:=(tG (Q6 g g.length) g.length ((V7 (Q6 g g.length) g.length)[j]).toNat).1 (by rw[Int.toNat_of_nonneg f.1];exact A37 k);rw[tF l _ i.1]at i;have d:c<g.length:=by
   apply Classical.byContradiction;intro m;rw[pX m]at b;cases b
  have:=CE (g:=g) (ex:=[]) (p:=((V7 (Q6 g g.length) g.length)[j]).toNat) (by omega) d (by rw[Int.toNat_of_nonneg f.1];exact b);cases this
theorem KInv.le{g:Graph}{k i:Nat}{b a:List Int}(h:KInv g k i b a):a.length<=g.length:=cA h.nodup h.rng
theorem cD{α:Type}{l m:List α}{k:Nat}(h:k<=l.length):(l++m).take k=l.take k:=by rw[List.take_append_of_le_length h]
theorem JM{α:Type}{l m:List α}{k:Nat}{d:α}(h:k<l.length):(l++m).getD k d=l.getD k d:=by
 rw[A43,A43,A50 h]
theorem W7{α:Type}{l:List α}{i:Nat}{x:α}(h:i<l.length):x∈l.take (i+1)↔x∈l.take i\/x=l[i]:=by
 rw[List.take_add_one,A32 h,Option.toList_some,A40,List.mem_singleton]
theorem Y6{α:Type}{l:List α}(c:l.Nodup){i:Nat}(h:i<l.length):l[i]∉l.take i:=by
 intro b;obtain⟨j,a,e⟩:=List.getElem_of_mem b;rw[A42]at a;rw[List.getElem_take]at e;have:=(List.getElem_inj (i:=j) (j:=i) (h₀:=by omega) (h₁:=h) c).1 e;omega
theorem KInv.step{g:Graph}(Y:related g=true){k i:Nat}{f b:List Int}(h:KInv g k i f b)(E:k<b.length){c p:Nat}(K:b[k]=(c:Int))(G:i<(F1 g c).length)(H:(F1 g c)[i]=(p:Int)) :
  p<g.length/\1<=O5 f p/\O5 f p<=g.length/\KInv g k (i+1) (aN f p) (if O5 f p-1=0 then b++[(p:Int)] else b):=by
 have hpr:=O4 Y c;have hpm:(p:Int)∈F1 g c:=by rw[<-H];exact A37 G
 have m:p<g.length:=by have:=hpr.1 p hpm;omega
 have A:c<g.length:=by have:=h.rng b[k] (A37 E);omega
 have v:b.getD k 0=(c:Int):=by rw[A43,A32 E];exact K
 have P:(c:Int)∉b.take k:=by rw[<-K];exact Y6 h.nodup E
 have O:(p:Int)∉(F1 g c).take i:=by rw[<-H];exact Y6 hpr.2 G
 have S:=h.cnt p m;rw[v,A36,A5 O]at S;have T:=CD (g:=g) (ex:=b.take k) (x:=c) (p:=p) P A;rw[A4 hpm]at T;have W:qA g (b.take k) p<=g.length:=by
  unfold qA;have:=List.countP_le_length (p:=fun c:Nat=>decide ((c:Int)∉b.take k/\(p:Int)∈F1 g c)) (l:=List.range g.length)
  rwa[A72]at this
 have V:O5 f p=f[p]?.getD 0:=rfl;have L:1<=O5 f p:=by omega
 have o:(p:Int)∉b:=fun s=>by have:=(h.zero p m).1 s;omega
 have F:∀q,O5 (aN f p) q=if p=q then O5 f p-1 else O5 f q:=fun q=>by
  unfold aN;rw[A36,eW (by rw[h.len];exact m)]
 refine⟨m,L,by omega,?_⟩;have w:(if O5 f p-1=0 then b++[(p:Int)] else b).take k=b.take k:=by split<;>first | exact cD (by omega) | rfl
 have B:(if O5 f p-1=0 then b++[(p:Int)] else b).getD k 0=b.getD k 0:=by split<;>first | exact JM E | rfl
 refine⟨by unfold aN;rw[A74];exact h.len,?_,?_,?_,?_,?_⟩
 ·split
  ·exact List.nodup_append.2 ⟨h.nodup,by simp,fun x d y Z e=>by rw[List.mem_singleton.1 Z]at e;exact o (e ▸ d)⟩
  ·exact h.nodup
 ·intro x d;split at d
  ·rcases A40.1 d with d | d
   ·exact h.rng x d
   ·rw[List.mem_singleton.1 d];omega
  ·exact h.rng x d
 ·intro q Q;rw[w,B,v,A36];have I:=F q;have J:O5 (aN f p) q=(aN f p)[q]?.getD 0:=rfl;rw[<-J,I];by_cases e:p=q
  ·subst e;rw[A4 rfl,A4 ((W7 G).2 (.inr H.symm))];omega
  ·rw[A5 e];have z:=h.cnt q Q;rw[v,A36]at z;have U:((q:Int)∈(F1 g c).take (i+1))↔(q:Int)∈(F1 g c).take i:=by
    rw[W7 G,H];exact⟨fun h=>h.resolve_right (by omega),.inl⟩
   simp only[U];exact z
 ·intro q Q;have I:=F q;have J:O5 (aN f p) q=(aN f p)[q]?.getD 0:=rfl;rw[<-J,I];by_cases e:p=q
  ·subst e;rw[A4 rfl];split
   ·rename_i u;simp[u]
   ·rename_i u;exact⟨fun s=>absurd s o,fun e=>absurd e u⟩
  ·rw[A5 e];have z:=h.zero q Q;split
   ·rw[A40,List.mem_singleton];exact⟨fun s=>z.1 (s.resolve_right (by omega)),fun e=>.inl (z.2 e)⟩
   ·exact z
 ·intro j M x d;split at M
  ·rename_i u;simp only[u,if_true]at d ⊢;by_cases C:j<b.length
   ·rw[A78 C]at d;rw[cD (by omega)];exact h.kids j C x d
   ·have N:j=b.length:=by rw[A35,List.length_singleton]at M;omega
    subst N;rw[A79 (Nat.le_refl _)]at d;simp only[A80,List.getElem_cons_zero]at d;have R:x<g.length:=by
     apply Classical.byContradiction;intro X;rw[pX X]at d;cases d
    have hz:qA g (b.take k++[(c:Int)]) p=0:=by omega
    have:=CE hz R d;rw[cD (Nat.le_refl _),A44];rcases A40.1 this with s | s
    ·exact List.mem_of_mem_take s
    ·rw[List.mem_singleton.1 s,<-K];exact A37 E
  ·rename_i u;simp only[u,if_false]at d ⊢;exact h.kids j M x d
theorem KInv.next{g:Graph}{k:Nat}{m a:List Int}(d:k<a.length){c:Nat}(f:a[k]=(c:Int))(h:KInv g k (F1 g c).length m a):KInv g (k+1) 0 m a where
 len:=h.len
 nodup:=h.nodup
 rng:=h.rng
 cnt:=fun p r=>by
  have o:=h.cnt p r;have i:a.getD k 0=(c:Int):=by rw[A43,A32 d];exact f
  have b:c<g.length:=by have:=h.rng a[k] (A37 d);omega
  rw[i,A36,A44]at o;have q:=CD (g:=g) (ex:=a.take k) (x:=c) (p:=p) (by rw[<-f];exact Y6 h.nodup d) b;have e:a.take (k+1)=a.take k++[(c:Int)]:=by rw[List.take_add_one,A32 d,Option.toList_some,f]
  rw[e,List.take_zero,A5 (by simp)];split at o
  ·rename_i j;rw[A4 j]at q;omega
  ·rename_i j;rw[A5 j]at q;omega
 zero:=h.zero
 kids:=h.kids
def j5:List Commit->Int
 | []=>0
 | c::r=>if L5 c.Files≠0 then L5 c.Files else j5 r
def aO(g:Graph):Bool:=decide (g.length<=300)&&!g.any fun c=>decide (c.Parents.length>32)
def qB(g:Graph):Bool:=g.any fun c=>decide (c.Date<0\/c.Date>2147483647)
def X4(g:Graph):Int:=if aO g=false then 1 else if related g=false then 230 else if cyclic g=true then 231 else if qB g=true then 3 else j5 g
theorem mV:∀{g:List Commit},j5 g=0->∀c∈g,L5 c.Files=0
 | [],_,_,hc=>by cases hc
 | d::r,h,c,hc=>by
  unfold j5 at h;split at h
  ·rename_i a;exact absurd h a
  ·rename_i a;rcases A39.1 hc with rfl | hc
   ·simpa using a
   ·exact mV h c hc
structure Valid (g:Graph):Prop where
 len:g.length<=300
 pars:∀c∈g,c.Parents.length<=32
 rel:related g=true
 acyc:∀c,¬Reaches g c c
 tree:∀c∈g,L5 c.Files=0
theorem yK{g:Graph}(h:X4 g=0):Valid g:=by
 unfold X4 at h;split at h
 ·cases h
 ·rename_i a;split at h
  ·cases h
  ·rename_i d;split at h
   ·cases h
   ·rename_i e;split at h
    ·cases h
    ·have a:aO g=true:=by simpa using a
     unfold aO at a;rw[A33,decide_eq_true_eq]at a;have d:related g=true:=by simpa using d
     refine⟨a.1,fun c b=>?_,d,fun c b=>e ((iY d).2 ⟨c,b⟩),fun c b=>mV h c b⟩;apply Classical.byContradiction;intro f;have:g.any (fun c=>decide (c.Parents.length>32))=true:=List.any_eq_true.2 ⟨c,b,by simp;omega⟩;rw[this]at a;cases a.2
structure CHunk where
 At:List Int
 Rows:List Row
 deriving DecidableEq
structure Comb where
 Path:Str
 Dense:Bool
 Parents:Int
 Hunks:List CHunk
 deriving DecidableEq
def ZR(n k:Nat):Int:=if k=n then -1 else k
def cntC(a:List Row)(n k:Nat):Int:=(colOf a (ZR n k)).length
structure CRead (n:Nat) (h:CHunk):Prop where
 len:h.At.length=n+1
 ne:h.Rows≠[]
 at0:∀k,k<n+1->0<=h.At.getD k 0/\h.At.getD k 0+cntC h.Rows n k<=4096
 rows:∀r∈h.Rows,ZN n r=true/\N0 r.Text=true
abbrev dR:Bool->Nat->Cell:=fun b _=>.v (.bool b)
abbrev WF(l:List Bool):PV:=.one (.list Bool 1 dR l)
def cH(l:List Int)(i j:Nat):List Int:=(l.set i (O5 l j)).set j (O5 l i)
def upH(a:Int->Int->Bool):Nat->List Int->Nat->List Int
 | 0,l,_=>l
 | f+1,l,j=>if (j-1) / 2=j\/a (O5 l j) (O5 l ((j-1) / 2))=false then l else upH a f (cH l ((j-1) / 2) j) ((j-1) / 2)
def zY(bf:Int->Int->Bool)(n:Nat)(l:List Int)(i:Nat):Nat:=if 2*i+2<n/\bf (O5 l (2*i+2)) (O5 l (2*i+1))=true then 2*i+2 else 2*i+1
def yL(bf:Int->Int->Bool)(n:Nat):Nat->List Int->Nat->List Int
 | 0,l,_=>l
 | f+1,l,i=>if n<=2*i+1 then l else if bf (O5 l (zY bf n l i)) (O5 l i)=false then l else yL bf n f (cH l i (zY bf n l i)) (zY bf n l i)
def JN(a:Int->Int->Bool)(l:List Int)(x:Int):List Int:=upH a (l.length+1) (l++[x]) l.length
def JO(a:Int->Int->Bool)(l:List Int):List Int:=yL a (l.length-1) l.length (cH l 0 (l.length-1)) 0
theorem U7(l:List Int)(i j:Nat):(cH l i j).length=l.length:=by simp[cH]
theorem p8{l:List Int}{i j:Nat}(a:i<l.length)(b:j<l.length)(k:Nat):O5 (cH l i j) k=if k=j then O5 l i else if k=i then O5 l j else O5 l k:=by
 unfold cH;rw[eW (by rw[A74];exact b),eW a];simp only[@eq_comm Nat j k,@eq_comm Nat i k]
theorem l8{l:List Int}{k:Nat}(h:k<l.length):O5 l k=l[k]:=by unfold O5;rw[A32 h];rfl
theorem SW{l:List Int}{i j:Nat}(a:i<l.length)(b:j<l.length)(x:Int):x∈cH l i j↔x∈l:=by
 have sub:∀{l:List Int} {i j:Nat},i<l.length->j<l.length->∀x,x∈cH l i j->x∈l:=by
  intro l i j a b x g;obtain⟨k,d,e⟩:=List.getElem_of_mem g;rw[<-l8 d,p8 a b]at e;rw[U7]at d;split at e
  ·rw[<-e,l8 a];exact A37 a
  ·split at e
   ·rw[<-e,l8 b];exact A37 b
   ·rw[<-e,l8 d];exact A37 d
 refine⟨sub a b x,fun g=>?_⟩;have e:cH (cH l i j) i j=l:=by
  refine List.ext_getElem (by rw[U7,U7]) fun k h m=>?_;rw[<-l8 h,<-l8 m,p8 (by rw[U7];exact a) (by rw[U7];exact b),p8 a b,p8 a b,p8 a b];by_cases f:k=j
  ·subst f;rw[A4 rfl];by_cases c:i=k
   ·rw[A4 c,c]
   ·rw[A5 c,A4 rfl]
  ·rw[A5 f];by_cases c:k=i
   ·rw[A4 c,A4 rfl,c]
   ·rw[A5 c,A5 f,A5 c]
 exact sub (by rw[U7];exact a) (by rw[U7];exact b) x (by rw[e];exact g)
theorem WG{l:List Int}:l.Nodup↔∀i j,i<l.length->j<l.length->O5 l i=O5 l j->i=j:=by
 constructor
 ·intro h i j a b e;rw[l8 a,l8 b]at e;exact (List.getElem_inj h).1 e
 ·intro h;rw[List.Nodup,List.pairwise_iff_getElem];intro i j a b c e;have:=h i j a b (by rw[l8 a,l8 b];exact e);omega
theorem JP{l:List Int}{i j:Nat}(f:i<l.length)(g:j<l.length)(h:l.Nodup):(cH l i j).Nodup:=by
 rw[WG]at h ⊢;intro a b ha hb e;rw[U7]at ha hb;rw[p8 f g,p8 f g]at e;by_cases k:a=j<;>by_cases m:b=j
 ·omega
 ·rw[A4 k,A5 m]at e;by_cases c:b=i
  ·rw[A4 c]at e;have:=h _ _ f g e;omega
  ·rw[A5 c]at e;have:=h _ _ f hb e;omega
 ·rw[A5 k,A4 m]at e;by_cases a2:a=i
  ·rw[A4 a2]at e;have:=h _ _ g f e;omega
  ·rw[A5 a2]at e;have:=h _ _ ha f e;omega
 ·rw[A5 k,A5 m]at e;by_cases a2:a=i<;>by_cases c:b=i
  ·omega
  ·rw[A4 a2,A5 c]at e;have:=h _ _ g hb e;omega
  ·rw[A5 a2,A4 c]at e;have:=h _ _ ha g e;omega
  ·rw[A5 a2,A5 c]at e;exact h _ _ ha hb e
structure SameL (l m:List Int):Prop where
 len:m.length=l.length
 mem:∀x,x∈m↔x∈l
 nodup:l.Nodup->m.Nodup
theorem SameL.refl(l:List Int):SameL l l:=⟨rfl,fun _=>Iff.rfl,id⟩
theorem SameL.trans{a b c:List Int}(h:SameL a b)(d:SameL b c):SameL a c:=⟨d.len.trans h.len,fun x=>(d.mem x).trans (h.mem x),fun e=>d.nodup (h.nodup e)⟩
theorem SameL.swap{l:List Int}{i j:Nat}(a:i<l.length)(b:j<l.length):SameL l (cH l i j):=⟨U7 l i j,SW a b,JP a b⟩
structure Weak (bf:Int->Int->Bool):Prop where
 irr:∀a,bf a a=false
 asy:∀{a b},bf a b=true->bf b a=false
 ntr:∀{a b c},bf a b=false->bf b c=false->bf a c=false
def qC(bf:Int->Int->Bool)(n:Nat)(l:List Int):Prop:=∀k,k<n->0<k->bf (O5 l k) (O5 l ((k-1) / 2))=false
theorem SX{a:Int->Int->Bool}(w:Weak a){n:Nat}{l:List Int}(h:qC a n l):∀k,k<n->a (O5 l k) (O5 l 0)=false:=by
 intro k;induction k using Nat.strongRecOn with
 | _ k d =>
  intro c;by_cases b:k=0
  ·subst b;exact w.irr _
  ·exact w.ntr (h k c (by omega)) (d ((k-1) / 2) (by omega) (by omega))
theorem JQ{g:Int->Int->Bool}(w:Weak g){n:Nat}:∀(f j:Nat) (l:List Int),j<f->j<n->n<=l.length ->
  (∀k,k<n->0<k->k≠j->g (O5 l k) (O5 l ((k-1) / 2))=false)->(∀k,k<n->0<k->(k-1) / 2=j->0<j->g (O5 l k) (O5 l ((j-1) / 2))=false) ->
  qC g n (upH g f l j)/\SameL l (upH g f l j)
 | 0,j,l,hf,_,_,_,_=>by omega
 | f + 1,j,l,hf,hj,hl,h1,h2=>by
  unfold upH;split
  ·rename_i h;refine⟨fun k o m=>?_,SameL.refl l⟩;by_cases e:k=j
   ·subst e;rcases h with h | h
    ·omega
    ·exact h
   ·exact h1 k o m e
  ·rename_i h;have C:(j-1) / 2≠j:=fun e=>h (.inl e);have q:g (O5 l j) (O5 l ((j-1) / 2))=true:=by
    cases hb:g (O5 l j) (O5 l ((j-1) / 2))
    ·exact absurd (.inr hb) h
    ·rfl
   have B:(j-1) / 2<l.length:=by omega
   have p:j<l.length:=by omega
   have d:=p8 B p
   obtain⟨a,b⟩:=JQ (n:=n) w f ((j-1) / 2) (cH l ((j-1) / 2) j) (by omega) (by omega) (by rw[U7];exact hl) (fun k o m u=>by
    rw[d,d];by_cases c:k=j
    ·rw[A4 c,c,A5 (by omega),A4 rfl];exact w.asy q
    ·rw[A5 c,A5 u];by_cases x:(k-1) / 2=j
     ·rw[A4 x];exact h2 k o m x (by omega)
     ·rw[A5 x];by_cases y:(k-1) / 2=(j-1) / 2
      ·rw[A4 y];have v:=h1 k o m c;rw[y]at v;exact w.ntr v (w.asy q)
      ·rw[A5 y];exact h1 k o m c) (fun k o m e v=>by
    rw[d,d,A5 (show ¬((j-1) / 2-1) / 2=j by omega),A5 (show ¬((j-1) / 2-1) / 2=(j-1) / 2 by omega)];have z:=h1 ((j-1) / 2) (by omega) v (by omega);by_cases c:k=j
    ·rw[A4 c];exact z
    ·rw[A5 c,A5 (by omega)];have A:=h1 k o m c;rw[e]at A
     exact w.ntr A z)
   exact⟨a,(SameL.swap B p).trans b⟩
theorem JR{a:Int->Int->Bool}(w:Weak a){l:List Int}(x:Int)(h:qC a l.length l):qC a (l.length+1) (JN a l x)/\SameL (l++[x]) (JN a l x):=by
 unfold JN;have b:∀k,k<l.length->O5 (l++[x]) k=O5 l k:=fun k c=>by unfold O5;rw[A50 c]
 refine JQ w (n:=l.length+1) (l.length+1) l.length (l++[x]) (by omega) (by omega) (by simp) (fun k c d f=>?_) (fun k c d e g=>by omega);rw[b k (by omega),b _ (by omega)];exact h k (by omega) d
theorem YA{bf:Int->Int->Bool}{n:Nat}{l:List Int}{i:Nat}(h:2*i+1<n):zY bf n l i<n/\(zY bf n l i-1) / 2=i/\i<zY bf n l i:=by
 unfold zY;split<;>omega
theorem WH{bf:Int->Int->Bool}(w:Weak bf){n:Nat}{l:List Int}{i k:Nat}(d:k<n)(c:0<k)(e:(k-1) / 2=i):bf (O5 l k) (O5 l (zY bf n l i))=false:=by
 unfold zY;split
 ·rename_i h;by_cases a:k=2*i+2
  ·rw[a];exact w.irr _
  ·rw[show k=2*i+1 by omega];exact w.asy h.2
 ·rename_i h;by_cases a:k=2*i+1
  ·rw[a];exact w.irr _
  ·have b:k=2*i+2:=by omega
   rw[b];cases hb:bf (O5 l (2*i+2)) (O5 l (2*i+1))
   ·rfl
   ·exact absurd ⟨by omega,hb⟩ h
theorem yM{bf:Int->Int->Bool}(w:Weak bf){n:Nat}:∀(f i:Nat) (l:List Int),n<=i+f->n<=l.length ->
  (∀k,k<n->0<k->(k-1) / 2≠i->bf (O5 l k) (O5 l ((k-1) / 2))=false)->(∀k,k<n->0<k->(k-1) / 2=i->0<i->bf (O5 l k) (O5 l ((i-1) / 2))=false) ->
  qC bf n (yL bf n f l i)/\SameL l (yL bf n f l i)/\∀k,n<=k->O5 (yL bf n f l i) k=O5 l k
 | 0,i,l,hf,_,h1,h2=>by
  unfold yL;exact⟨fun k d g=>h1 k d g (by omega),SameL.refl l,fun _ _=>rfl⟩
 | f + 1,i,l,hf,hl,h1,h2=>by
  unfold yL;split
  ·exact⟨fun k d g=>h1 k d g (by omega),SameL.refl l,fun _ _=>rfl⟩
  ·rename_i E;obtain⟨z,o,C⟩:=YA (bf:=bf) (l:=l) (show 2*i+1<n by omega);have q:=fun k d g e=>WH (bf:=bf) w (n:=n) (l:=l) (i:=i) (k:=k) d g e;generalize zY bf n l i=j at z o C q;split
   ·rename_i h;refine⟨fun k d g=>?_,SameL.refl l,fun _ _=>rfl⟩;by_cases e:(k-1) / 2=i
    ·rw[e];exact w.ntr (q k d g e) h
    ·exact h1 k d g e
   ·rename_i h;have x:bf (O5 l j) (O5 l i)=true:=by simpa using h
    have A:i<l.length:=by omega
    have B:j<l.length:=by omega
    have m:=p8 A B
    obtain⟨a,b,c⟩:=yM (n:=n) w f j (cH l i j) (by omega) (by rw[U7];exact hl) (fun k d g y=>by
     rw[m,m];rw[A5 (show ¬(k-1) / 2=j from y)];by_cases u:k=j
     ·rw[A4 u];rw[u,A4 o];exact w.asy x
     ·rw[A5 u];by_cases p:(k-1) / 2=i
      ·rw[A4 p,A5 (by omega)];exact q k d g p
      ·rw[A5 p];by_cases v:k=i
       ·rw[A4 v,v];exact h2 j z (by omega) o (by omega)
       ·rw[A5 v];exact h1 k d g p) (fun k d g e D=>by
     rw[m,m,A5 (by omega),A5 (by omega),o,A5 (by omega),A4 rfl];have:=h1 k d g (by omega)
     rw[e]at this;exact this)
    refine⟨a,(SameL.swap A B).trans b,fun k d=>?_⟩;rw[c k d,m,A5 (by omega),A5 (by omega)]
theorem YB{f:Int->Int->Bool}(w:Weak f){l:List Int}(h:qC f l.length l)(p:0<l.length) :
  qC f (l.length-1) (JO f l)/\SameL l (JO f l)/\O5 (JO f l) (l.length-1)=O5 l 0:=by
 unfold JO;have j:0<l.length:=p;have m:l.length-1<l.length:=by omega
 have d:=p8 j m
 obtain⟨a,b,c⟩:=yM w (n:=l.length-1) l.length 0 (cH l 0 (l.length-1)) (by omega) (by rw[U7];omega) (fun k o g i=>by
  rw[d,d,A5 (by omega),A5 (by omega),A5 (by omega),A5 i]
  exact h k (by omega) g) (fun k o g e q=>by omega)
 refine⟨a,(SameL.swap j m).trans b,?_⟩;rw[c _ (Nat.le_refl _),d,A4 rfl]
def fN(g:Graph)(c:Nat):Int:=(g[c]?.map (·.Date)).getD 0
def lU(g:Graph)(a b:Int):Bool:=decide (fN g a.toNat>fN g b.toNat\/(fN g a.toNat=fN g b.toNat/\a<b))
theorem lL(g:Graph):Weak (lU g) where
 irr:=fun a=>by unfold lU;rw[decide_eq_false_iff_not];omega
 asy:=fun {a b} h=>by unfold lU at h ⊢;rw[decide_eq_true_eq]at h;rw[decide_eq_false_iff_not];omega
 ntr:=fun {a b c} h d=>by unfold lU at h d ⊢;rw[decide_eq_false_iff_not]at h d ⊢;omega
def dS(g:Graph)(inn:List Bool)(L:List Int)(c:Nat):Bool:=H0 inn c&&decide ((c:Int)∉L)&&(List.range g.length).all fun k=>!(decide ((c:Int)∈F1 g k)&&H0 inn k&&decide ((k:Int)∉L))
def nV(g:Graph)(b:List Bool)(L:List Int):Nat->Int
 | 0 => -1
 | m+1=>if dS g b L m=true/\(nV g b L m<0\/fN g m>fN g (nV g b L m).toNat) then m else nV g b L m
def CF(g:Graph)(a:List Bool)(L:List Int):Int:=nV g a L g.length
theorem rZ(g:Graph)(d:List Bool)(L:List Int):∀m,(nV g d L m = -1/\∀c,c<m->dS g d L c=false)\/∃b:Nat,b<m/\nV g d L m=b/\dS g d L b=true/\∀c,c<m->dS g d L c=true->c≠b->lU g b c=true
 | 0=>.inl ⟨rfl,fun _ h=>by omega⟩
 | m + 1=>by
  rw[nV];rcases rZ g d L m with ⟨p,j⟩ | ⟨b,p,j,h3,h4⟩
  ·rw[p];cases q:dS g d L m
   ·rw[A5 (by simp)]
    exact .inl ⟨rfl,fun c k=>by
     by_cases e:c=m
     ·rw[e];exact q
     ·exact j c (by omega)⟩
   ·rw[A4 ⟨rfl,.inl (by omega)⟩];exact .inr ⟨m,by omega,rfl,q,fun c k a f=>by rw[j c (by omega)]at a;cases a⟩
  ·rw[j];split
   ·rename_i h;have o:fN g m>fN g b:=by
     rcases h.2 with h | h
     ·omega
     ·simpa using h
    refine .inr ⟨m,by omega,rfl,h.1,fun c k a f=>?_⟩;unfold lU;rw[decide_eq_true_eq,A36,A36];by_cases e:c=b
    ·subst e;exact .inl o
    ·have:=A0 (h4 c (by omega) a e);rw[A36,A36]at this;omega
   ·rename_i h;refine .inr ⟨b,by omega,rfl,h3,fun c k a f=>?_⟩;by_cases e:c=m
    ·subst e;unfold lU;rw[decide_eq_true_eq,A36,A36];have:¬fN g c>fN g b:=fun o=>h ⟨a,.inr (by simpa using o)⟩;omega
    ·exact h4 c (by omega) a f
theorem NN{g:Graph}{a:List Bool}{L:List Int}(h:∀c,c<g.length->dS g a L c=false):CF g a L = -1:=by
 rcases rZ g a L g.length with d | ⟨b,d,_,h3,_⟩
 ·exact d.1
 ·rw[h b d]at h3;cases h3
theorem WI{g:Graph}{a:List Bool}{L:List Int}{b:Nat}(hb:b<g.length)(f:dS g a L b=true)(h:∀c,c<g.length->dS g a L c=true->lU g c b=false):CF g a L=b:=by
 rcases rZ g a L g.length with d | ⟨b',d,h2,h3,h4⟩
 ·rw[d.2 b hb]at f;cases f
 ·unfold CF;rw[h2];by_cases e:b=b'
  ·rw[e]
  ·have:=h4 b hb f e;rw[h b' d h3]at this;cases this
def tT(g:Graph)(inn:List Bool)(ex:List Int)(p:Nat):Nat:=(List.range g.length).countP fun c:Nat=>H0 inn c&&decide ((c:Int)∉ex/\(p:Int)∈F1 g c)
theorem CG{g:Graph}{inn:List Bool}{ex:List Int}{x p:Nat}(h:(x:Int)∉ex)(a:x<g.length)(b:H0 inn x=true):tT g inn ex p=tT g inn (ex++[(x:Int)]) p+(if (p:Int)∈F1 g x then 1 else 0):=by
 unfold tT;rw[nS (q:=fun c=>H0 inn c&&decide ((c:Int)∉ex/\(p:Int)∈F1 g c)) (r:=fun c=>H0 inn c&&decide ((c:Int)∉ex++[(x:Int)]/\(p:Int)∈F1 g c)) x (fun y=>?_) List.nodup_range]
 ·congr 1
  simp only[A46,a,true_and,decide_eq_true_eq,h,not_false_eq_true,b,Bool.true_and]
 ·simp only[A40,List.mem_singleton];by_cases d:(y:Int)∈ex<;>by_cases e:y=x<;>by_cases f:(p:Int)∈F1 g y<;>cases H0 inn y<;>simp[d,e,f]<;>omega
theorem SY{g:Graph}{inn:List Bool}{ex:List Int}{p:Nat}:tT g inn ex p=0↔∀c,c<g.length->H0 inn c=true->(p:Int)∈F1 g c->(c:Int)∈ex:=by
 unfold tT;rw[List.countP_eq_zero];constructor
 ·intro h c b e f;have:=h c (A46.2 b);rw[e,Bool.true_and,decide_eq_true_eq]at this;apply Classical.byContradiction;exact fun d=>this ⟨d,f⟩
 ·intro h c b a;rw[A33,decide_eq_true_eq]at a;exact a.2.1 (h c (A46.1 b) a.1 a.2.2)
theorem YC(g:Graph)(inn:List Bool)(ex:List Int)(p:Nat):tT g inn ex p<=g.length:=by
 unfold tT;have:=List.countP_le_length (p:=fun c=>H0 inn c&&decide ((c:Int)∉ex/\(p:Int)∈F1 g c)) (l:=List.range g.length)
 rwa[A72]at this
structure OInv (g:Graph) (inn:List Bool) (k i:Nat) (ch hp out:List Int):Prop where
 len:ch.length=g.length
 cnt:∀p,p<g.length->H0 inn p=true->O5 ch p+(if (p:Int)∈(F1 g (out.getD k 0).toNat).take i then 1 else 0)=tT g inn (out.take k) p
 off:∀p,p<g.length->H0 inn p=false->O5 ch p = -1
 hpm:∀p:Nat,(p:Int)∈hp↔p<g.length/\H0 inn p=true/\(p:Int)∉out/\O5 ch p=0
 hpr:∀x∈hp,0<=x/\x<g.length
 hpn:hp.Nodup
 heap:qC (lU g) hp.length hp
 outn:out.Nodup
 outr:∀x∈out,0<=x/\x<g.length/\H0 inn x.toNat=true/\O5 ch x.toNat=0
theorem OInv.ready{g:Graph}{inn:List Bool}{n b a:List Int}(h:OInv g inn a.length 0 n b a){c:Nat}(o:c<g.length):dS g inn a c=true↔(c:Int)∈b:=by
 rw[h.hpm];unfold dS;rw[A33,A33,decide_eq_true_eq,List.all_eq_true];have j:H0 inn c=true->((∀x∈List.range g.length,(!(decide ((c:Int)∈F1 g x)&&H0 inn x&&decide ((x:Int)∉a)))=true)↔O5 n c=0):=by
  intro q;have d:=h.cnt c o q;rw[A44,List.take_zero,A5 (by simp)]at d;have f:=SY (g:=g) (inn:=inn) (ex:=a) (p:=c);constructor
  ·intro i;have:tT g inn a c=0:=f.2 fun k m e b=>by
    have:=i k (A46.2 m);simpa[b,e] using this
   omega
  ·intro r k m;cases e:H0 inn k
   ·simp
   ·by_cases b:(c:Int)∈F1 g k
    ·have:=f.1 (by omega) k (A46.1 m) e b;simp[b,this]
    ·simp[b]
 constructor
 ·rintro⟨⟨d,f⟩,l⟩;exact⟨o,d,f,(j d).1 l⟩
 ·rintro⟨_,d,f,l⟩;exact⟨⟨d,f⟩,(j d).2 l⟩
theorem OInv.fin{g:Graph}{b:List Bool}{d a:List Int}(h:OInv g b a.length 0 d [] a):CF g b a = -1 :=
 NN fun c e=>by
  cases f:dS g b a c
  ·rfl
  ·have:=(h.ready e).1 f;cases this
theorem OInv.le{g:Graph}{b:List Bool}{k i:Nat}{e c a:List Int}(h:OInv g b k i e c a):a.length<=g.length/\c.length<=g.length :=
 ⟨cA h.outn fun x d=>⟨(h.outr x d).1,(h.outr x d).2.1⟩,cA h.hpn h.hpr⟩
theorem SZ{l m:List Int}{n:Nat}(s:n+1=l.length)(hs:SameL l m)(j:l.Nodup){x:Int}(q:O5 m n=x):(∀y,y∈m.take n↔y∈l/\y≠x)/\(m.take n).Nodup/\(m.take n).length=n:=by
 have r:m.length=n+1:=by rw[hs.len,s]
 have i:=hs.nodup j;have c:n<m.length:=by omega
 have e:m=m.take n++[x]:=by
  have f:m.take (n+1)=m:=A64 (by omega);rw[List.take_add_one,A32 c,Option.toList_some]at f;rw[l8 c]at q;rw[q]at f;exact f.symm
 have a:=i;rw[e,List.nodup_append]at a;refine⟨fun y=>?_,a.1,by rw[A42];omega⟩;rw[<-hs.mem y];constructor
 ·intro b;exact⟨List.mem_of_mem_take b,a.2.2 y b x (by simp)⟩
 ·rintro⟨b,k⟩;rw[e]at b;rcases A40.1 b with b | b
  ·exact b
  ·exact absurd (List.mem_singleton.1 b) k
theorem OInv.pop{g:Graph}{m:List Bool}{B b f:List Int}(h:OInv g m f.length 0 B b f)(u:0<b.length) :
  CF g m f=O5 b 0/\OInv g m f.length 0 B ((JO (lU g) b).take (b.length-1)) (f++[O5 b 0])/\O5 (JO (lU g) b) (b.length-1)=O5 b 0:=by
 have z:O5 b 0∈b:=by rw[l8 u];exact A37 u
 have K:=h.hpr _ z;obtain⟨c,q⟩:∃c:Nat,O5 b 0=c:=⟨(O5 b 0).toNat,by omega⟩
 have i:=(h.hpm c).1 (by rw[<-q];exact z);obtain⟨I,J,E⟩:=YB (lL g) h.heap u;obtain⟨A,t2,t3⟩:=SZ (n:=b.length-1) (by omega) J h.hpn E;have hb:CF g m f=c:=WI i.1 ((h.ready i.1).2 (by rw[<-q];exact z)) fun d F v=>by
  obtain⟨j,r,e⟩:=List.getElem_of_mem ((h.ready F).1 v);have:=SX (lL g) h.heap j r;rw[l8 r,e,q]at this;exact this
 refine⟨by rw[hb,q],?_,E⟩;rw[q]at A ⊢;refine⟨h.len,fun p b G=>?_,h.off,fun p=>?_,fun x l=>h.hpr x ((A x).1 l).1,t2,?_,?_,?_⟩
 ·have C:=h.cnt p b G;rw[List.take_zero,A5 (by simp)]at C ⊢;rw[cD (Nat.le_refl _)];exact C
 ·rw[A,h.hpm,A40,List.mem_singleton,not_or];constructor
  ·rintro⟨⟨s,a2,a3,a4⟩,a5⟩;exact⟨s,a2,⟨a3,a5⟩,a4⟩
  ·rintro⟨s,a2,⟨a3,a5⟩,a4⟩;exact⟨⟨s,a2,a3,a4⟩,a5⟩
 ·rw[t3];intro k D w;have e:∀j,j<b.length-1->O5 ((JO (lU g) b).take (b.length-1)) j=O5 (JO (lU g) b) j:=fun j r=>by
   unfold O5;rw[List.getElem?_take,A4 r]
  rw[e k D,e _ (by omega)];exact I k D w
 ·exact List.nodup_append.2 ⟨h.outn,by simp,fun x l y H e=>by rw[List.mem_singleton.1 H]at e;exact i.2.2.1 (e ▸ l)⟩
 ·intro x l;rcases A40.1 l with l | l
  ·exact h.outr x l
  ·rw[List.mem_singleton.1 l,A36];exact⟨by omega,by omega,i.2.1,i.2.2.2⟩
theorem OInv.step{g:Graph}{inn:List Bool}(T:related g=true)(K:eV g inn){k i:Nat}{o D b:List Int}(h:OInv g inn k i o D b)(W:k+1=b.length){c p:Nat}(A:b[k]?=some (c:Int))(H:i<(F1 g c).length)(u:(F1 g c)[i]=(p:Int)) :
  p<g.length/\1<=O5 o p/\O5 o p<=g.length/\D.length<g.length/\OInv g inn k (i+1) (aN o p) (if O5 o p-1=0 then JN (lU g) D p else D) b:=by
 have hkl:k<b.length:=by omega
 have A:b[k]=(c:Int):=by rw[A32 hkl]at A;exact Option.some.inj A
 have hpr:=O4 T c;have hpm:(p:Int)∈F1 g c:=by rw[<-u];exact A37 H
 have f:p<g.length:=by have:=hpr.1 p hpm;omega
 have B:=h.outr b[k] (A37 hkl);rw[A,A36]at B;have E:c<g.length:=by omega
 have s:H0 inn p=true:=by have:=K c B.2.2.1 p hpm;rwa[A36]at this
 have C:b.getD k 0=(c:Int):=by rw[A43,A32 hkl];exact A
 have N:(c:Int)∉b.take k:=by rw[<-A];exact Y6 h.outn hkl
 have M:(p:Int)∉(F1 g c).take i:=by rw[<-u];exact Y6 hpr.2 H
 have P:=h.cnt p f s;rw[C,A36,A5 M]at P;have Q:=CG (g:=g) (inn:=inn) (ex:=b.take k) (x:=c) (p:=p) N E B.2.2.1;rw[A4 hpm]at Q;have S:=YC g inn (b.take k) p;have L:1<=O5 o p:=by omega
 have m:(p:Int)∉b:=fun j=>by have:=(h.outr _ j).2.2.2;rw[A36]at this;omega
 have w:(p:Int)∉D:=fun j=>by have:=((h.hpm p).1 j).2.2.2;omega
 have v:∀q,O5 (aN o p) q=if p=q then O5 o p-1 else O5 o q:=fun q=>by
  unfold aN;rw[A36,eW (by rw[h.len];exact f)]
 have F:D.length<g.length:=by
  have:=cA (l:=(c:Int)::D) (n:=g.length) (List.nodup_cons.2 ⟨fun j=>((h.hpm c).1 j).2.2.1 (by rw[<-A];exact A37 hkl),h.hpn⟩) fun x d=>by
   rcases A39.1 d with rfl | d
   ·omega
   ·exact h.hpr x d
  rw[A34]at this;omega
 obtain⟨V,G⟩:=JR (lL g) (p:Int) h.heap;refine⟨f,L,by omega,F,⟨by unfold aN;rw[A74];exact h.len,?_,?_,?_,?_,?_,?_,h.outn,?_⟩⟩
 ·intro q O I;rw[C,A36,v q];by_cases e:p=q
  ·subst e;rw[A4 rfl,A4 ((W7 H).2 (.inr u.symm))];omega
  ·rw[A5 e];have z:=h.cnt q O I;rw[C,A36]at z;have R:((q:Int)∈(F1 g c).take (i+1))↔(q:Int)∈(F1 g c).take i:=by
    rw[W7 H,u];exact⟨fun h=>h.resolve_right (by omega),.inl⟩
   simp only[R];exact z
 ·intro q O I;rw[v q,A5 (fun e=>by rw[e,I]at s;cases s)];exact h.off q O I
 ·intro q;rw[v q];by_cases e:p=q
  ·subst e;rw[A4 rfl];split
   ·rename_i J;rw[G.mem];exact⟨fun _=>⟨f,s,m,J⟩,fun _=>by simp⟩
   ·rename_i J;exact⟨fun j=>absurd j w,fun j=>absurd j.2.2.2 J⟩
  ·rw[A5 e,<-h.hpm q];split
   ·rw[G.mem,A40,List.mem_singleton];exact⟨fun j=>j.resolve_right (by omega),.inl⟩
   ·exact Iff.rfl
 ·intro x d;split at d
  ·rw[G.mem,A40,List.mem_singleton]at d;rcases d with d | rfl
   ·exact h.hpr x d
   ·omega
  ·exact h.hpr x d
 ·split
  ·exact G.nodup (List.nodup_append.2 ⟨h.hpn,by simp,fun x d y U e=>by rw[List.mem_singleton.1 U]at e;exact w (e ▸ d)⟩)
  ·exact h.hpn
 ·split
  ·rw[G.len,A35,List.length_singleton];exact V
  ·exact h.heap
 ·intro x d;have z:=h.outr x d;refine⟨z.1,z.2.1,z.2.2.1,?_⟩;rw[v,A5 (fun e=>m (by rw[show ((p:Nat):Int)=x by omega];exact d))];exact z.2.2.2
theorem OInv.next{g:Graph}{inn:List Bool}{k:Nat}{m f a:List Int}(r:k+1=a.length){c:Nat}(b:a[k]?=some (c:Int))(h:OInv g inn k (F1 g c).length m f a):OInv g inn a.length 0 m f a:=by
 refine { h with cnt:=fun p f s=>?_ };have hkl:k<a.length:=by omega
 have b:a[k]=(c:Int):=by rw[A32 hkl]at b;exact Option.some.inj b
 have o:=h.cnt p f s;have i:a.getD k 0=(c:Int):=by rw[A43,A32 hkl];exact b
 have d:=h.outr a[k] (A37 hkl);rw[b,A36]at d;rw[i,A36,A44]at o;have q:=CG (g:=g) (inn:=inn) (ex:=a.take k) (x:=c) (p:=p) (by rw[<-b];exact Y6 h.outn hkl) (by omega) d.2.2.1;have e:a.take (k+1)=a.take k++[(c:Int)]:=by rw[List.take_add_one,A32 hkl,Option.toList_some,b]
 rw[<-r,e,List.take_zero,A5 (by simp)];split at o
 ·rename_i j;rw[A4 j]at q;omega
 ·rename_i j;rw[A5 j]at q;omega
structure HInv (g:Graph) (ch hp:List Int) (i:Nat):Prop where
 mem:∀p:Nat,(p:Int)∈hp↔p<i/\O5 ch p=0
 rng:∀x∈hp,0<=x/\x<i
 nodup:hp.Nodup
 heap:qC (lU g) hp.length hp
theorem HInv.nil(g:Graph)(a:List Int):HInv g a [] 0:=⟨fun p=>by simp,(fun _ h=>by cases h),List.nodup_nil,fun k b=>by simp at b⟩
theorem HInv.le{g:Graph}{b a:List Int}{i:Nat}(h:HInv g b a i):a.length<=i:=cA h.nodup h.rng
theorem HInv.step{g:Graph}{f k:List Int}{i:Nat}(h:HInv g f k i):HInv g f (if O5 f i=0 then JN (lU g) k (i:Int) else k) (i+1):=by
 obtain⟨o,d⟩:=JR (lL g) (i:Int) h.heap;split
 ·rename_i j;refine⟨fun p=>?_,fun x c=>?_,d.nodup (List.nodup_append.2 ⟨h.nodup,by simp,fun x c y m e=>by rw[List.mem_singleton.1 m]at e;have:=h.rng x c;omega⟩),by rw[d.len,A35,List.length_singleton];exact o⟩
  ·rw[d.mem,A40,List.mem_singleton,h.mem];constructor
   ·rintro (⟨a,b⟩ | e)
    ·exact⟨by omega,b⟩
    ·have e:p=i:=by omega
     subst e;exact⟨by omega,j⟩
   ·rintro⟨a,b⟩;by_cases e:p=i
    ·right;omega
    ·exact .inl ⟨by omega,b⟩
  ·rw[d.mem,A40,List.mem_singleton]at c;rcases c with c | rfl
   ·have:=h.rng x c;omega
   ·omega
 ·rename_i j;refine⟨fun p=>?_,fun x c=>by have:=h.rng x c;omega,h.nodup,h.heap⟩;rw[h.mem];constructor
  ·rintro⟨a,b⟩;exact⟨by omega,b⟩
  ·rintro⟨a,b⟩;refine⟨?_,b⟩;apply Classical.byContradiction;intro q;have:p=i:=by omega
   subst this;exact j b
def NO(g:Graph)(D:List Int)(p:Nat):Nat:=D.countP fun x=>decide ((p:Int)∈F1 g x.toNat)
structure DInv (g:Graph) (inn:List Bool) (st:List Int) (k i:Nat) (ch opn D:List Int):Prop where
 len:ch.length=g.length
 nodup:(D++opn).Nodup
 on:∀x∈D++opn,0<=x/\x<g.length/\H0 inn x.toNat=true
 cnt:∀p:Nat,(p:Int)∈D++opn->O5 ch p=NO g (D.take k) p+(if (p:Int)∈(F1 g (D.getD k 0).toNat).take i then 1 else 0)
 off:∀p,p<g.length->(p:Int)∉D++opn->O5 ch p = -1
 clo:∀x∈D.take k,∀p∈F1 g x.toNat,p∈D++opn
 clo2:∀p∈(F1 g (D.getD k 0).toNat).take i,p∈D++opn
 sts:∀f∈st,f∈D++opn
theorem DInv.start(g:Graph)(a:List Bool):DInv g a [] 0 0 (List.replicate g.length (-1)) [] [] where
 len:=by simp
 nodup:=List.nodup_nil
 on:=fun _ h=>by cases h
 cnt:=fun _ h=>by cases h
 off:=fun p b _=>by unfold O5;rw[List.getElem?_replicate,A4 b];rfl
 clo:=fun _ h=>by cases h
 clo2:=fun _ h=>by simp at h
 sts:=fun _ h=>by cases h
theorem DInv.le{g:Graph}{b:List Bool}{st:List Int}{k i:Nat}{d a D:List Int}(h:DInv g b st k i d a D):D.length+a.length<=g.length:=by
 have:=cA h.nodup fun x c=>⟨(h.on x c).1,(h.on x c).2.1⟩
 rwa[A35]at this
theorem DInv.mem{g:Graph}{inn:List Bool}{st:List Int}{k i:Nat}{c a D:List Int}(h:DInv g inn st k i c a D){p:Nat}(e:p<g.length):O5 c p<0↔(p:Int)∉D++a:=by
 by_cases b:(p:Int)∈D++a
 ·have:=h.cnt p b;constructor
  ·intro f;split at this<;>omega
  ·exact fun d=>absurd b d
 ·have:=h.off p e b;exact⟨fun _=>b,fun _=>by omega⟩
theorem DInv.reach{g:Graph}{l:List Bool}{st:List Int}{k i:Nat}{m a D:List Int}(h:DInv g l st k i m a D)(_hk:k<=D.length){p:Nat}(s:p<g.length)(u:H0 l p=true)(st':List Int)(o:∀f∈st',f∈st\/f=p) :
  DInv g l st' k i (if O5 m p<0 then m.set p 0 else m) (if O5 m p<0 then a++[(p:Int)] else a) D/\(p:Int)∈D++(if O5 m p<0 then a++[(p:Int)] else a):=by
 split
 ·rename_i t;have j:=(h.mem s).1 t;refine⟨⟨by rw[A74];exact h.len,?_,?_,?_,?_,?_,?_,?_⟩,by simp⟩
  ·rw[<-A45];exact List.nodup_append.2 ⟨h.nodup,by simp,fun x c y v e=>by rw[List.mem_singleton.1 v]at e;exact j (e ▸ c)⟩
  ·intro x c;rw[<-A45]at c;rcases A40.1 c with c | c
   ·exact h.on x c
   ·rw[List.mem_singleton.1 c,A36];exact⟨by omega,by omega,u⟩
  ·intro q b;rw[eW (by rw[h.len];exact s)];by_cases e:p=q
   ·subst e;rw[A4 rfl,A5 (fun n=>j (h.clo2 _ n))];have:NO g (D.take k) p=0:=by
     unfold NO;rw[List.countP_eq_zero];intro x c n;exact j (h.clo x c _ (A0 n))
    rw[this];rfl
   ·rw[A5 e];rw[<-A45]at b;rcases A40.1 b with b | b
    ·exact h.cnt q b
    ·exact absurd (List.mem_singleton.1 b) (by omega)
  ·intro q b r;rw[<-A45,A40,not_or,List.mem_singleton]at r;rw[eW (by rw[h.len];exact s),A5 (by omega)];exact h.off q b r.1
  ·intro x c q b;rw[<-A45];exact List.mem_append_left _ (h.clo x c q b)
  ·intro q b;rw[<-A45];exact List.mem_append_left _ (h.clo2 q b)
  ·intro f d;rw[<-A45];rcases o f d with d | rfl
   ·exact List.mem_append_left _ (h.sts f d)
   ·simp
 ·rename_i t;have n:(p:Int)∈D++a:=by
   apply Classical.byContradiction;intro r;exact t ((h.mem s).2 r)
  refine⟨{ h with sts:=fun f d=>?_ },n⟩;rcases o f d with d | rfl
  ·exact h.sts f d
  ·exact n
theorem DInv.count{g:Graph}{v:List Bool}{st:List Int}{k i:Nat}{f j D:List Int}(h:DInv g v st k i f j D){c p:Nat}(G:related g=true)(m:D.getD k 0=(c:Int))(o:i<(F1 g c).length)(b:(F1 g c)[i]=(p:Int))(w:(p:Int)∈D++j) :
  0<=O5 f p/\O5 f p<=g.length/\DInv g v st k (i+1) (bump f p) j D:=by
 have hpr:=O4 G c;have s:p<g.length:=by have:=hpr.1 p (by rw[<-b];exact A37 o);omega
 have B:=h.cnt p w;have y:(p:Int)∉(F1 g c).take i:=by rw[<-b];exact Y6 hpr.2 o
 rw[m,A36,A5 y]at B;have F:NO g (D.take k) p<=g.length:=by
  unfold NO;have C:=List.countP_le_length (p:=fun x:Int=>decide ((p:Int)∈F1 g x.toNat)) (l:=D.take k);rw[A42]at C;have:=h.le;omega
 have u:∀q,O5 (bump f p) q=if p=q then O5 f p+1 else O5 f q:=fun q=>by
  unfold bump;rw[A36,eW (by rw[h.len];exact s)]
 refine⟨by omega,by omega,{ h with len:=by unfold bump;rw[A74];exact h.len,cnt:=fun q d=>?_,off:=fun q d A=>?_,clo2:=fun q d=>?_ }⟩
 ·rw[u q,m,A36];by_cases e:p=q
  ·subst e;rw[A4 rfl,A4 ((W7 o).2 (.inr b.symm))];omega
  ·rw[A5 e];have z:=h.cnt q d;rw[m,A36]at z;have E:((q:Int)∈(F1 g c).take (i+1))↔(q:Int)∈(F1 g c).take i:=by
    rw[W7 o,b];exact⟨fun h=>h.resolve_right (by omega),.inl⟩
   simp only[E];exact z
 ·rw[u q,A5 (show ¬p=q from fun e=>A (by rw[<-e];exact w))];exact h.off q d A
 ·rw[m,A36]at d;rcases (W7 o).1 d with d | rfl
  ·exact h.clo2 q (by rw[m,A36];exact d)
  ·rw[b];exact w
theorem DInv.pop{g:Graph}{s:List Bool}{st:List Int}{u d D:List Int}{c:Int}(h:DInv g s st D.length 0 u (d++[c]) D):DInv g s st D.length 0 u d (D++[c]):=by
 have b:∀x,x∈(D++[c])++d↔x∈D++(d++[c]):=fun x=>by
  simp only[A40,List.mem_singleton];constructor
  ·rintro ((h | h) | h)
   ·exact .inl h
   ·exact .inr (.inr h)
   ·exact .inr (.inl h)
  ·rintro (h | h | h)
   ·exact .inl (.inl h)
   ·exact .inr h
   ·exact .inl (.inr h)
 have v:(D++[c]).take D.length=D:=by rw[cD (Nat.le_refl _),A44]
 refine⟨h.len,?_,fun x m=>h.on x ((b x).1 m),fun p o=>?_,fun p o A=>h.off p o fun z=>A ((b _).2 z),fun x m p o=>?_,fun p o=>by simp at o,fun f w=>(b f).2 (h.sts f w)⟩
 ·have j:=h.nodup;rw[List.nodup_append,List.nodup_append]at j;rw[A45,List.nodup_append,List.nodup_append];refine⟨j.1,⟨by simp,j.2.1.1,fun x m y q e=>?_⟩,fun x m y q=>?_⟩
  ·exact j.2.1.2.2 y q x m e.symm
  ·refine j.2.2 x m y ?_;rcases A40.1 q with q | q
   ·exact List.mem_append_right _ q
   ·exact List.mem_append_left _ q
 ·have j:=h.cnt p ((b _).1 o);rw[List.take_zero,A5 (by simp),A44]at j;rw[v,List.take_zero,A5 (by simp)];exact j
 ·rw[v]at m;exact (b p).2 (h.clo x (by rw[A44];exact m) p o)
theorem DInv.next{g:Graph}{inn:List Bool}{st:List Int}{k:Nat}{j d D:List Int}{c:Nat}(o:k+1=D.length)(f:D.getD k 0=(c:Int))(h:DInv g inn st k (F1 g c).length j d D):DInv g inn st D.length 0 j d D:=by
 have hkl:k<D.length:=by omega
 have i:D[k]?=some (c:Int):=by
  rw[A43,A32 hkl]at f;rw[A32 hkl];exact congrArg some f
 have e:D.take D.length=D.take k++[(c:Int)]:=by rw[<-o,List.take_add_one,i,Option.toList_some]
 refine { h with cnt:=fun p a=>?_,clo:=fun x b p a=>?_,clo2:=fun p a=>by simp at a }
 ·have m:=h.cnt p a;rw[f,A36,A44]at m;rw[List.take_zero,A5 (show ¬(p:Int)∈([]:List Int) by simp),m,e];unfold NO;rw[List.countP_append,List.countP_singleton,A36];by_cases q:(p:Int)∈F1 g c<;>simp[q]
 ·rw[e]at b;rcases A40.1 b with b | b
  ·exact h.clo x b p a
  ·rw[List.mem_singleton.1 b,A36]at a;exact h.clo2 p (by rw[f,A36,A44];exact a)
theorem JS{q:Int->Bool}{l m:List Int}(b:l.Nodup)(d:m.Nodup)(h:∀x,x∈l↔x∈m):l.countP q=m.countP q:=by
 rw[List.countP_eq_length_filter,List.countP_eq_length_filter];have a:∀{l m:List Int},l.Nodup->(∀x,x∈l↔x∈m)->(l.filter q).length<=(m.filter q).length:=fun b h =>
  lI (b.filter _) fun x c=>by
   rw[List.mem_filter]at c ⊢;exact⟨(h x).1 c.1,c.2⟩
 have f:=a b h;have i:=a d fun x=>(h x).symm;omega
theorem DInv.fin{g:Graph}{s z D:List Int}(I:related g=true)(hs:∀f∈s,0<=f/\f<g.length)(h:DInv g (N8 g s) s D.length 0 z [] D) :
  ∀p,p<g.length->O5 z p=if H0 (N8 g s) p=true then (tT g (N8 g s) [] p:Int) else -1:=by
 have b:∀p:Nat,H0 (N8 g s) p=true↔(p:Int)∈D:=by
  intro p;constructor
  ·intro j;obtain⟨f,F,d⟩:=(lK I hs p).1 j;clear j;have A:(f:Int)∈D:=by simpa using h.sts f F
   have v:∀x:Nat,(x:Int)∈D->∀q:Nat,(q:Int)∈F1 g x->(q:Int)∈D:=fun x k q H=>by
    have:=h.clo x (by rw[A44];exact k) q (by rw[A36];exact H);simpa using this
   rcases d with rfl | d
   ·exact A
   ·induction d with
    | one h=>exact v _ A _ h
    | more _ d J=>exact v _ J _ d
  ·intro w;have:=(h.on p (by simpa using w)).2.2
   rwa[A36]at this
 intro p G;split
 ·rename_i j;have B:=h.cnt p (by simpa using (b p).1 j);rw[A44,List.take_zero,A5 (by simp)]at B;rw[B,Int.add_zero]
  congr 1
  have C:D.Nodup:=by have:=h.nodup;rwa[A71]at this
  have d:∀x∈D,0<=x/\x<g.length:=fun x k=>by
   have:=h.on x (by simpa using k);exact⟨this.1,this.2.1⟩
  unfold NO tT;have e:(List.range g.length).countP (fun c=>H0 (N8 g s) c&&decide ((c:Int)∉([]:List Int)/\(p:Int)∈F1 g c))=(((List.range g.length).filter fun c=>H0 (N8 g s) c).map fun c:Nat=>(c:Int)).countP fun x=>decide ((p:Int)∈F1 g x.toNat):=by
   rw[List.countP_map,List.countP_filter];refine List.countP_congr fun c _=>?_;simp only[A75,not_false_eq_true,true_and,Function.comp_def,A36,A33,decide_eq_true_eq];exact And.comm
  rw[e];refine JS C ((List.nodup_range.filter _).map (fun i:Nat=>(i:Int)) fun _ _ y e=>y (Int.ofNat.inj e)) fun x=>?_;rw[A65];constructor
  ·intro k;have:=d x k;refine⟨x.toNat,List.mem_filter.2 ⟨A46.2 (by omega),(b _).2 (by rw[Int.toNat_of_nonneg this.1];exact k)⟩,by omega⟩
  ·rintro⟨c,E,rfl⟩;exact (b c).1 (List.mem_filter.1 E).2
 ·rename_i j;exact h.off p G fun w=>j ((b p).2 (by simpa using w))
theorem OInv.start{g:Graph}{c:List Bool}{f d:List Int}(j:f.length=g.length)(_hin:c.length=g.length)(i:∀p,p<g.length->O5 f p=if H0 c p=true then (tT g c [] p:Int) else -1)(h:HInv g f d g.length):OInv g c 0 0 f d [] where
 len:=j
 cnt:=fun p d e=>by rw[i p d,A4 e,List.take_zero,List.take_zero];simp
 off:=fun p d e=>by rw[i p d,e];rfl
 hpm:=fun p=>by
  rw[h.mem];constructor
  ·rintro⟨a,b⟩;refine⟨a,?_,by simp,b⟩;cases e:H0 c p
   ·rw[i p a,e]at b;simp at b
   ·rfl
  ·rintro⟨a,_,_,b⟩;exact⟨a,b⟩
 hpr:=h.rng
 hpn:=h.nodup
 heap:=h.heap
 outn:=List.nodup_nil
 outr:=fun _ h=>by cases h
def N9(g:Graph)(c:Nat):List File:=(g[c]?.map (·.Files)).getD []
def lM(g:Graph)(c:Nat):List (List File):=if F1 g c=[] then [[]] else (F1 g c).map fun p=>N9 g p.toNat
def cT(l:List File)(p:Str):Str:=(O7 l p).getD []
def dT(g:Graph)(c:Int):Prop:=0<=c/\c<g.length
instance (g:Graph) (c:Int):Decidable (dT g c):=inferInstanceAs (Decidable (_/\_))
section
structure Set4 where
 a:Int
 b:Int
 c:Int
 d:Int
 deriving DecidableEq
def orI(x y:Int):Int:=((x.toNat ||| y.toNat:Nat):Int)
def set0:Set4:=⟨0,0,0,0⟩
def Set4.with_(s:Set4)(c:Nat):Set4:=match c / 64 with
 | 0=>{ s with a:=orI s.a (2 ^ (c % 64)) }
 | 1=>{ s with b:=orI s.b (2 ^ (c % 64)) }
 | 2=>{ s with c:=orI s.c (2 ^ (c % 64)) }
 | _=>{ s with d:=orI s.d (2 ^ (c % 64)) }
def CH:Nat->Nat->Set4->Set4
 | 0,_,s=>s
 | n+1,c,s=>CH n (c+1) (s.with_ c)
def Set4.through(s:Set4)(a b:Nat):Set4:=CH (b+1-a) a s
def Set4.compl(s:Set4):Set4:=⟨18446744073709551615-s.a,18446744073709551615-s.b,18446744073709551615-s.c,18446744073709551615-s.d⟩
def ZS(s:Set4)(name:Str):Option Set4 :=
 if name=[97,108,112,104,97] then some ((s.through 97 122).through 65 90)
 else if name=[100,105,103,105,116] then some (s.through 48 57)
 else if name=[97,108,110,117,109] then some (((s.through 97 122).through 65 90).through 48 57)
 else if name=[117,112,112,101,114] then some (s.through 65 90)
 else if name=[108,111,119,101,114] then some (s.through 97 122)
 else if name=[115,112,97,99,101] then some ((s.through 9 13).with_ 32)
 else if name=[112,117,110,99,116] then some ((((s.through 33 47).through 58 64).through 91 96).through 123 126)
 else none
structure Node where
 Kind:Int
 Set:Set4
 Min:Int
 Max:Int
 Kids:List Int
 deriving DecidableEq
def CI:Node:=⟨0,set0,0,0,[]⟩
structure PSt where
 at_:Nat
 depth:Nat
 nodes:List Node
abbrev Ps(α:Type):=Except Int (PSt×α)
section
variable (s:Str)
def yN(c:UInt8)(st:PSt):Bool:=decide (s[st.at_]?=some c)
def PSt.skip(st:PSt)(n:Nat):PSt:={ st with at_:=st.at_+n }
def hasSt(c:UInt8)(st:PSt):PSt:=if yN s c st=true then st.skip 1 else st
def takeP(st:PSt):Ps UInt8:=match s[st.at_]? with
 | none=>.error 40
 | some c=>.ok (st.skip 1,c)
def WJ(n:Node)(st:PSt):PSt×Int:=({ st with nodes:=st.nodes++[n] },st.nodes.length)
def NP(a:Int)(kids:List Int)(st:PSt):PSt×Int:=match kids with
 | []=>WJ CI st
 | [k]=>(st,k)
 | _=>WJ { CI with Kind:=a,Kids:=kids } st
def ZT(t:Set4)(st:PSt):PSt×Int:=WJ { CI with Kind:=1,Set:=t } st
def YD(a b:UInt8)(l:Str):Bool:=decide (l[0]?=some a/\l[1]?=some b)
def YV(t:Set4)(st:PSt):Ps Set4 :=
 let rest:=s.drop st.at_
 if YD 91 58 rest=true then
  let r:=rest.drop 2
  if Lib.index r [58,93]<0 then .error 40
  else match ZS t (r.take (Lib.index r [58,93]).toNat) with
   | none=>.error 40
   | some b=>.ok (st.skip (4+(Lib.index r [58,93]).toNat),b)
 else match s[st.at_]? with
  | none=>.error 40
  | some c =>
   let r:=s.drop (st.at_+1)
   if r.length<2\/r[0]?≠some 45\/r[1]?=some 93 then .ok (st.skip 1,t.with_ c.toNat)
   else if (r.getD 1 0).toNat<c.toNat then .error 40
   else .ok (st.skip 3,t.through c.toNat (r.getD 1 0).toNat)
def WK:Nat->Set4->PSt->Ps Set4
 | 0,_,_=>.error 0
 | f+1,t,st=>if yN s 93 st=true then .ok (st.skip 1,t) else match YV s t st with
  | .error e=>.error e
  | .ok (st',t')=>WK f t' st'
def ZU(f:Nat)(st:PSt):Ps Int :=
 let a:=st.skip 1;let b:=hasSt s 94 a
 match YV s set0 b with
 | .error e=>.error e
 | .ok (st3,t)=>match WK s f t st3 with
  | .error e=>.error e
  | .ok (st4,t')=>.ok (ZT (if yN s 94 a=true then t'.compl else t') st4)
def PF(a:Int)(st:PSt):Ps Int :=
 let r:=WJ { CI with Kind:=a } (st.skip 1)
 match s[r.1.at_]? with
 | some c=>if c∈([42,43,63,123]:Str) then .error 40 else .ok r
 | none=>.ok r
def numP(a:Str->Nat->Option (Int×Nat))(st:PSt):Ps Int:=match a s st.at_ with
 | none=>.error 40
 | some (n,e)=>if n>100 then .error 40 else .ok ({ st with at_:=e },n)
def YE(d:Str->Nat->Option (Int×Nat))(st:PSt):Ps (Int×Int):=match numP s d st with
 | .error e=>.error e
 | .ok (st1,least) =>
  let fin:=fun (st:PSt) (a:Int)=>(if yN s 125 st=false\/(0<=a/\a<least) then .error 40 else .ok (st.skip 1,(least,a)):Ps (Int×Int))
  if yN s 44 st1=true then
   let b:=st1.skip 1
   match s[b.at_]? with
   | none=>fin b (-1)
   | some c=>if c=125 then fin b (-1) else match numP s d b with
    | .error e=>.error e
    | .ok (st3,a)=>fin st3 a
  else fin st1 least
def ZV(a:Str->Nat->Option (Int×Nat))(st:PSt):Ps (Option (Int×Int)) :=
 if yN s 42 st=true then .ok (st.skip 1,some (0,-1))
 else if yN s 43 st=true then .ok (st.skip 1,some (1,-1))
 else if yN s 63 st=true then .ok (st.skip 1,some (0,1))
 else if yN s 123 st=true then match YE s a (st.skip 1) with
  | .error e=>.error e
  | .ok (st',b)=>.ok (st',some b)
 else .ok (st,none)
def PG(st:PSt):Ps Int:=match takeP s st with
 | .error e=>.error e
 | .ok (st',c)=>.ok (ZT (set0.with_ c.toNat) st')
def YF(st:PSt):Ps Int:=PG s (st.skip 1)
def anyP(st:PSt):PSt×Int:=ZT set0.compl (st.skip 1)
def qD(a:Str->Nat->Option (Int×Nat))(r:Ps Int):Ps Int:=match r with
 | .error e=>.error e
 | .ok (st,atom)=>match ZV s a st with
  | .error e=>.error e
  | .ok (st',none)=>.ok (st',atom)
  | .ok (st',some (least,most))=>.ok (WJ { CI with Kind:=6,Min:=least,Max:=most,Kids:=[atom] } st')
mutual
def patP(a:Str->Nat->Option (Int×Nat)):Nat->PSt->Ps Int
 | 0,_=>.error 0
 | f+1,st=>match YG a f st [] with
  | .error e=>.error e
  | .ok (st',k)=>EZ a f st' [k]
def EZ(a:Str->Nat->Option (Int×Nat)):Nat->PSt->List Int->Ps Int
 | 0,_,_=>.error 0
 | f+1,st,kids=>if yN s 124 st=true then match YG a f (st.skip 1) [] with
   | .error e=>.error e
   | .ok (st',k)=>EZ a f st' (kids++[k])
  else .ok (NP 5 kids st)
def YG(a:Str->Nat->Option (Int×Nat)):Nat->PSt->List Int->Ps Int
 | 0,_,_=>.error 0
 | f+1,st,kids=>match s[st.at_]? with
  | none=>.ok (NP 4 kids st)
  | some c=>if c=124\/c=41 then .ok (NP 4 kids st) else match WL a f st c with
   | .error e=>.error e
   | .ok (st',k)=>YG a f st' (kids++[k])
def WL(a:Str->Nat->Option (Int×Nat)):Nat->PSt->UInt8->Ps Int
 | 0,_,_=>.error 0
 | f+1,st,c =>
  if c=94 then PF s 2 st
  else if c=36 then PF s 3 st
  else if c=40 then qD s a (WM a f st)
  else if c=91 then qD s a (ZU s (s.length+2) st)
  else if c=46 then qD s a (.ok (anyP st))
  else if c=92 then qD s a (YF s st)
  else if c∈([42,43,63,123]:Str) then .error 40
  else qD s a (PG s st)
def WM(a:Str->Nat->Option (Int×Nat)):Nat->PSt->Ps Int
 | 0,_=>.error 0
 | f+1,st=>if st.depth=50 then .error 1 else match patP a f { st with at_:=st.at_+1,depth:=st.depth+1 } with
  | .error e=>.error e
  | .ok (st',n)=>if yN s 41 st'=true then .ok ({ st' with at_:=st'.at_+1,depth:=st'.depth-1 },n) else .error 40
end
end
def fitsN(n:Node)(i:Int):Bool:=n.Kids.all (fun k=>decide (0<=k/\k<i)) &&
 (if n.Kind=0\/n.Kind=1\/n.Kind=2\/n.Kind=3 then decide (n.Kids.length=0)
 else if n.Kind=4\/n.Kind=5 then decide (2<=n.Kids.length)
 else if n.Kind=6 then decide (n.Kids.length=1/\0<=n.Min/\n.Min<=100/\(n.Max = -1\/n.Min<=n.Max/\n.Max<=100)) else false)
structure State where
 Kind:Int
 Set:Set4
 Next:Int
 Other:Int
 deriving DecidableEq
structure Auto where
 States:List State
 Start:Int
 deriving DecidableEq
def iZ:State:=⟨0,set0,0,0⟩
abbrev Bld:=List State×Int
def ZW(q:State)(st:List State):Bld:=(st++[q],st.length)
section
variable (ns:List Node) (w:List Int)
mutual
def sA:Nat->Int->Int->List State->Option Bld
 | 0,_,_,_=>none
 | f + 1,i,next,st =>
  if O5 w i.toNat=0 then some (st,next)
  else
   let n:=ns.getD i.toNat CI
   if n.Kind=1 then some (ZW { iZ with Kind:=0,Set:=n.Set,Next:=next } st)
   else if n.Kind=2 then some (ZW { iZ with Kind:=2,Next:=next } st)
   else if n.Kind=3 then some (ZW { iZ with Kind:=3,Next:=next } st)
   else if n.Kind=4 then catB f n.Kids.reverse next st
   else if n.Kind=5 then match n.Kids.reverse with
    | []=>none
    | k::r=>match sA f k next st with
     | none=>none
     | some (st',start)=>altB f r next start st'
   else if n.Kind=6 then
    let c:=n.Kids.getD 0 0
    if n.Max<0 then
     let b:Int:=st.length
     match sA f c b (st++[{ iZ with Kind:=1,Other:=next }]) with
     | none=>none
     | some (st',start)=>ZX f c n.Min.toNat b (st'.set b.toNat { (st'.getD b.toNat iZ) with Next:=start })
    else match maxB f c (n.Max-n.Min).toNat next next st with
     | none=>none
     | some (st',next')=>ZX f c n.Min.toNat next' st'
   else some (st,next)
def catB:Nat->List Int->Int->List State->Option Bld
 | 0,_,_,_=>none
 | _+1,[],next,st=>some (st,next)
 | f+1,k::r,next,st=>match sA f k next st with
  | none=>none
  | some (st',next')=>catB f r next' st'
def altB:Nat->List Int->Int->Int->List State->Option Bld
 | 0,_,_,_,_=>none
 | _+1,[],_,start,st=>some (st,start)
 | f+1,k::r,next,start,st=>match sA f k next st with
  | none=>none
  | some (st',b)=>altB f r next st'.length (st'++[{ iZ with Kind:=1,Next:=b,Other:=start }])
def maxB:Nat->Int->Nat->Int->Int->List State->Option Bld
 | 0,_,_,_,_,_=>none
 | _+1,_,0,_,next,st=>some (st,next)
 | f+1,kid,m+1,last,next,st=>match sA f kid next st with
  | none=>none
  | some (st',b)=>maxB f kid m last st'.length (st'++[{ iZ with Kind:=1,Next:=b,Other:=last }])
def ZX:Nat->Int->Nat->Int->List State->Option Bld
 | 0,_,_,_,_=>none
 | _+1,_,0,next,st=>some (st,next)
 | f+1,kid,m+1,next,st=>match sA f kid next st with
  | none=>none
  | some (st',next')=>ZX f kid m next' st'
end
end
end
def PH(q:State)(start fin:Bool):List Int :=
 if q.Kind=1 then [q.Next,q.Other] else if q.Kind=2 then (if start=true then [q.Next] else []) else if q.Kind=3 then (if fin=true then [q.Next] else []) else []
def CJ(n:Int)(q:State):Bool :=
 if q.Kind=0\/q.Kind=2\/q.Kind=3 then decide (0<=q.Next/\q.Next<n)
 else if q.Kind=1 then decide (0<=q.Next/\q.Next<n/\0<=q.Other/\q.Other<n)
 else decide (q.Kind=4)
def WN(a:Auto):Int:=if a.States.length<1\/a.States.length>8000\/a.Start<0\/a.Start>=a.States.length then 2 else if a.States.all (CJ a.States.length)=true then 0 else 2
structure Thread where
 state:Int
 from_:Int
 deriving DecidableEq
abbrev Mach:=List Thread×List Bool
section
variable (a:Auto) (s:Str)
def lV(i:Int):State:=a.States.getD i.toNat iZ
def WO(q:Set4)(c:Nat):Int:=match c / 64 with
 | 0=>q.a.fdiv (2 ^ (c % 64)) % 2
 | 1=>q.b.fdiv (2 ^ (c % 64)) % 2
 | 2=>q.c.fdiv (2 ^ (c % 64)) % 2
 | _=>q.d.fdiv (2 ^ (c % 64)) % 2
def JT(fr:Int):List Thread->List Thread
 | []=>[]
 | t::r=>if t.from_>fr then [] else t::JT fr r
end
def kQ(s:Str):Str:=Lib.trimSuffix s [10]
def yO(s:Str):List Str×Int:=if 65536<s.length then ([],1) else if (Q1 s).2≠0\/100<(Q1 s).1.length then ([],1) else ((Q1 s).1.map kQ,0)
def eX(P:List Str)(i:Nat):List Str:=(P.take i).map kQ++P.drop i
theorem TA(P:List Str)(i:Nat):(eX P i).length=P.length:=by
 unfold eX;rw[A35,A67,<-A35,A68]
theorem TB{P:List Str}{i:Nat}(h:i<P.length):(eX P i)[i]?=some P[i]:=by
 unfold eX;rw[A51 (by rw[A67,A42];omega),A67,A42,Nat.min_eq_left (by omega),A80,A60,Nat.add_zero];exact A32 h
theorem TD{P:List Str}{i:Nat}(h:i<P.length):(eX P i).set i (kQ P[i])=eX P (i+1):=by
 unfold eX;rw[List.set_append_right _ _ (by rw[A67,A42];omega),A67,A42,Nat.min_eq_left (by omega),A80,A41 h,List.set_cons_zero,List.take_add_one,A32 h,Option.toList_some,A63,A45];rfl
theorem TE(P:List Str):eX P P.length=P.map kQ:=by
 unfold eX;rw[A44,List.drop_length,A71]
theorem NQ(P:List Str):eX P 0=P:=by simp[eX]
end Go.AL
attribute [local semireducible] Go.AL.Neu Go.AL.Eff Go.AL.EffV Go.AL.WpL Go.AL.WpC Go.AL.FnOk Go.AL.LexD Go.AL.Sees Go.AL.RetOk Go.AL.FnIo Go.AL.Met Go.AL.RetS
namespace Go.AL
open Go Go.RowKit
variable {P:Program}{nt:Nat}{fr:Fr}{ob:Obs}
theorem Sim.shutB{S:Ctx}{G:Gh}{a:Act}{w:World}(h:Sim P S fr ob G a w){k t:Nat}{cs:List Cell}{α:Type}{c:α->Nat->Cell}{x:α}(A:D4 ob k=some (.box (cs.map .p)))(J:E4 fr t=some (.s (.one (.ref k 0))))(F:∀j,j<cs.length->cs[j]?=some (c x j)) :
  Sim P S ((t,.s (.one (.eref α cs.length c x 0)))::fr) (Obs.drop k ob) G a w:=by
 have D:=h.drop k;obtain⟨b,N,M,y,H,ha⟩:=h.box A;have q:∀b i z,F6 (Mut S ob G) w b i z->F6 (Mut S (Obs.drop k ob) G) w b i z:=by
  intro b i z v;refine⟨v.1,fun g=>v.2 ?_⟩;rcases g with g | ⟨k',o',hk',hb⟩
  ·exact .inl g
  ·refine .inr ⟨k',o',?_,hb⟩;by_cases d:k'=k
   ·subst d;rw[P6]at hk';cases hk'
   ·rwa[O3 d]at hk'
 refine { D with facts:=fun i s u=>?_ };by_cases E:i=t
 ·subst E;rw[E1]at u;cases u;obtain⟨L,m,K⟩:=h.facts i _ J;rw[y]at m;cases m;refine⟨b,0,K,fun j I=>?_⟩;obtain⟨z,B,C⟩:=ha.get j (.p (c x j)) (by rw[A69,F j I];rfl);refine⟨z,⟨by rw[Nat.zero_add];exact cell_of_heap H (by simpa using B),fun g=>?_⟩,Cell.rep_mono (fun _ _ _ v=>q _ _ _ v) _ _ C⟩;rcases g with g | ⟨k',o',hk',hb,_⟩
  ·have:=h.m0 _ _ g;rcases h.old k _ b A (by rw[y];rfl) with h1 | h1
   ·omega
   ·exact h.m0io _ _ g h1.1
  ·by_cases d:k'=k
   ·subst d;rw[P6]at hk';cases hk'
   ·rw[O3 d]at hk';exact d (h.dis k' k o' _ b hk' A hb (by rw[y];rfl))
 ·rw[D6 (fun e=>E e.symm)]at u;exact D.facts i s u
theorem Sees.shutB{k t:Nat}{cs:List Cell}{α:Type}{c:α->Nat->Cell}(x:α)(d:D4 ob k=some (.box (cs.map .p)))(g:E4 fr t=some (.s (.one (.ref k 0))))(a:∀j,j<cs.length->cs[j]?=some (c x j)) :
  Sees P nt fr ob ((t,.s (.one (.eref α cs.length c x 0)))::fr) (Obs.drop k ob):=fun _ G _ _ _ h=>⟨G,h.shutB d g a⟩
theorem NR{a b:List Bool}(e:a.length=b.length)(h:∀x,H0 a x=H0 b x):a=b:=by
 refine List.ext_getElem e fun i c d=>?_;have:=h i;unfold H0 at this;rw[A32 c,A32 d]at this;exact this
theorem yP{l:List Bool}{i:Nat}(a:i<l.length)(h:H0 l i=false):(l.set i true).count false+1=l.count false:=by
 unfold H0 at h;rw[A32 a]at h;have h:l[i]=false:=h;rw[List.count_set a,h];have:0<l.count false:=List.count_pos_iff.2 (by rw[<-h];exact A37 a);simp only[beq_self_eq_true,if_true,beq_iff_eq,Bool.true_eq_false,if_false];omega
structure Dfs (g:Graph) (c:Nat) (x:Option Nat) (k:Nat) (out:List Bool) (op:List Int):Prop where
 len:out.length=g.length
 sound:∀y,H0 out y=true->c=y\/Reaches g c y
 start:H0 out c=true
 opn:∀y∈op,0<=y/\H0 out y.toNat=true
 at_:∀y,x=some y->H0 out y=true/\∀p∈(F1 g y).take k,H0 out p.toNat=true
 clo:∀y,H0 out y=true->(y:Int)∈op\/x=some y\/∀p∈F1 g y,H0 out p.toNat=true
theorem Dfs.init{g:Graph}{c:Nat}(f:c<g.length):Dfs g c none 0 ((List.replicate g.length false).set c true) [(c:Int)]:=by
 have b:∀y,H0 ((List.replicate g.length false).set c true) y=true->c=y:=fun y a=>by
  rw[dQ]at a;have d:H0 (List.replicate g.length false) y=false:=by
   unfold H0;rw[List.getElem?_replicate];split<;>rfl
  rw[d,Bool.false_or]at a;exact (A0 a).1
 have hs:H0 ((List.replicate g.length false).set c true) c=true:=by
  rw[dQ,A2 ⟨rfl,by rw[A73];exact f⟩,Bool.or_true]
 exact⟨by rw[A74,A73],fun y a=>.inl (b y a),hs,fun y a=>by rw[List.mem_singleton.1 a];exact⟨by omega,hs⟩,fun y a=>(by cases a),fun y a=>.inl (by rw[b y a];simp)⟩
theorem Dfs.pop{g:Graph}{c:Nat}{d:List Bool}{e:List Int}{x:Nat}(h:Dfs g c none 0 d (e++[(x:Int)])):Dfs g c (some x) 0 d e:=by
 refine⟨h.len,h.sound,h.start,fun y b=>h.opn y (by simp[b]),fun y b=>?_,fun y b=>?_⟩
 ·cases b;exact⟨(h.opn x (by simp)).2,fun p f=>by simp at f⟩
 ·rcases h.clo y b with a | a | a
  ·rcases A40.1 a with a | a
   ·exact .inl a
   ·refine .inr (.inl ?_);have:=List.mem_singleton.1 a
    congr 1;omega
  ·cases a
  ·exact .inr (.inr a)
theorem mW{l:List Int}{k:Nat}{p q:Int}(b:l[k]?=some p)(a:q∈l.take (k+1)):q∈l.take k\/q=p:=by
 rw[List.take_add_one,b]at a;simpa using a
theorem Dfs.skip{g:Graph}{c:Nat}{a:List Bool}{e:List Int}{x k:Nat}{p:Int}(h:Dfs g c (some x) k a e)(j:(F1 g x)[k]?=some p)(l:H0 a p.toNat=true):Dfs g c (some x) (k+1) a e:=by
 refine⟨h.len,h.sound,h.start,h.opn,fun y d=>?_,h.clo⟩;obtain⟨f,i⟩:=h.at_ y d;refine⟨f,fun q m=>?_⟩;cases d;rcases mW j m with b | b
 ·exact i q b
 ·rw[b];exact l
theorem Dfs.push{g:Graph}{c:Nat}{d:List Bool}{z:List Int}{x k p:Nat}(h:Dfs g c (some x) k d z)(w:(F1 g x)[k]?=some (p:Int))(A:p<g.length):Dfs g c (some x) (k+1) (d.set p true) (z++[(p:Int)]):=by
 have b:∀{y},H0 d y=true->H0 (d.set p true) y=true:=fun {y} a=>by rw[dQ,a,Bool.true_or]
 have s:H0 (d.set p true) p=true:=by rw[dQ,A2 ⟨rfl,by rw[h.len];exact A⟩,Bool.or_true]
 have f:(p:Int)∈F1 g x:=A53 w;refine⟨by rw[A74];exact h.len,fun y a=>?_,b h.start,fun y a=>?_,fun y a=>?_,fun y a=>?_⟩
 ·rw[dQ,A59]at a;rcases a with a | a
  ·exact h.sound y a
  ·have j:=(A0 a).1;subst j;rcases h.sound x (h.at_ x rfl).1 with t | t
   ·subst t;exact .inr (.one f)
   ·exact .inr (.more t f)
 ·rcases A40.1 a with a | a
  ·exact⟨(h.opn y a).1,b (h.opn y a).2⟩
  ·rw[List.mem_singleton.1 a];exact⟨by omega,by rw[A36];exact s⟩
 ·cases a;refine⟨b (h.at_ x rfl).1,fun q v=>?_⟩;rcases mW w v with u | u
  ·exact b ((h.at_ x rfl).2 q u)
  ·rw[u,A36];exact s
 ·rw[dQ,A59]at a;rcases a with a | a
  ·rcases h.clo y a with j | j | j
   ·exact .inl (by simp[j])
   ·exact .inr (.inl j)
   ·exact .inr (.inr fun q v=>b (j q v))
  ·rw[<-(A0 a).1];exact .inl (by simp)
theorem Dfs.close{g:Graph}{c:Nat}{b:List Bool}{f:List Int}{x:Nat}(h:Dfs g c (some x) (F1 g x).length b f):Dfs g c none 0 b f:=by
 refine⟨h.len,h.sound,h.start,h.opn,fun y d=>by (cases d),fun y d=>?_⟩;rcases h.clo y d with a | a | a
 ·exact .inl a
 ·refine .inr (.inr fun p j=>?_);cases a;exact (h.at_ x rfl).2 p (by rw[A44];exact j)
 ·exact .inr (.inr a)
theorem Dfs.done{g:Graph}(o:related g=true){c:Nat}(t:c<g.length){b:List Bool}(h:Dfs g c none 0 b []):b=N8 g [(c:Int)]:=by
 have i:=fun x=>lK o (s:=[(c:Int)]) (fun f j=>by rw[List.mem_singleton.1 j];omega) x;have e:∀y,H0 b y=true->∀p:Nat,(p:Int)∈F1 g y->H0 b p=true:=fun y l p n=>by
  rcases h.clo y l with a | a | a
  ·cases a
  ·cases a
  ·have:=a _ n;rwa[A36]at this
 have d:∀y,Reaches g c y->H0 b y=true:=fun y l=>by
  induction l with
  | one a=>exact e c h.start _ a
  | more _ m r=>exact e _ r _ m
 refine NR (by rw[h.len,eU]) fun x=>?_;rw[Bool.eq_iff_iff,i x];constructor
 ·intro q;exact⟨c,by simp,h.sound x q⟩
 ·rintro⟨f,j,a⟩;have k:f=c:=by have:=List.mem_singleton.1 j;omega
  rw[k]at a;rcases a with a | a
  ·rw[<-a];exact h.start
  ·exact d x a
def yQ(g:Graph)(a b:Nat)(i:Nat):Bool:=H0 (N8 g [(a:Int)]) i&&H0 (N8 g [(b:Int)]) i
def V8(g:Graph)(a b n:Nat):List Int:=((List.range n).filter fun i=>yQ g a b i).map fun (i:Nat)=>(i:Int)
theorem JU(g:Graph)(a b n:Nat):V8 g a b (n+1)=if yQ g a b n=true then V8 g a b n++[(n:Int)] else V8 g a b n:=by
 unfold V8;rw[A84,A87,A63];by_cases h:yQ g a b n=true
 ·rw[A4 h,List.filter_cons,A4 h];rfl
 ·rw[A5 h,List.filter_cons,A5 h];simp
theorem NS(g:Graph)(a b n:Nat):(V8 g a b n).length<=n:=by
 unfold V8;rw[A67];exact Nat.le_trans (List.length_filter_le _ _) (by rw[A72];exact Nat.le_refl _)
def P2(g:Graph)(cov:List Bool)(c:Int)(n:Nat):List Bool:=(List.range cov.length).map fun i=>H0 cov i||(decide (i<n)&&(H0 (N8 g [c]) i&&decide ((i:Int)≠c)))
def s5(g:Graph):List Int->List Bool->List Bool
 | [],cov=>cov
 | c::r,cov=>s5 g r (P2 g cov c g.length)
def zZ(g:Graph)(l:List Int):List Int:=l.filter fun i=>!H0 (s5 g l (List.replicate g.length false)) i.toNat
def qE(g:Graph)(a b:Nat):List Int:=zZ g (V8 g a b g.length)
theorem x2(g:Graph)(cov:List Bool)(c:Int)(n:Nat):(P2 g cov c n).length=cov.length:=by unfold P2;rw[A67,A72]
theorem NT(g:Graph)(cov:List Bool)(c:Int):P2 g cov c 0=cov:=by
 refine NR (x2 g cov c 0) fun x=>?_;unfold P2 H0;rw[A69];by_cases h:x<cov.length
 ·rw[A32 (by rw[A72];exact h),List.getElem_range];simp[H0]
 ·rw[A52 (by rw[A72];omega),A52 (by omega)];rfl
theorem yR{g:Graph}{a:List Bool}{c:Int}{n x:Nat}(h:x<a.length):(P2 g a c n)[x]?=some (H0 a x||(decide (x<n)&&(H0 (N8 g [c]) x&&decide ((x:Int)≠c)))):=by
 unfold P2;rw[A69,A32 (by rw[A72];exact h),List.getElem_range];rfl
theorem NU{g:Graph}{cov:List Bool}{c:Int}{n:Nat}(h:n<cov.length):(P2 g cov c n).set n (H0 (P2 g cov c n) n||(H0 (N8 g [c]) n&&decide ((n:Int)≠c)))=P2 g cov c (n+1):=by
 refine NR (by rw[A74,x2,x2]) fun x=>?_;have j:H0 (P2 g cov c n) n=H0 cov n:=by
  have:=yR (g:=g) (c:=c) (n:=n) h;unfold H0 at this ⊢;rw[this];simp
 rw[j];by_cases d:x<cov.length
 ·have i:H0 (P2 g cov c (n+1)) x=(H0 cov x||(decide (x<n+1)&&(H0 (N8 g [c]) x&&decide ((x:Int)≠c)))):=by
   have:=yR (g:=g) (c:=c) (n:=n+1) d;rw[show H0 (P2 g cov c (n+1)) x=((P2 g cov c (n+1))[x]?).getD false from rfl,this];rfl
  have f:H0 (P2 g cov c n) x=(H0 cov x||(decide (x<n)&&(H0 (N8 g [c]) x&&decide ((x:Int)≠c)))):=by
   have:=yR (g:=g) (c:=c) (n:=n) d;rw[show H0 (P2 g cov c n) x=((P2 g cov c n)[x]?).getD false from rfl,this];rfl
  rw[i];by_cases a:n=x
  ·subst a;unfold H0;rw[A83 (by rw[x2];exact h)];rw[show decide (n<n+1)=true by simp,Bool.true_and];rfl
  ·rw[show H0 ((P2 g cov c n).set n (H0 cov n||(H0 (N8 g [c]) n&&decide ((n:Int)≠c)))) x=H0 (P2 g cov c n) x by unfold H0;rw[List.getElem?_set_ne a],f];by_cases b:x<n
   ·rw[A2 b,A2 (show x<n+1 by omega)]
   ·rw[A3 b,A3 (show ¬x<n+1 by omega)]
 ·unfold H0;rw[A52 (by rw[A74,x2];omega),A52 (by rw[x2];omega)]
structure AG (A:Auto):Prop where
 len:1<=A.States.length/\A.States.length<=8000
 start:0<=A.Start/\A.Start<A.States.length
 good:∀q∈A.States,CJ A.States.length q=true
theorem AG.check{A:Auto}(h:AG A):WN A=0:=by
 obtain⟨a,b⟩:=h.len;obtain⟨c,d⟩:=h.start;unfold WN;rw[A5 (by omega),A4 (List.all_eq_true.2 h.good)]
structure MG (A:Auto) (m:Mach):Prop where
 sl:m.2.length=A.States.length
 cnt:m.1.length+m.2.count false<=A.States.length
 st:∀t∈m.1,0<=t.state/\t.state<A.States.length
theorem count_set{sn:List Bool}:∀{i:Nat},sn[i]?=some false->(sn.set i true).count false+1=sn.count false:=by
 induction sn with
 | nil=>intro i h;cases h
 | cons b r a =>
  intro i h;cases i with
  | zero =>
   rw[List.getElem?_cons_zero]at h;cases h;simp
  | succ i =>
   rw[List.getElem?_cons_succ]at h;have:=a h;rw[List.set_cons_succ,List.count_cons,List.count_cons];omega
theorem MG.first(A:Auto):MG A ([],List.replicate A.States.length false):=⟨by simp,by simp,fun _ h=>by cases h⟩
theorem ZY{sn:List Bool}{i:Nat}(h:i<sn.length):sn[i]?=some (H0 sn i):=by
 unfold H0;rw[A32 h];rfl
theorem MG.push{A:Auto}{m:Mach}(h:MG A m){i:Int}(c:0<=i/\i<A.States.length)(fr:Int)(d:H0 m.2 i.toNat=false):MG A (m.1++[⟨i,fr⟩],m.2.set i.toNat true):=by
 have b:=h.sl;have e:=count_set (sn:=m.2) (i:=i.toNat) (by rw[<-d];exact ZY (by omega));have f:=h.cnt;refine⟨by dsimp only;rw[A74];exact b,by dsimp only;rw[A35,List.length_singleton];omega,fun t a=>?_⟩;rcases A40.1 a with a | a
 ·exact h.st t a
 ·rw[List.mem_singleton.1 a];exact c
section
variable (A:Auto) (s:Str)
variable {A}
theorem JV(fr:Int):∀a:List Thread,(JT fr a).length<=a.length/\∀t∈JT fr a,t∈a
 | []=>⟨Nat.le_refl _,fun _ h=>h⟩
 | t::r=>by
  have c:=JV fr r;unfold JT;split
  ·exact⟨Nat.zero_le _,fun _ h=>by cases h⟩
  ·refine⟨by rw[A34,A34];omega,fun x b=>?_⟩;rcases A39.1 b with rfl | b
   ·simp
   ·exact List.mem_cons_of_mem _ (c.2 x b)
theorem MG.keep{m:Mach}(h:MG A m)(fr:Int):MG A (JT fr m.1,m.2):=by
 have a:=JV fr m.1;have c:=h.cnt;exact⟨h.sl,by dsimp only;omega,fun t b=>h.st t (a.2 t b)⟩
end
section
variable (A:Auto) (s:Str)
abbrev WP(p:Nat)(k:Int):List Int:=PH (lV A k) (decide (p=0)) (decide (p=s.length))
def reads(p:Nat)(k:Int):Prop:=(lV A k).Kind=0/\WO (lV A k).Set (s.getD p 0).toNat=1
inductive Run:Int->Nat->Prop
 | start {i:Nat} (hi:i<=s.length):Run A.Start i
 | eps {k j:Int} {p:Nat} (h:Run k p) (hj:j∈WP A s p k):Run j p
 | read {k:Int} {p:Nat} (h:Run k p) (hp:p<s.length) (hr:reads A s p k):Run (lV A k).Next (p+1)
abbrev inA(k:Int):Prop:=0<=k/\k<A.States.length
variable {A s}
variable (A s)
def YW(m:Mach)(k:Int):Prop:=inA A k/\H0 m.2 k.toNat=true
structure Sy (p:Nat) (m:Mach):Prop where
 mg:MG A m
 fr:∀t∈m.1,0<=t.from_
 sync:∀k,YW A m k↔∃t∈m.1,t.state=k
variable {A s}
theorem TF{a:List Bool}{i c:Nat}(b:i<a.length):H0 (a.set i true) c=(H0 a c||decide (i=c)):=by
 unfold H0;rw[List.getElem?_set];by_cases e:i=c
 ·subst e;rw[A4 rfl,A4 b];simp
 ·rw[A5 e];simp[e]
theorem WQ{m:Mach}(d:MG A m){i:Int}(c:inA A i){fr:Int}(k:Int):YW A (m.1++[⟨i,fr⟩],m.2.set i.toNat true) k↔YW A m k\/k=i:=by
 unfold YW;rw[TF (by rw[d.sl];have:=c.2;have:=c.1;omega),A59,decide_eq_true_eq];constructor
 ·rintro⟨a,b | b⟩
  ·exact .inl ⟨a,b⟩
  ·right;have:=c.1;have:=a.1;omega
 ·rintro (⟨a,b⟩ | rfl)
  ·exact⟨a,.inl b⟩
  ·exact⟨c,.inr rfl⟩
theorem Sy.push{p:Nat}{m:Mach}(h:Sy A p m){i:Int}(c:inA A i){fr:Int}(b:0<=fr)(d:H0 m.2 i.toNat=false):Sy A p (m.1++[⟨i,fr⟩],m.2.set i.toNat true) where
 mg:=h.mg.push c fr d
 fr:=fun t a=>by
  rcases A40.1 a with a | a
  ·exact h.fr t a
  ·rw[List.mem_singleton.1 a];exact b
 sync:=fun k=>by
  rw[WQ h.mg c,h.sync k];constructor
  ·rintro (⟨t,a,e⟩ | rfl)
   ·exact⟨t,List.mem_append_left _ a,e⟩
   ·exact⟨⟨k,fr⟩,by simp,rfl⟩
  ·rintro⟨t,a,e⟩;rcases A40.1 a with a | a
   ·exact .inl ⟨t,a,e⟩
   ·right;rw[<-e,List.mem_singleton.1 a]
def Shut(A:Auto)(s:Str)(p:Nat)(m:Mach):Prop:=∀k,YW A m k->∀j∈WP A s p k,YW A m j
theorem Sy.first(A:Auto)(p:Nat):Sy A p ([],List.replicate A.States.length false) where
 mg:=MG.first A
 fr:=fun _ h=>by cases h
 sync:=fun k=>by
  constructor
  ·rintro⟨b,a⟩;unfold H0 at a;rw[List.getElem?_replicate]at a;split at a<;>cases a
  ·rintro⟨_,h,_⟩;cases h
structure NI (A:Auto) (s:Str) (a:Nat) (m:Mach):Prop where
 sy:Sy A a m
 shut:Shut A s a m
 sound:∀k,YW A m k->Run A s k a
 all:∀p k,p+1=a->Run A s k p->reads A s p k->YW A m (lV A k).Next
 no:∀p k,p<a->Run A s k p->(lV A k).Kind≠4
end
def WR(s:Str)(i:Nat):Option (Int×Nat):=(p7 (s.drop i)).map fun p=>((p.1:Int),i+p.2)
theorem digs_le(s:Str):(N1 s).length<=s.length:=(List.takeWhile_sublist _).length_le
def okN(l:List Node):Prop:=∀(i:Nat) (n:Node),l[i]?=some n->fitsN n i=true
section
variable (s:Str)
abbrev ZZ(st:PSt)(k:Int):Prop:=0<=k/\k<st.nodes.length
structure Gr (a b:Nat) (st st':PSt):Prop where
 at_:st.at_<=st'.at_
 len:st'.at_<=s.length
 dep:st'.depth=st.depth
 cnt:st'.nodes.length+st.at_+a<=st.nodes.length+st'.at_+b
 more:st.nodes.length<=st'.nodes.length
 ok:okN st.nodes->okN st'.nodes
variable {s}
theorem Gr.trans{a b c d:Nat}{x y z:PSt}(h:Gr s a b x y)(g:Gr s c d y z):Gr s (a+c) (b+d) x z where
 at_:=Nat.le_trans h.at_ g.at_
 len:=g.len
 dep:=g.dep.trans h.dep
 cnt:=by have:=h.cnt;have:=g.cnt;omega
 more:=Nat.le_trans h.more g.more
 ok:=fun k=>g.ok (h.ok k)
theorem Gr.le{a b c d:Nat}{x y:PSt}(h:Gr s a b x y)(e:c+b<=a+d):Gr s c d x y where
 at_:=h.at_
 len:=h.len
 dep:=h.dep
 cnt:=by have:=h.cnt;omega
 more:=h.more
 ok:=h.ok
theorem Gr.refl{x:PSt}(h:x.at_<=s.length):Gr s 0 0 x x:=⟨Nat.le_refl _,h,rfl,by omega,Nat.le_refl _,fun h=>h⟩
structure GrAll (f:Nat):Prop where
 pat:∀{x y:PSt} {n:Int},x.at_<=s.length->patP s WR f x=.ok (y,n)->Gr s 0 2 x y/\ZZ y n
 loop:∀{x y:PSt} {kids:List Int} {n:Int},x.at_<=s.length->(∀k∈kids,ZZ x k)->EZ s WR f x kids=.ok (y,n)->Gr s 0 1 x y/\ZZ y n
 alt:∀{x y:PSt} {kids:List Int} {n:Int},x.at_<=s.length->(∀k∈kids,ZZ x k)->YG s WR f x kids=.ok (y,n)->Gr s 0 1 x y/\ZZ y n
 piece:∀{x y:PSt} {c:UInt8} {n:Int},s[x.at_]?=some c->WL s WR f x c=.ok (y,n)->Gr s 0 0 x y/\ZZ y n
 paren:∀{x y:PSt} {n:Int},x.at_+1<=s.length->WM s WR f x=.ok (y,n)->Gr s 0 0 x y/\ZZ y n
end
abbrev Lng:=Nat->Nat->Prop
section
variable (A:Auto) (s:Str)
def AcN:Nat->Int->Nat->Prop
 | 0,k,p=>(lV A k).Kind=4/\p<=s.length
 | n+1,k,p=>(∃j∈WP A s p k,AcN n j p)\/(p<s.length/\reads A s p k/\AcN n (lV A k).Next (p+1))
def Ac(k:Int)(p:Nat):Prop:=∃n,AcN A s n k p
def Leads(q next:Int)(R:Lng):Prop:=(∀n i,AcN A s n q i->∃m j,m<=n/\R i j/\AcN A s m next j)/\(∀i j,R i j->Ac A s next j->Ac A s q i)
variable {A s}
theorem Leads.congr{q next:Int}{R S:Lng}(h:Leads A s q next R)(a:∀i j,R i j↔S i j):Leads A s q next S :=
 ⟨fun n i ha=>let ⟨m,j,b,c,d⟩:=h.1 n i ha;⟨m,j,b,(a i j).1 c,d⟩,fun i j hs ha=>h.2 i j ((a i j).2 hs) ha⟩
theorem Leads.trans{q r t:Int}{R S:Lng}(h:Leads A s q r R)(g:Leads A s r t S):Leads A s q t (fun i j=>∃p,R i p/\S p j) :=
 ⟨fun n i ha=>let ⟨m,p,d,b,e⟩:=h.1 n i ha;let ⟨f,j,g1,a,c⟩:=g.1 m p e;⟨f,j,Nat.le_trans g1 d,⟨p,b,a⟩,c⟩,
  fun i j ⟨p,b,a⟩ ha=>h.2 i p b (g.2 p j a ha)⟩
end
variable {L:List Node}{s:Str}
def WS(T:List (List Bool))(i j:Nat):Bool:=((T[i]?).getD [])[j]?.getD false
structure Tab (s:Str) (T:List (List Bool)) (R:Lng):Prop where
 len:T.length=s.length+1
 row:∀r∈T,r.length=s.length+1
 is:∀i j,i<=s.length->j<=s.length->(WS T i j=true↔R i j)
theorem Tab.congr{T:List (List Bool)}{R S:Lng}(h:Tab s T R)(d:∀i j,i<=s.length->j<=s.length->(R i j↔S i j)):Tab s T S:=⟨h.len,h.row,fun i j b c=>(h.is i j b c).trans (d i j b c)⟩
variable {n:Node}{D:Int->Lng}
theorem Tab.cell{T:List (List Bool)}{R:Lng}(h:Tab s T R){i:Nat}(b:i<=s.length):∃a,T[i]?=some a/\a.length=s.length+1/\∀j,j<=s.length->a[j]?=some (WS T i j):=by
 have d:=h.len;refine⟨T[i],A32 (by omega),h.row _ (A37 _),fun j c=>?_⟩;have e:=h.row T[i] (A37 _);unfold WS;rw[A32 (show i<T.length by omega)];dsimp only[Option.getD_some];rw[A32 (by omega)];rfl
abbrev names4:List Str:=[[97],[98,47,120],[98,47,121],[99,32,100]]
theorem names4_asc:names4.Pairwise (fun x y=>tS x y=true):=by decide
theorem JW:∀p∈names4,w8 p=0/\p.length<=3:=by decide
theorem FA:∀p∈names4,∀q∈names4,above p q=false:=by decide
def NoDig(b:Str):Prop:=∀c∈b,c.toNat<48\/57<c.toNat
theorem NoDig.app{a b:Str}(ha:NoDig a)(hb:NoDig b):NoDig (a++b):=fun c d=>(A40.1 d).elim (ha c) (hb c)
theorem NoDig.sub{a b:Str}(h:NoDig b)(hs:∀c∈a,c∈b):NoDig a:=fun c d=>h c (hs c d)
structure GN (L:Nat) (l:List File):Prop where
 sub:(l.map (·.Path)).Sublist names4
 cnt:∀f∈l,f.Blob.count 10<=L
 dig:∀f∈l,NoDig f.Blob
theorem GN.name{L:Nat}{l:List File}(h:GN L l):∀f∈l,f.Path∈names4:=fun _ a=>h.sub.subset (List.mem_map_of_mem a)
theorem GN.mono{L L':Nat}{l:List File}(h:GN L l)(a:L<=L'):GN L' l:=⟨h.sub,fun f b=>Nat.le_trans (h.cnt f b) a,h.dig⟩
theorem CL:∀{l:List File},AscS (l.map (·.Path))->ascend l=true
 | [],_=>rfl
 | [_],_=>rfl
 | f::g::r,h=>by
  rw[A49]at h;have b:=List.pairwise_cons.1 h;unfold ascend;rw[b.1 g.Path (by simp),CL b.2];rfl
theorem GN.asc{L:Nat}{l:List File}(h:GN L l):ascend l=true:=CL (names4_asc.sublist h.sub)
theorem GN.tree{L:Nat}{l:List File}(h:GN L l)(o:L+1<=4096)(i:∀f∈l,f.Blob.length<=1048576):L5 l=0:=by
 have d:l.length<=4:=by have:=h.sub.length_le;simpa using this
 unfold L5
 rw[A5 (by omega),A5 (fun a=>by
  obtain⟨f,b,c⟩:=List.any_eq_true.1 a
  exact A0 c (JW _ (h.name f b)).1),A5 (fun a=>by
  rw[nM h.asc fun x j y k=>FA _ (h.name x j) _ (h.name y k)]at a;cases a),A5 (fun a=>by
  obtain⟨f,b,c⟩:=List.any_eq_true.1 a;refine A0 c ?_;unfold l5;have m:=h.cnt f b;have n:=i f b;have e:=bJ f.Blob;rw[A5];rintro (g | g)
  ·omega
  ·split at e<;>omega)]
theorem JX{n:Int}:∀{ps a:List Int},(∀p∈ps,0<=p/\p<n/\p∉a)->ps.Nodup->kM n a ps=true
 | [],_,_,_=>rfl
 | p::r,a,h,hn=>by
  have e:=List.nodup_cons.1 hn;unfold kM;rw[A2 (h p (by simp)),Bool.true_and];refine JX (fun q d=>?_) e.2;have c:=h q (by simp[d]);refine⟨c.1,c.2.1,fun b=>?_⟩;rcases A40.1 b with b | b
  ·exact c.2.2 b
  ·rw[List.mem_singleton.1 b]at d;exact e.1 d
def OneWay(g:Graph):Prop:=(∀c p:Nat,(p:Int)∈F1 g c->p<c)\/(∀c p:Nat,(p:Int)∈F1 g c->c<p)
theorem OneWay.acyc{g:Graph}(h:OneWay g)(c:Nat):¬Reaches g c c:=by
 rcases h with h | h
 ·have f:∀{a b:Nat},Reaches g a b->b<a:=fun {a b} e=>by
   induction e with
   | one d=>exact h _ _ d
   | more _ d i=>have:=h _ _ d;omega
  exact fun e=>Nat.lt_irrefl _ (f e)
 ·have f:∀{a b:Nat},Reaches g a b->a<b:=fun {a b} e=>by
   induction e with
   | one d=>exact h _ _ d
   | more _ d i=>have:=h _ _ d;omega
  exact fun e=>Nat.lt_irrefl _ (f e)
theorem tH:∀{g:List Commit},(∀c∈g,L5 c.Files=0)->j5 g=0
 | [],_=>rfl
 | c::r,h=>by
  unfold j5;rw[A5 (fun a=>a (h c (by simp)))];exact tH fun d b=>h d (by simp[b])
structure GV (g:Graph):Prop where
 len:g.length<=16
 pars:∀c∈g,c.Parents.length<=3/\(∀p∈c.Parents,0<=p/\p<(g.length:Int))/\c.Parents.Nodup/\0<=c.Date/\c.Date<=5
 way:OneWay g
 files:∀c∈g,GN 2111 c.Files/\∀f∈c.Files,f.Blob.length<=1048576
theorem GV.check{g:Graph}(h:GV g):X4 g=0:=by
 have l:related g=true:=by
  unfold related;rw[List.all_eq_true];exact fun c a=>JX (fun p k=>⟨((h.pars c a).2.1 p k).1,((h.pars c a).2.1 p k).2,by simp⟩) (h.pars c a).2.2.1
 have j:¬cyclic g=true:=fun d=>by
  obtain⟨c,a⟩:=(iY l).1 d;exact h.way.acyc c a
 have m:=h.len;have b:aO g=true:=by
  unfold aO;rw[A2 (by omega),Bool.true_and];cases ha:g.any fun c=>decide (c.Parents.length>32)
  ·rfl
  obtain⟨c,a,f⟩:=List.any_eq_true.1 ha;have:=A0 f;have:=(h.pars c a).1;omega
 have i:¬qB g=true:=fun d=>by
  obtain⟨c,a,f⟩:=List.any_eq_true.1 d;have:=A0 f;have:=(h.pars c a).2.2.2;omega
 unfold X4;rw[b,l,A5 (by simp),A5 (by simp),A5 j,A5 i];exact tH fun c a=>(h.files c a).1.tree (by omega) (h.files c a).2
structure ChainA (A:Auto) (w:Str):Prop where
 ag:AG A
 start:A.Start=(w.length:Int)+2
 s0:(lV A ((w.length:Int)+2)).Kind=2/\(lV A ((w.length:Int)+2)).Next=(w.length:Int)+1
 lt:∀(j:Nat) (c:UInt8),w[j]?=some c->(lV A ((w.length:Int)+1-j)).Kind=0/\(lV A ((w.length:Int)+1-j)).Next=(w.length:Int)-j/\∀x:UInt8,WO (lV A ((w.length:Int)+1-j)).Set x.toNat=1↔x=c
 en:(lV A 1).Kind=3/\(lV A 1).Next=0
 ac:(lV A 0).Kind=4
structure Backs (want x:Str) (l:List Patch) (f:Nat->Str):Prop where
 z:f 0=want
 e:f l.length=x
 st:∀k (h:k<l.length),x6 l[k].Hunks<=134217728/\(f (k+1)).length<=1048576/\cP l[k] (f (k+1))=(f k,0)
theorem Backs.snoc{a x y:Str}{l:List Patch}{f:Nat->Str}(h:Backs a x l f){p:Patch}(j:x6 p.Hunks<=134217728)(i:y.length<=1048576)(ha:cP p y=(x,0)) :
  Backs a y (l++[p]) (fun k=>if k<=l.length then f k else y):=by
 refine⟨?_,?_,?_⟩
 ·rw[A4 (Nat.zero_le _)];exact h.z
 ·rw[A5 (by simp)]
 ·intro k d;have g:k<l.length+1:=by simpa using d
  by_cases b:k<l.length
  ·rw[A4 (by omega),A4 (by omega),A78 b];exact h.st k b
  ·have c:k=l.length:=by omega
   subst c;rw[A5 (by omega),A4 (Nat.le_refl _),A79 (Nat.le_refl _),h.e];simp only[A80,List.getElem_cons_zero];exact⟨j,i,ha⟩
theorem sB:∀(b a:Str),(H3 a b).length<=b.count 10+1
 | [],a=>by unfold H3;split<;>simp
 | c::r,a=>by
  unfold H3;rw[List.count_cons];split
  ·rename_i h;have:=sB r [];simp only[A34];have d:(c == 10)=true:=by simpa using h
   rw[A4 d];omega
  ·have:=sB r (a++[c]);omega
theorem NV(b:Str):(E9 b).length<=b.count 10+1:=sB b []
def InWay(g:Graph)(c n:Nat):Prop:=((∀c p:Nat,(p:Int)∈F1 g c->p<c)/\c+n<g.length)\/((∀c p:Nat,(p:Int)∈F1 g c->c<p)/\n<=c)
theorem InWay.init{g:Graph}(h:GV g){c:Nat}(b:c<g.length):InWay g c 0:=by
 rcases h.way with a | a
 ·exact .inl ⟨a,by omega⟩
 ·exact .inr ⟨a,by omega⟩
theorem InWay.step{g:Graph}{c n p:Nat}(h:InWay g c n)(b:(p:Int)∈F1 g c):InWay g p (n+1):=by
 rcases h with ⟨a,d⟩ | ⟨a,d⟩
 ·have:=a c p b;exact .inl ⟨a,by omega⟩
 ·have:=a c p b;exact .inr ⟨a,by omega⟩
theorem InWay.lt{g:Graph}{c n:Nat}(h:InWay g c n)(b:c<g.length):n<g.length:=by
 rcases h with ⟨_,a⟩ | ⟨_,a⟩<;>omega
theorem WT(d a b:Str)(c:Int)(s:R2 d=true)(B:d.length<=8)(ha:a.length<=250000)(hb:b.length<=250000)(y:(E9 a).length<=2112)(z:(E9 b).length<=2112)(u:0<=c/\c<=1048576):∃p:Patch,
  rU d d a b c false=(p,0)/\J1 p=0/\x6 p.Hunks<=134217728/\(K1 p).length<=1048576/\cP p a=(b,0):=by
 obtain⟨w,D⟩:=Y3 a;obtain⟨x,E⟩:=Y3 b;have o:Few a:=⟨by omega,by omega⟩
 have q:Few b:=⟨by omega,by omega⟩
 obtain⟨r,_⟩:=kI (E9 a) (E9 b) false o.2 q.2;have A:=xT d d a b _ c s s (by omega) o q r;have v:=r.size u.1 (dM a).1 (dM b).1;have j:=r.chain0 u.1;obtain⟨hs,k⟩:∃hs,hs=S0 (iP (E9 a) (E9 b) false) (E9 a) (E9 b) c:=⟨_,rfl⟩
 have i:=A.chk;rw[<-k]at v j i;have F:(K1 ⟨d,d,hs⟩).length<=(dG ⟨d,d,hs⟩).flatten.length+x6 hs:=by
  unfold K1 iG;rw[A58,A35];have:=cN hs;show _+((hs).map o4).flatten.flatten.length<=_;omega
 have C:(dG ⟨d,d,hs⟩).flatten.length<=4*d.length+4*d.length+14:=eN ⟨d,d,hs⟩;rw[w,x]at v;refine⟨⟨d,d,hs⟩,?_,i,by show x6 hs<=_;omega,by omega,xV i o q j⟩;unfold rU;rw[A5 (by rw[s];decide),A5 (by omega),k]
theorem WU{a b c:Int}{t:Str}(ha:¬(a<0\/2147483647<a))(hb:¬(b<0\/2147483647<b))(d:¬(c<0\/2147483647<c)):(nQ ⟨3,a,b,c,false,t⟩).2=0:=by
 simp[nQ,formsL,IX,uF,b9,iS,Cmd.get,Cmd.put,rW,ha,hb,d]
theorem WV(i:Nat)(h:i<4):∃b:Str,names4[((i:Nat):Int).toNat]?=some b/\b.length<=8/\R2 b=true:=by
 rw[A36]
 match i,h with
 | 0,_=>exact⟨_,rfl,by decide,by decide⟩
 | 1,_=>exact⟨_,rfl,by decide,by decide⟩
 | 2,_=>exact⟨_,rfl,by decide,by decide⟩
 | 3,_=>exact⟨_,rfl,by decide,by decide⟩
end Go.AL
