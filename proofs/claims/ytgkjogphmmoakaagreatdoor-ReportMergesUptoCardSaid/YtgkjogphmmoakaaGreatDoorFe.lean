
/- Walks of the program's functions. -/
import Derived.Test.YtgkjogphmmoakaaGreatDoorFd
set_option linter.all false
namespace Go.Proofs.YtgkjogphmmoakaaGreatDoor
open Go Go.AL
set_option maxRecDepth 100000
set_option maxHeartbeats 4000000
theorem BP(n:Int):FnOk Tryz.prog 259 [D2 n] (fun a=>a=[D5 (decide (N1 n))]):=by
 refine FnOk.intro Tryz.func259 G6 Z Z Z Z (zz 15 ?_);refine A8 (F7 Z Z Z) ?_;simp only[and_pick];rfl
theorem b9w{p:Prop}(h:p:=by first | rfl | omega):p:=h
theorem A32{gf:Fr}{ob:Obs}(p:List Span):AL.Met Tryz.prog 301 [.one (.p (.list Span 2 spanC p))] gf ob [] (fun b ob'=>b=[.one (.full Span 2 spanC p)]/\ob'=ob):=by
 refine AL.Met.intro Tryz.func301 G6 Z Z Z (zz 11 ?_);refine A7 (UD Z (.pure _ _ _ _) Z Z B1 B1 b9w) Z (zz 2 ?_);rw[show p.take (p.length:Int).toNat=p by simp];refine zz 1 ?_;exact F1 (O3 rfl rfl) cQ (fun _ _ h=>h) ⟨rfl,rfl⟩
def fV(i j:Int):List Span->List Change
 | []=>[]
 | x::r=>(if x.From>i\/x.To>j then [⟨i,x.From-i,j,x.To-j⟩] else [])++fV (x.From+1) (x.To+1) r
theorem xG(m n:Int):∀(p:List Span) (i j:Int),fV i j (p++[⟨m,n⟩])=R5 i j p m n
 | [],i,j=>by simp[fV,R5]
 | x::r,i,j=>by
  rw[C57,fV,R5,xG m n r]
theorem FP(p:List Span)(m n:Int)(R:p.length<=536870912)(H:-1099511627776<=m/\m<=1099511627776)(I:-1099511627776<=n/\n<=1099511627776)(hb:∀s∈p,-1099511627776<=s.From/\s.From<=1099511627776 /\ -1099511627776<=s.To/\s.To<=1099511627776) :
  FnOk Tryz.prog 260 [pSpans p,D2 m,D2 n] (fun Q=>Q=[pChanges (jR p m n)]):=by
 refine FnOk.intro Tryz.func260 G6 Z Z Z Z (zz 6 ?_);refine B8 (w9 7 _ changeC Z) Z (zz 10 ?_);refine S9 (A32 p) Z Z Z ?_;rintro _ _ ⟨rfl,rfl⟩;refine zz 3 ?_;refine A7 (C6 (c:=spanC) (ys:=[⟨m,n⟩]) (D1 Z Z Z Z F2) Z Z Z) Z (B8 (FF 18 Z Z (.pure _ _ _ _) YN s6 Z) Z (zz 3 ?_));obtain⟨q,A⟩:∃q,q=p++[(⟨m,n⟩:Span)]:=⟨_,rfl⟩
 have P:q.length=p.length+1:=by rw[A];simp
 have F:∀s∈q,-1099511627776<=s.From/\s.From<=1099511627776 /\ -1099511627776<=s.To/\s.To<=1099511627776:=by
  intro s hs;rw[A]at hs;rcases C37.1 hs with h | h
  ·exact hb s h
  ·simp at h;subst h;exact⟨H.1,H.2,I.1,I.2⟩
 have z:jR p m n=fV 0 0 q:=by rw[A,xG];rfl
 rw[<-A];refine zz 1 ?_;refine C5 (X:=Nat×Int×Int×List Change) (fun x=>([(7,.s (.one (.buf 7 Change 4 changeC x.2.2.2))),(8,B2 x.2.1),(9,B2 x.2.2.1),(18,.s (.one (.buf 18 Span 2 spanC q))),(19,B2 q.length),(20,B2 x.1)],[(7,.spare x.2.2.2.length 4 255)])) (fun x=>x.1<=q.length/\x.2.2.2++fV x.2.1 x.2.2.1 (q.drop x.1)=jR p m n/\(-1099511627777<=x.2.1/\x.2.1<=1099511627777)/\(-1099511627777<=x.2.2.1/\x.2.2.1<=1099511627777)/\x.2.2.2.length<=x.1) (fun x=>q.length-x.1) (0,0,0,[]) ⟨Nat.zero_le _,z.symm,by decide,by decide,Nat.le_refl _⟩ (Sees.of lf lo) ?_;rintro⟨k,i,j,G⟩ ⟨O,w,M,N,E⟩;dsimp only at O w M N E ⊢;refine zc 5 (fun l=>?_) fun l=>?_
 ·have y:k<q.length:=by have:=A0 l;omega
  have K:q[k]?=some q[k]:=by simp[y]
  have C:=F _ (C35 y);obtain⟨c,L⟩:∃c,c=q[k]:=⟨_,rfl⟩
  rw[C38 y,fV]at w;rw[<-L]at K w C;refine zz 5 ?_;refine A7 (A9 Z (.buf _ _ _ _ _) Z B1 K) Z (zz 1 ?_);refine B8 (E6 11 Z) Z (zz 2 ?_);obtain⟨g,d⟩:∃g,g=G++(if c.From>i\/c.To>j then [⟨i,c.From-i,j,c.To-j⟩] else []):=⟨_,rfl⟩
  have J:g.length<=k+1:=by rw[d,C32];split<;>simp<;>omega
  rw[<-C42,<-d]at w;refine bV [(7,.s (.one (.buf 7 Change 4 changeC g))),(8,B2 i),(9,B2 j),(11,.s (.one (.ref 11 0))),(18,.s (.one (.buf 18 Span 2 spanC q))),(19,B2 q.length),(20,B2 k)] [(7,.spare g.length 4 255),(11,.box [.p (.v (.int .i64 c.From)),.p (.v (.int .i64 c.To))])] ?_ ?_
  ·refine zc 13 (fun l=>?_) fun l=>?_
   ·simp only[or_pick]at l;have B:=A0 l;rw[A5 B]at d;skip;refine zz 13 ?_;refine A7 (C6 (c:=changeC) (ys:=[⟨i,c.From-i,j,c.To-j⟩]) (D1 Z Z Z Z F2) Z Z Z) Z (zz 3 ?_);rw[d];exact Sees.of lf lo
   ·simp only[or_pick]at l;have B:=A1 l;rw[A6 B,C60]at d;refine zz 1 ?_;rw[d];exact Sees.of lf lo
  ·skip;refine zz 14 ?_;exact⟨(k+1,c.From+1,c.To+1,g),⟨by dsimp only;omega,w,⟨by dsimp only;omega,by dsimp only;omega⟩,⟨by dsimp only;omega,by dsimp only;omega⟩,by dsimp only;omega⟩,by dsimp only;omega,Sees.of lf lo⟩
 ·have D:k=q.length:=by have:=A1 l;omega
  rw[D,C51 (Nat.le_refl _),fV,C60]at w;refine zz 7 ?_;exact A8 (F7 rfl rfl rfl) (by rw[<-w])
theorem PO{m n:Int}:∀{p:List Span} {i j:Int},Asc m n i j p->∀k (h:k<p.length),(k=0->i<=p[k].From/\j<=p[k].To)/\(∀a:0<k,p[k-1].From<p[k].From/\p[k-1].To<p[k].To)/\p[k].From<m/\p[k].To<n
 | [],_,_,_,k,h=>by simp at h
 | x::r,i,j,ha,k,h=>by
  obtain⟨f,g,b⟩:=ha;cases k with
  | zero=>have:=b.le;exact⟨fun _=>⟨f,g⟩,fun a=>absurd a B1,by show x.From<m;omega,by show x.To<n;omega⟩
  | succ k =>
   obtain⟨g1,c,d,e⟩:=PO b k (by simpa using h);refine⟨fun a=>absurd a B1,fun _=>?_,by simpa using d,by simpa using e⟩;cases k with
   | zero =>
    obtain⟨q,s⟩:=g1 rfl;have l:0<r.length:=by simpa using h
    show x.From<r[0].From/\x.To<r[0].To;omega
   | succ k=>simpa using c B1
theorem FQ(p:List Span)(m n:Int)(Q:N1 m)(R:N1 n)(ha:Asc m n 0 0 p)(S:p.length<=536870912) :
  FnOk Tryz.prog 195 [pSpans p,D2 m,D2 n] (fun W=>W=[pChanges (jR p m n),D2 0]):=by
 obtain⟨A,B⟩:=Q;obtain⟨C,D⟩:=R;have E:=PO ha;have hb:∀s∈p,0<=s.From/\s.From<=4096/\0<=s.To/\s.To<=4096:=by
  have G:∀(p:List Span) (i j:Int),Asc m n i j p->0<=i->0<=j->∀s∈p,0<=s.From/\s.From<=4096/\0<=s.To/\s.To<=4096:=by
   intro p;induction p with
   | nil=>intro _ _ _ _ _ s hs;simp at hs
   | cons x r V =>
    rintro i j ⟨Y,h2,H⟩ h4 h5 s hs;have:=H.le;rcases C36.1 hs with rfl | hs
    ·omega
    ·exact V _ _ H B1 B1 s hs
  exact G p 0 0 ha B1 B1
 refine FnOk.intro Tryz.func195 G6 Z Z Z Z (zz 9 ?_);refine D3 (BP m) (zz 3 ?_);refine C3 Z Z Z Z (fun I=>by have U:=I;(try simp at U);rw[I];exact I4 (BP n) Z Z) ?_;refine zc 3 (fun q=>?_) fun q=>?_
 ·exfalso;simp only[<-decide_not,or_pick]at q;have h:¬N1 m\/¬N1 n:=A0 q;rcases h with h | h
  ·exact h ⟨A,B⟩
  ·exact h ⟨C,D⟩
 refine K4 [(0,C0 Span 2 spanC p),(1,B2 m),(2,B2 n)] [] (Sees.of lf lo) (zz 4 ?_);refine B8 (E6 8 Z) Z (zz 10 ?_);obtain⟨a,d⟩:∃a:Nat->Span,a=fun k=>if k=0 then ⟨-1,-1⟩ else p.getD (k-1) ⟨0,0⟩:=⟨_,rfl⟩
 refine C5 (X:=Nat) (fun k=>([(0,C0 Span 2 spanC p),(1,B2 m),(2,B2 n),(8,.s (.one (.ref 8 0))),(20,C0 Span 2 spanC p),(21,B2 p.length),(22,B2 k)],[(8,.box [.p (.v (.int .i64 (a k).From)),.p (.v (.int .i64 (a k).To))])])) (fun k=>k<=p.length) (fun k=>p.length-k) 0 (Nat.zero_le _) ?_ ?_
 ·rw[show a 0=⟨-1,-1⟩ by rw[d];rfl];exact Sees.of lf lo
 intro k P;dsimp only at P ⊢;refine zc 5 (fun q=>?_) fun q=>?_
 ·have w:k<p.length:=by have:=A0 q;omega
  have J:p[k]?=some p[k]:=by simp[w]
  obtain⟨g1,L,M,N⟩:=E k w;have l:a (k+1)=p[k]:=by rw[d];simp[w]
  have g:(a k).From<p[k].From/\(a k).To<p[k].To:=by
   rw[d];by_cases y:k=0
   ·have:=g1 y;simp only[y,if_true]at this ⊢;omega
   ·have:=L B1;simp only[y,if_false];have e:p.getD (k-1) ⟨0,0⟩=p[k-1]:=by simp[show k-1<p.length by omega]
    rw[e];exact this
  obtain⟨c,O⟩:∃c,c=p[k]:=⟨_,rfl⟩
  rw[<-O]at J M N l g;obtain⟨K,z⟩:∃K,K=a k:=⟨_,rfl⟩
  rw[<-z]at g ⊢;refine zz 5 ?_;refine A7 (A9 Z (.pure _ _ _ _) Z B1 J) Z (zz 1 ?_);refine B8 (E6 10 Z) Z ?_;refine zc 30 (fun q=>?_) fun q=>?_
  ·exfalso;simp only[or_pick]at q;have:=A0 q;omega
  ·refine zz 9 ?_;refine⟨k+1,by omega,by omega,?_⟩;rw[l];exact Sees.of lf lo
 ·refine zz 6 ?_;refine x7 (FP p m n S B1 B1 (fun s hs=>by have:=hb s hs;omega)) Z Z Z ?_;rintro _ rfl;refine zz 4 ?_;exact A8 (S8 rfl rfl rfl rfl rfl) rfl
theorem tD{l:List Int}{i:Nat}(h:i<l.length):l[i]?=some (l.getD i 0):=by simp[h]
theorem PP(a b:List Int):FnOk Tryz.prog 194 [L0 a,L0 b] (fun c=>c=[D5 (decide ((a.length:Int)<=4096/\(b.length:Int)<=4096))]):=by
 refine FnOk.intro Tryz.func194 G6 Z Z Z Z (zz 17 ?_);exact A8 (F7 rfl rfl rfl) (by simp only[and_pick])
theorem FR(a b:List Int)(ha:a.length<=1073741824):FnOk Tryz.prog 261 [L0 a,L0 b] (fun s=>s=[D2 (Y5 a b)]):=by
 refine FnOk.intro Tryz.func261 G6 Z Z Z Z (zz 10 ?_);refine C5 (X:=Nat) (fun k=>([(0,C0 Int 1 E3 a),(1,C0 Int 1 E3 b),(5,B2 k)],[])) (fun k=>k<=a.length/\k<=b.length/\Y5 a b=k+Y5 (a.drop k) (b.drop k)) (fun k=>a.length-k) 0 ⟨Nat.zero_le _,Nat.zero_le _,by simp⟩ (Sees.of lf lo) ?_;rintro k ⟨q,l,i⟩;dsimp only at q l i ⊢;refine zz 10 ?_;refine J5 Z Z (fun c=>by rw[c];exact y9 Z (.pure _ _ _ _)) Z Z ?_;refine J5 Z Z (fun c=>by rw[c];exact iD Z Z) Z Z ?_;refine zz 4 ?_;refine J5 Z Z (fun c=>by have m:=c;(try simp at m);rw[c];exact A9 Z (.pure _ _ _ _) Z B1 (tD B1)) Z Z ?_;refine zz 3 ?_;refine J5 Z Z (fun c=>by have m:=c;(try simp at m);rw[c];exact A9 Z (.pure _ _ _ _) Z B1 (tD B1)) Z Z ?_;refine zz 1 ?_;refine J5 Z Z (fun c=>by rw[c];exact rW Z Z) Z Z ?_;refine zc 2 (fun g=>?_) fun g=>?_
 ·simp only[and_pick]at g;obtain⟨⟨d,f⟩,j⟩:=A0 g;have d:k<a.length:=by omega
  have f:k<b.length:=by omega
  rw[CW a b k d f,A5 (by simpa[d,f] using j)]at i;refine zz 7 ?_;exact⟨k+1,⟨by omega,by omega,by omega⟩,by omega,Sees.of lf lo⟩
 ·simp only[and_pick]at g;have h:=A1 g;have o:Y5 (a.drop k) (b.drop k)=0:=by
   by_cases n:k<a.length/\k<b.length
   ·obtain⟨d,f⟩:=n;rw[CW a b k d f,A6];intro j;exact h ⟨⟨by omega,by omega⟩,by simpa[d,f] using j⟩
   ·exact A70 a b k n
  rw[o]at i;refine zz 7 ?_;exact A8 (F7 rfl rfl rfl) (by rw[i];rfl)
theorem FS(a b:List Int)(ha:a.length<=4096)(hb:b.length<=4096):FnOk Tryz.prog 262 [L0 a,L0 b] (fun rs=>rs=[pU16s (flat a b (fun _ _=>true))]):=by
 obtain⟨W,G⟩:∃W,W=b.length+1:=⟨_,rfl⟩
 have B:∀i:Nat,i<=a.length+1->0<=(i:Int)*(W:Int)/\(i:Int)*(W:Int)<=16789506:=by
  intro i U;have V:i*W<=4098*4097:=Nat.mul_le_mul B1 B1;have Y:((i*W:Nat):Int)=(i:Int)*W:=by push_cast;rfl
  omega
 have d:∀i:Nat,(i:Int)*(W:Int)=((i*W:Nat):Int):=fun i=>by push_cast;rfl
 have H:∀done,(flat a b done).length=(a.length+1)*W:=fun done=>by rw[xY,G]
 have E:∀i j,dist (a.drop i) (b.drop j)<=8192:=fun i j=>by
  have:=MD (a.drop i) (b.drop j);simp only[C45]at this;omega
 have af:∀i j:Nat,i<=a.length->j<=b.length->i*W+j<(a.length+1)*W:=fun i j U A=>by rw[G];exact (zO U A).1
 refine FnOk.intro Tryz.func262 G6 Z Z Z Z (zz 11 ?_);refine K4 [(0,C0 Int 1 E3 a),(1,C0 Int 1 E3 b),(5,B2 W)] [] (Sees.of ⟨⟨_,rfl,.same _⟩,⟨_,rfl,.same _⟩,⟨_,rfl,.eq (by rw[G];simp)⟩,trivial⟩ trivial) ?_;have aq:=B (a.length+1) (Nat.le_refl _);have S:((a.length:Int)+1)=((a.length+1:Nat):Int):=by omega
 refine zz 6 ?_;refine A7 (rV Z Z (by (rw[S];omega))) Z ?_;refine B8 (j5 20 Int rB 0 Z Z (by (rw[S];omega)) (by (rw[S];omega)) (fun _=>by first | exact⟨⟨rfl,rfl⟩,trivial⟩ | exact⟨F0 _ _ _,trivial⟩ | exact⟨F0 _ _ _,⟨rfl,rfl⟩,F0 _ _ _,trivial⟩ | exact⟨⟨rfl,rfl⟩,⟨rfl,rfl⟩,trivial⟩) Z) Z ?_;refine zz 2 ?_;refine K4 [(0,C0 Int 1 E3 a),(1,C0 Int 1 E3 b),(5,B2 W),(6,.s (.one (.mut 20)))] [(20,.arr Int 1 rB (flat a b (fun _ _=>false)))] ?_ ?_
 ·refine Sees.of ⟨⟨_,rfl,.same _⟩,⟨_,rfl,.same _⟩,⟨_,rfl,.same _⟩,⟨_,rfl,.same _⟩,trivial⟩ ⟨?_,trivial⟩;rw[<-A69,S,d,C31,G];rfl
 refine zz 8 ?_;refine C5 (X:=Nat) (fun j=>([(0,C0 Int 1 E3 a),(1,C0 Int 1 E3 b),(5,B2 W),(6,.s (.one (.mut 20))),(22,B2 b.length),(23,B2 j)],[(20,.arr Int 1 rB (flat a b (fun r q=>decide (r=a.length/\q<j))))])) (fun j=>j<=b.length) (fun j=>b.length-j) 0 (Nat.zero_le _) ?_ ?_
 ·rw[show flat a b (fun r q=>decide (r=a.length/\q<0))=flat a b (fun _ _=>false) from kG fun r q _ _=>.inl s6];exact Sees.of lf lo
 intro j A;dsimp only at A ⊢;refine zc 5 (fun w=>?_) fun w=>?_
 ·have ap:j<b.length:=by have:=A0 w;omega
  have ar:=B a.length B1;have ao:=af a.length j (Nat.le_refl _) B1;have ab:=d a.length;have z:=H (fun r q=>decide (r=a.length/\q<j));have C:(flat a b (fun r q=>decide (r=a.length/\q<j))).set (((a.length:Int)*(W:Int)+(j:Int)).toNat) (IntKind.u16.wrap ((b.length:Int)-j))=flat a b (fun r q=>decide (r=a.length/\q<j+1)):=by
   rw[show ((a.length:Int)*(W:Int)+(j:Int)).toNat=a.length*(b.length+1)+j by rw[ab,G];omega,WP _ B1];refine QY (Nat.le_refl _) B1 ?_ s6 (fun r q hr hq M=>?_)
   ·rw[C51 (Nat.le_refl a.length),dist,C45];omega
   ·rw[decide_eq_decide];omega
  refine zz 21 ?_;refine A7 (E0 Z Z Z B1 (by (rw[z];omega))) Z ?_;refine O2 (I1 TySz.out Z Z (by (rw[z];omega)) Z Z) ?_;refine zz 5 ?_;refine⟨j+1,by omega,by omega,?_⟩;rw[<-C];exact Sees.of lf lo
 ·have ag:j=b.length:=by have:=A1 w;omega
  subst ag
  rw[show flat a b (fun r q=>decide (r=a.length/\q<b.length))=flat a b (fun r _=>decide (a.length<=r)) from kG fun r q hr hq=>by
   by_cases h:r=a.length/\q=b.length
   ·right;rw[h.1,h.2,C51 (Nat.le_refl _),C51 (Nat.le_refl _)];exact tH []
   ·left;rw[decide_eq_decide];omega]
  refine zz 10 ?_;refine C5 (X:=Nat) (fun i=>([(0,C0 Int 1 E3 a),(1,C0 Int 1 E3 b),(5,B2 W),(6,.s (.one (.mut 20))),(8,B2 ((i:Int)-1))],[(20,.arr Int 1 rB (flat a b (fun r _=>decide (i<=r))))])) (fun i=>i<=a.length) (fun i=>i) a.length (Nat.le_refl _) (Sees.of lf lo) ?_;intro i U;dsimp only at U ⊢;refine zc 6 (fun w=>?_) fun w=>?_
  ·obtain⟨i,rfl⟩:∃r,i=r+1:=⟨i-1,by have:=A0 w;omega⟩
   refine K4 [(0,C0 Int 1 E3 a),(1,C0 Int 1 E3 b),(5,B2 W),(6,.s (.one (.mut 20))),(8,B2 i)] [(20,.arr Int 1 rB (flat a b (fun r _=>decide (i+1<=r))))] (Sees.of ⟨jH rfl,jH rfl,jH rfl,jH rfl,leE Z (by first | (simp;done) | (simp;omega)),trivial⟩ ⟨rfl,trivial⟩) ?_;obtain⟨P,T⟩:∃P,P=i*W:=⟨_,rfl⟩
   obtain⟨N,hN⟩:∃N,N=(a.length+1)*W:=⟨_,rfl⟩
   have D:(i:Int)*(W:Int)=(P:Int):=by rw[T];exact d i
   have f:((i:Int)+1)*(W:Int)=(P:Int)+W:=by rw[Int.add_mul,Int.one_mul,D]
   have F:((i:Int)+2)*(W:Int)=(P:Int)+W+W:=by rw[Int.add_mul,D];omega
   have aj:P+W+W<=N:=by
    have V:(i+2)*W<=(a.length+1)*W:=C47 _ B1;have Y:(i+2)*W=i*W+W+W:=by rw[C62];omega
    omega
   have ai:N<=16789506:=by have:=B (a.length+1) (Nat.le_refl _);have:=d (a.length+1);omega
   have z:∀done,(flat a b done).length=N:=fun done=>by rw[H,hN]
   refine zz 8 ?_;refine D7 (rV Z Z (by (rw[D];omega))) Z Z ?_;refine zz 3 ?_;refine D7 (rV Z Z (by (rw[f];omega))) Z Z ?_;refine D7 (lW Z Z Z Z (by (first | (rw[D];omega) | (rw[D,f];omega) | (rw[f,z];omega))) (by (first | (rw[D];omega) | (rw[D,f];omega) | (rw[f,z];omega))) (by (first | (rw[D];omega) | (rw[D,f];omega) | (rw[f,z];omega)))) Z Z ?_;refine zz 4 ?_;refine D7 (rV Z Z (by (rw[f];omega))) Z Z ?_;refine zz 3 ?_;refine D7 (rV Z Z (by (rw[F];omega))) Z Z ?_;refine D7 (lW Z Z Z Z (by (first | (rw[f];omega) | (rw[f,F];omega) | (rw[F,z];omega))) (by (first | (rw[f];omega) | (rw[f,F];omega) | (rw[F,z];omega))) (by (first | (rw[f];omega) | (rw[f,F];omega) | (rw[F,z];omega)))) Z Z ?_;refine zz 3 ?_;have J:∀j,j<=b.length->(flat a b (fun r q=>decide (i+1<=r\/(r=i/\j<=q))))[P+j]?=some (dist (a.drop i) (b.drop j):Int):=fun j A=>by
    rw[T,G,CV B1 A,A5 s6]
   have x:∀j j',j<=b.length->(flat a b (fun r q=>decide (i+1<=r\/(r=i/\j'<=q))))[P+W+j]?=some (dist (a.drop (i+1)) (b.drop j):Int):=fun j j' A=>by
    rw[show P+W+j=(i+1)*(b.length+1)+j by rw[T,G,C62];omega,CV B1 A,A5 s6]
   refine K4 [(0,C0 Int 1 E3 a),(1,C0 Int 1 E3 b),(5,B2 W),(6,.s (.one (.mut 20))),(8,B2 i),(9,.s (.one (.msl 20 1 P W))),(10,.s (.one (.msl 20 1 (P+W) W)))] [(20,.arr Int 1 rB (flat a b (fun r _=>decide (i+1<=r))))] ?_ ?_
   ·refine Sees.of ⟨⟨_,rfl,.same _⟩,⟨_,rfl,.same _⟩,⟨_,rfl,.same _⟩,⟨_,rfl,.same _⟩,⟨_,rfl,.same _⟩,⟨_,rfl,.eq ?_⟩,⟨_,rfl,.eq ?_⟩,trivial⟩ ⟨rfl,trivial⟩
    ·rw[D,f];congr 3<;>omega
    ·rw[f,F];congr 3<;>omega
   have I:∀(done c:Nat->Nat->Bool) (j:Nat) (v:Int),j<=b.length->v=(dist (a.drop i) (b.drop j):Int)->c i j=true->(∀r q,r<=a.length->q<=b.length->¬(r=i/\q=j)->c r q=done r q)->(flat a b done).set (P+j) v=flat a b c:=by
    intro done c j v A hv V Y;rw[T,G];exact QY B1 A hv V Y
   have ah:(flat a b (fun r _=>decide (i+1<=r))).set (P+((b.length:Nat):Int).toNat) (IntKind.u16.wrap ((a.length:Int)-i))=flat a b (fun r q=>decide (i+1<=r\/(r=i/\b.length<=q))):=by
    rw[C31,WP _ B1];refine I _ _ _ _ (Nat.le_refl _) ?_ s6 (fun r q hr hq M=>?_)
    ·rw[C51 (Nat.le_refl b.length),tH,C45];omega
    ·rw[decide_eq_decide];omega
   refine zz 10 ?_;refine A7 (V4 Z Z B1 B1) Z (O2 (I1 TySz.out Z Z (by (rw[z];omega)) Z Z) ?_);refine zz 1 ?_;rw[ah];refine zz 8 ?_;refine C5 (X:=Nat) (fun j=>([(0,C0 Int 1 E3 a),(1,C0 Int 1 E3 b),(5,B2 W),(6,.s (.one (.mut 20))),(8,B2 i),(9,.s (.one (.msl 20 1 P W))),(10,.s (.one (.msl 20 1 (P+W) W))),(11,B2 ((j:Int)-1))],[(20,.arr Int 1 rB (flat a b (fun r q=>decide (i+1<=r\/(r=i/\j<=q)))))])) (fun j=>j<=b.length) (fun j=>j) b.length (Nat.le_refl _) (Sees.of lf lo) ?_;intro j A;dsimp only at A ⊢;refine zc 6 (fun w=>?_) fun w=>?_
   ·obtain⟨j,rfl⟩:∃r,j=r+1:=⟨j-1,by have:=A0 w;omega⟩
    have O:a[i]?=some a[i]:=by simp[show i<a.length by omega]
    have R:b[j]?=some b[j]:=by simp[show j<b.length by omega]
    have y:=A58 a b i j B1 B1;have ak:=E i j;have al:=E (i+1) j;have am:=E i (j+1);have an:=E (i+1) (j+1);obtain⟨u,hu⟩:∃u,u=a[i]:=⟨_,rfl⟩
    obtain⟨v,hv⟩:∃v,v=b[j]:=⟨_,rfl⟩
    rw[<-hu]at O y;rw[<-hv]at R y;have C:(flat a b (fun r q=>decide (i+1<=r\/(r=i/\j+1<=q)))).set (P+j) (dist (a.drop i) (b.drop j):Int)=flat a b (fun r q=>decide (i+1<=r\/(r=i/\j<=q))):=I _ _ _ _ B1 rfl s6 (fun r q hr hq M=>by rw[decide_eq_decide];omega);refine K4 [(0,C0 Int 1 E3 a),(1,C0 Int 1 E3 b),(5,B2 W),(6,.s (.one (.mut 20))),(8,B2 i),(9,.s (.one (.msl 20 1 P W))),(10,.s (.one (.msl 20 1 (P+W) W))),(11,B2 j)] [(20,.arr Int 1 rB (flat a b (fun r q=>decide (i+1<=r\/(r=i/\j+1<=q)))))] (Sees.of ⟨jH rfl,jH rfl,jH rfl,jH rfl,jH rfl,jH rfl,jH rfl,leE Z (by first | (simp;done) | (simp;omega)),trivial⟩ ⟨rfl,trivial⟩) (TR (zz 0 ?_));refine bV [(0,C0 Int 1 E3 a),(1,C0 Int 1 E3 b),(5,B2 W),(6,.s (.one (.mut 20))),(8,B2 i),(9,.s (.one (.msl 20 1 P W))),(10,.s (.one (.msl 20 1 (P+W) W))),(11,B2 j)] [(20,.arr Int 1 rB (flat a b (fun r q=>decide (i+1<=r\/(r=i/\j<=q)))))] ?_ ?_
    ·refine zz 5 ?_;refine D7 (A9 Z (.pure _ _ _ _) Z B1 O) Z Z (zz 3 ?_);refine D7 (A9 Z (.pure _ _ _ _) Z B1 R) Z Z (zz 1 ?_);refine D7 (rW Z Z) Z Z ?_;refine zc 1 (fun w=>?_) fun w=>?_
     ·rw[A5 (A0 w)]at y;rw[y]at C;have hg:=x (j+1) (j+1) B1;have ae:(flat a b (fun r q=>decide (i+1<=r\/(r=i/\j+1<=q))))[P+W+((j:Int)+1).toNat]?=some (dist (a.drop (i+1)) (b.drop (j+1)):Int):=by rw[show ((j:Int)+1).toNat=j+1 by omega];exact hg
      skip;refine zz 6 ?_;refine A7 (V4 Z Z B1 B1) Z (A7 (M9 Z Z ae Z) Z (A7 (V4 Z Z B1 B1) Z (O2 (I1 TySz.out Z Z (by (rw[z];omega)) Z Z) ?_)));refine zz 1 ?_;rw[show P+((j:Nat):Int).toNat=P+j by omega,C];exact Sees.of lf lo
     ·rw[A6 (A1 w)]at y;have ac:=x j (j+1) B1;have ad:=J (j+1) B1;have K:(flat a b (fun r q=>decide (i+1<=r\/(r=i/\j+1<=q))))[P+W+((j:Nat):Int).toNat]?=some (dist (a.drop (i+1)) (b.drop j):Int):=by rw[C31];exact ac
      have L:(flat a b (fun r q=>decide (i+1<=r\/(r=i/\j+1<=q))))[P+((j:Int)+1).toNat]?=some (dist (a.drop i) (b.drop (j+1)):Int):=by rw[show ((j:Int)+1).toNat=j+1 by omega];exact ad
      have Q:IntKind.u16.wrap ((if (dist (a.drop i) (b.drop (j+1)):Int)<(dist (a.drop (i+1)) (b.drop j):Int) then (dist (a.drop i) (b.drop (j+1)):Int) else (dist (a.drop (i+1)) (b.drop j):Int))+1)=(dist (a.drop i) (b.drop j):Int):=by
       rw[WP _ (by split<;>omega),y];split<;>omega
      skip;refine zz 5 ?_;refine D7 (V4 Z Z B1 B1) Z Z (D7 (M9 Z Z K Z) Z Z (zz 3 ?_));refine D7 (V4 Z Z B1 B1) Z Z (D7 (M9 Z Z L Z) Z Z (D7 (n_min Z Z) Z Z (D7 (rU Z Z) Z Z (D7 (V4 Z Z B1 B1) Z Z (NX (I1 TySz.out Z Z (by (rw[z];omega)) Z Z) Z ?_)))));refine zz 1 ?_;rw[Q,show P+((j:Nat):Int).toNat=P+j by omega,C];exact Sees.of lf lo
    ·skip;refine zz 5 ?_;exact⟨j,by omega,by omega,Sees.of lf lo⟩
   ·obtain rfl:j=0:=by have:=A1 w;omega
    rw[show flat a b (fun r q=>decide (i+1<=r\/(r=i/\0<=q)))=flat a b (fun r _=>decide (i<=r)) from kG fun r q _ _=>.inl (by rw[decide_eq_decide];omega)];refine zz 6 ?_;exact⟨i,by omega,by omega,Sees.of lf lo⟩
  ·obtain rfl:i=0:=by have:=A1 w;omega
   rw[show flat a b (fun r _=>decide (0<=r))=flat a b (fun _ _=>true) from kG fun r q _ _=>.inl s6];refine E2 (Sees.freeze (k:=20) Z) (zz 7 ?_);exact A8 (F7 rfl rfl rfl) rfl
theorem i64_id{n:Int}(h:-9223372036854775808<=n/\n<=9223372036854775807):IntKind.i64.wrap n=n:=IntWalk.i64_in _ h
theorem YU{gf:Fr}{ob:Obs}(a b:List Int)(i j:Nat)(ha:a.length<=4096)(hb:b.length<=4096)(m:i<=a.length)(q:j<=b.length)(y:B4 ob 8=some (.box [.p (.list Int 1 rB (flat a b (fun _ _=>true)))]))(w:B4 ob 3=some (.box [.p (.list Int 1 E3 b)])) :
  AL.Met Tryz.prog 263 [.one (.p (.v (.int .i64 i))),.one (.p (.v (.int .i64 j))),.one (.ref 8 0),.one (.ref 3 0)] gf ob [] (fun C ob'=>C=[.one (.p (.v (.int .i64 (dist (a.drop i) (b.drop j):Int))))]/\ob'=ob):=by
 have k:=CV (a:=a) (b:=b) (done:=fun _ _=>true) m q;rw[A5 rfl]at k;have B:=(zO (a:=a) (b:=b) m q).1;have D:=xY a b (fun _ _=>true);have c:(i:Int)*((b.length:Int)+1)=((i*(b.length+1):Nat):Int):=by push_cast;rfl
 have z:i*(b.length+1)<=4096*4097:=Nat.mul_le_mul B1 B1;have g:(a.length+1)*(b.length+1)<=4097*4097:=Nat.mul_le_mul B1 B1;have d:(flat a b (fun _ _=>true))[((i:Int)*((b.length:Int)+1)+j).toNat]?=some (dist (a.drop i) (b.drop j):Int):=by
  rw[c,show (((i*(b.length+1):Nat):Int)+j).toNat=i*(b.length+1)+j by omega];exact k
 have A:=MD (a.drop i) (b.drop j);simp only[C45]at A;refine AL.Met.intro Tryz.func263 G6 Z Z Z (zz 6 ?_);refine A7 (C2 Z y Z) Z (zz 1 ?_);refine A7 (C2 Z w Z) Z (zz 2 ?_);refine A7 (rV Z Z (by (rw[c];omega))) Z ?_;refine zz 1 ?_;refine A7 (y8 Z Z (by (rw[c];omega))) Z ?_;refine A7 (A9 Z (.pure _ _ _ _) Z B1 d) Z (zz 4 ?_);rw[i64_id B1];refine zz 1 ?_;exact F1 (O3 rfl rfl) cQ (fun _ _ h=>h) ⟨rfl,rfl⟩
theorem B32(a b:List Int)(ha:a.length<=4096)(hb:b.length<=4096):FnOk Tryz.prog 196 [L0 a,L0 b] (fun rs=>rs=[pSpans (H5 0 0 a b)]):=by
 obtain⟨n,R⟩:∃n,n=Y5 a b:=⟨_,rfl⟩
 have S:=QZ a b;rw[<-R]at S;have B:=CX a b 0 0;rw[<-R]at B;refine FnOk.intro Tryz.func196 G6 Z Z Z Z (zz 2 ?_);refine B8 (P3 3 Z Z Z) Z (zz 4 ?_);refine B8 (w9 5 _ spanC Z) Z (zz 5 ?_);refine D3 (FR a b B1) (zz 2 ?_);rw[<-R];refine zz 7 ?_;refine C5 (X:=Nat) (fun k=>([(0,C0 Int 1 E3 a),(3,.s (.one (.ref 3 0))),(5,.s (.one (.buf 5 Span 2 spanC (T6 0 0 k)))),(6,B2 n),(15,B2 n),(16,B2 k)],[(3,.box [.p (.list Int 1 E3 b)]),(5,.spare (T6 0 0 k).length 2 155)])) (fun k=>k<=n) (fun k=>n-k) 0 (Nat.zero_le _) (Sees.of lf lo) ?_;intro k hk;dsimp only at hk ⊢;have W:=CD 0 0 k;refine zc 5 (fun w=>?_) fun w=>?_
 ·have ac:k<n:=by have:=A0 w;omega
  have Y:=ME 0 0 k;refine zz 13 ?_;refine A7 (C6 (c:=spanC) (ys:=[⟨(k:Int),(k:Int)⟩]) (D1 Z Z Z Z F2) Z Z Z) Z (zz 7 ?_);refine⟨k+1,by omega,by omega,?_⟩;rw[Y,show (0:Int)+(k:Int)=k by omega];exact Sees.of lf lo
 have Q:k=n:=by have:=A1 w;omega
 subst Q;obtain⟨m,G⟩:∃m,m=a.drop k:=⟨_,rfl⟩
 obtain⟨d,I⟩:∃d,d=b.drop k:=⟨_,rfl⟩
 have H:m.length<=4096:=by rw[G,C45];omega
 have J:d.length<=4096:=by rw[I,C45];omega
 rw[Int.zero_add,<-G,<-I]at B;refine zz 5 ?_;refine D7 (bT Z (.pure _ _ _ _) Z B1 B1) Z Z (zz 2 ?_);refine D7 (bT Z (.pure _ _ _ _) Z B1 B1) Z Z (zz 3 ?_);rw[C31,<-G,<-I];refine zz 4 ?_;refine D3 (FS m d H J) (B8 (E6 8 Z) Z (zz 14 ?_));refine C5 (X:=Nat×Nat×List Span) (fun x=>([(0,C0 Int 1 E3 m),(3,.s (.one (.ref 3 0))),(5,.s (.one (.buf 5 Span 2 spanC x.2.2))),(6,B2 k),(8,.s (.one (.ref 8 0))),(9,.s (.one (.clo 263 [] [(8,0),(3,0)]))),(10,B2 x.1),(11,B2 x.2.1)],[(3,.box [.p (.list Int 1 E3 d)]),(5,.spare x.2.2.length 2 155),(8,.box [.p (.list Int 1 rB (flat m d (fun _ _=>true)))])])) (fun x=>x.1<=m.length/\x.2.1<=d.length/\x.2.2.length<=k+x.1/\H5 0 0 a b=x.2.2++H5 (k+x.1) (k+x.2.1) (m.drop x.1) (d.drop x.2.1)) (fun x=>(m.length-x.1)+(d.length-x.2.1)) (0,0,T6 0 0 k) ⟨Nat.zero_le _,Nat.zero_le _,by rw[W];exact Nat.le_refl _,by simpa using B⟩ (Sees.of lf lo) ?_;rintro⟨i,j,y⟩ ⟨hi,P,U,F⟩;dsimp only at hi P U F ⊢;refine zc 14 (fun w=>?_) fun w=>?_
 ·simp only[or_pick]at w;have K:=A0 w;refine K4 [(0,C0 Int 1 E3 m),(3,.s (.one (.ref 3 0))),(5,.s (.one (.buf 5 Span 2 spanC y))),(6,B2 k),(8,.s (.one (.ref 8 0))),(9,.s (.one (.clo 263 [] [(8,0),(3,0)]))),(10,B2 i),(11,B2 j)] [(3,.box [.p (.list Int 1 E3 d)]),(5,.spare y.length 2 155),(8,.box [.p (.list Int 1 rB (flat m d (fun _ _=>true)))])] (Sees.of lf lo) (zz 12 ?_);refine J5 Z Z (fun C=>by rw[C];exact y9 Z (.pure _ _ _ _)) Z Z ?_;refine J5 Z Z (fun C=>by rw[C];exact iD Z Z) Z Z ?_;refine zz 4 ?_;refine J5 Z Z (fun C=>by have V:=C;(try simp at V);rw[C];exact A9 Z (.pure _ _ _ _) Z B1 (tD B1)) Z Z ?_;refine zz 3 ?_;refine J5 Z Z (fun C=>by have V:=C;(try simp at V);rw[C];exact A9 Z (.pure _ _ _ _) Z B1 (tD B1)) Z Z ?_;refine zz 1 ?_;refine J5 Z Z (fun C=>by rw[C];exact rW Z Z) Z Z ?_;refine zc 3 (fun w=>?_) fun w=>?_
  ·simp only[and_pick]at w;obtain⟨⟨M,z⟩,A⟩:=A0 w;have M:i<m.length:=by omega
   have z:j<d.length:=by omega
   rw[xM m d i j M z,A5 (by simpa[M,z] using A)]at F;refine K4 [(0,C0 Int 1 E3 m),(3,.s (.one (.ref 3 0))),(5,.s (.one (.buf 5 Span 2 spanC y))),(6,B2 k),(8,.s (.one (.ref 8 0))),(9,.s (.one (.clo 263 [] [(8,0),(3,0)]))),(10,B2 i),(11,B2 j)] [(3,.box [.p (.list Int 1 E3 d)]),(5,.spare y.length 2 155),(8,.box [.p (.list Int 1 rB (flat m d (fun _ _=>true)))])] (Sees.of lf lo) (zz 10 ?_);refine A7 (C6 (c:=spanC) (ys:=[⟨(k:Int)+i,(k:Int)+j⟩]) (D1 Z Z Z Z F2) Z Z Z) Z (zz 11 ?_);refine⟨(i+1,j+1,y++[⟨(k:Int)+i,(k:Int)+j⟩]),⟨by dsimp only;omega,by dsimp only;omega,by simp;omega,?_⟩,by dsimp only;omega,Sees.of lf lo⟩;dsimp only;rw[F,C42]
   congr 2
  ·simp only[and_pick]at w;have T:=A1 w;refine K4 [(0,C0 Int 1 E3 m),(3,.s (.one (.ref 3 0))),(5,.s (.one (.buf 5 Span 2 spanC y))),(6,B2 k),(8,.s (.one (.ref 8 0))),(9,.s (.one (.clo 263 [] [(8,0),(3,0)]))),(10,B2 i),(11,B2 j)] [(3,.box [.p (.list Int 1 E3 d)]),(5,.spare y.length 2 155),(8,.box [.p (.list Int 1 rB (flat m d (fun _ _=>true)))])] (Sees.of lf lo) ?_;by_cases M:i<m.length
   ·have D:decide ((i:Int)<(m.length:Int))=true:=A3 B1;have O:=MD (m.drop (i+1)) (d.drop j);simp only[C45]at O;have E:¬j<d.length->dist (m.drop (i+1)) (d.drop j)+1=dist (m.drop i) (d.drop j)/\H5 (k+i) (k+j) (m.drop i) (d.drop j)=H5 (k+i+1) (k+j) (m.drop (i+1)) (d.drop j):=by
     intro ab;rw[show d.drop j=[] from C51 B1,tH,tH,C45,C45,cA,cA];exact⟨by omega,rfl⟩
    have N:j<d.length->H5 (k+i) (k+j) (m.drop i) (d.drop j)=if dist (m.drop (i+1)) (d.drop j)+1=dist (m.drop i) (d.drop j) then H5 (k+i+1) (k+j) (m.drop (i+1)) (d.drop j) else H5 (k+i) (k+j+1) (m.drop i) (d.drop (j+1)):=by
     intro z;rw[xM m d i j M z,A6];intro A;exact T ⟨⟨by omega,by omega⟩,by simpa[M,z] using A⟩
    refine zz 7 ?_;refine j4 Z Z Z D (zz 1 ?_);refine j4 Z Z Z D (zz 1 ?_);refine j4 Z Z Z D (zz 1 ?_);refine j4 Z Z Z D (zz 1 ?_);refine j4 Z Z Z D (eW (YU m d (i+1) j H J B1 P Z Z) Z Z Z Z ?_);rintro _ _ ⟨rfl,rfl⟩;refine j4 Z Z Z D (zz 1 ?_);refine j4 Z Z Z D (zz 1 ?_);refine j4 Z Z Z D (zz 1 ?_);refine j4 Z Z Z D (zz 1 ?_);refine j4 Z Z Z D (eW (YU m d i j H J hi P Z Z) Z Z Z Z ?_);rintro _ _ ⟨rfl,rfl⟩;refine j4 Z Z Z D ?_;refine zc 4 (fun w=>?_) fun w=>?_
    ·simp only[and_pick]at w;obtain⟨_,A⟩:=A0 w;have A:dist (m.drop (i+1)) (d.drop j)+1=dist (m.drop i) (d.drop j):=by omega
     have L:H5 (k+i) (k+j) (m.drop i) (d.drop j)=H5 (k+i+1) (k+j) (m.drop (i+1)) (d.drop j):=by
      by_cases z:j<d.length
      ·rw[N z,A5 A]
      ·exact (E z).2
     rw[L]at F;skip;refine zz 5 ?_;refine⟨(i+1,j,y),⟨by dsimp only;omega,by dsimp only;omega,by dsimp only;omega,?_⟩,by dsimp only;omega,Sees.of lf lo⟩;dsimp only;rw[F,show (k:Int)+(i:Int)+1=(k:Int)+((i+1:Nat):Int) by omega]
    ·simp only[and_pick]at w;have A:=A1 w;have A:¬dist (m.drop (i+1)) (d.drop j)+1=dist (m.drop i) (d.drop j):=fun q=>A ⟨by omega,by omega⟩;have z:j<d.length:=by
      by_cases z:j<d.length
      ·exact z
      ·exact absurd (E z).1 A
     rw[N z,A6 A]at F;skip;refine zz 5 ?_;refine⟨(i,j+1,y),⟨by dsimp only;omega,by dsimp only;omega,by dsimp only;omega,?_⟩,by dsimp only;omega,Sees.of lf lo⟩;dsimp only;rw[F,show (k:Int)+(j:Int)+1=(k:Int)+((j+1:Nat):Int) by omega]
   ·have v:decide ((i:Int)<(m.length:Int))=false:=A4 B1;have z:j<d.length:=by omega
    refine zz 7 ?_;refine c9 Z Z Z (by rw[v];decide) Z ?_;refine c9 Z Z Z (by rw[v];decide) Z ?_;refine c9 Z Z Z (by rw[v];decide) Z ?_;refine c9 Z Z Z (by rw[v];decide) Z ?_;refine c9 Z Z Z (by rw[v];decide) Z ?_;refine c9 Z Z Z (by rw[v];decide) Z ?_;refine c9 Z Z Z (by rw[v];decide) Z ?_;refine c9 Z Z Z (by rw[v];decide) Z ?_;refine c9 Z Z Z (by rw[v];decide) Z ?_;refine c9 Z Z Z (by rw[v];decide) Z ?_;refine c9 Z Z Z (by rw[v];decide) Z ?_;refine A7 (eT Z (v) Z) Z ?_;refine zc 2 (fun w=>?_) fun w=>?_
    ·cases w
    ·skip;refine zz 5 ?_;refine⟨(i,j+1,y),⟨by dsimp only;omega,by dsimp only;omega,by dsimp only;omega,?_⟩,by dsimp only;omega,Sees.of lf lo⟩;dsimp only;rw[F,show m.drop i=[] from C51 B1,x2,x2]
 ·simp only[or_pick]at w;have K:=A1 w;rw[show m.drop i=[] from C51 B1,x2,C60]at F;refine zz 7 ?_;exact A8 (F7 rfl rfl rfl) (by rw[F])
theorem BQ(a b:List Int)(ha:a.length<=4096)(hb:b.length<=4096):FnOk Tryz.prog 130 [L0 a,L0 b] (fun e=>e=[pChanges (Q0 a b),D2 0]):=by
 have d:=Z2 a b 0 0;rw[Int.zero_add,Int.zero_add]at d;have f:=gY 0 0 a b;refine FnOk.intro Tryz.func130 G6 Z Z Z Z (zz 10 ?_);refine D3 (PP a b) ?_;refine zc 2 (fun c=>?_) fun c=>?_
 ·exfalso;have h:decide ((a.length:Int)<=4096/\(b.length:Int)<=4096)=true:=A3 ⟨by omega,by omega⟩;rw[h]at c;cases c
 refine zz 5 ?_;refine D3 (B32 a b ha hb) (zz 4 ?_);refine D3 (FQ (H5 0 0 a b) a.length b.length ⟨by omega,by omega⟩ ⟨by omega,by omega⟩ d B1) (zz 6 ?_);exact A8 (S8 rfl rfl rfl rfl rfl) rfl
theorem tid_old{gf:Fr}{ob:Obs}(c:List Str)(s:Str)(hs:s∈c)(j:B4 ob 710=some (.box [.mut 711,.buf 712 Str 1 L2 c]))(k:B4 ob 711=some (.map Str eX (eI c 0))) :
  AL.Met Tryz.prog 258 [.one (.ref 710 0),.one (.p (.v (.string ⟨s.toArray⟩)))] gf ob [] (fun q ob'=>q=[.one (.p (.v (.int .i64 (J0 c s 0))))]/\ob'=ob):=by
 have l:=IJ s c 0 hs;refine AL.Met.intro Tryz.func258 G6 Z Z Z (zz 9 ?_);refine A7 (C2 Z j Z) Z (zz 1 ?_);refine A7 (AP (s) (r:=some (.v (.int .i64 (J0 c s 0)))) Z k Z lX lY (l)) Z ?_;refine zc 12 (fun d=>?_) fun d=>?_
 ·cases d
 refine zz 7 ?_;exact F1 (O3 rfl rfl) cQ (fun _ _ h=>h) ⟨rfl,rfl⟩
theorem tid_new{gf:Fr}{ob:Obs}(d:List Str)(s:Str)(hs:s∉d)(D:d.length<=1073741823)(q:B4 ob 710=some (.box [.mut 711,.buf 712 Str 1 L2 d]))(y:B4 ob 711=some (.map Str eX (eI d 0)))
  (B:B4 ob 712=some (.spare d.length 1 9)) :
  AL.Met Tryz.prog 258 [.one (.ref 710 0),.one (.p (.v (.string ⟨s.toArray⟩)))] gf ob [712] (fun C ob'=>C=[.one (.p (.v (.int .i64 d.length)))]/\ob'=(710,.box [.mut 711,.buf 712 Str 1 L2 (d++[s])])::(712,.spare (d++[s]).length 1 9)::Obs.forget 712 ((711,.map Str eX (eI d 0++[(s,.v (.int .i64 d.length))]))::ob)):=by
 have z:=CY s d 0 hs;refine AL.Met.intro Tryz.func258 G6 Z Z Z (zz 9 ?_);refine A7 (C2 Z q Z) Z (zz 1 ?_);refine A7 (AP (s) (r:=none) Z y Z lX lY (z)) Z ?_;refine zc 12 (fun A=>?_) fun A=>?_
 ·refine zz 5 ?_;refine A7 (C2 Z q Z) Z (zz 8 ?_);refine A7 (C2 Z q Z) Z (zz 2 ?_);refine O2 (OI (s) Z y Z Z Z lX lY (z)) (zz 1 ?_);have j:B4 ((711,Ob.map Str eX (eI d 0++[(s,.v (.int .i64 d.length))]))::ob) 710=some (.box [.mut 711,.buf 712 Str 1 L2 d]):=by rw[B0 G6];exact q
  have w:B4 ((711,Ob.map Str eX (eI d 0++[(s,.v (.int .i64 d.length))]))::ob) 712=some (.spare d.length 1 9):=by rw[B0 G6];exact B
  have k:B4 ((712,Ob.spare (d++[s]).length 1 9)::Obs.forget 712 ((711,Ob.map Str eX (eI d 0++[(s,.v (.int .i64 d.length))]))::ob)) 710=some (.box [.mut 711,.p (.list Str 1 L2 d)]):=by
   rw[B0 G6,M1,j];rfl
  refine zz 5 ?_;refine A7 (C2 Z j Z) Z (zz 1 ?_);refine A7 (C6 (c:=L2) (ys:=[s]) (D1 Z Z Z Z F2) Z Z Z) Z (B8 (R1 Z w Z (.pure _ _ _ _) b8q Z) Z (zz 2 ?_));refine O2 (H0 TySz.out Z k Z Z Z Z) (zz 7 ?_);exact F1 (O3 rfl rfl) cQ (fun _ _ h=>h) ⟨rfl,rfl⟩
 ·cases A
theorem VJ(files:List (List Str))(i m:Nat):(P5 files i).all (TC.free m)=true:=by
 rw[List.all_eq_true];intro t b;unfold P5 at b;obtain⟨r,_,rfl⟩:=C54.1 b;split<;>rfl
theorem A33{files:List (List Str)}{i:Nat}(b x:TC)(m:Nat):(((P5 files i).set i b).map (TC.forget m)).set i x=(P5 files i).set i x:=by
 have c:(P5 files i).map (TC.forget m)=P5 files i:=by
  unfold P5;rw[C71];apply List.map_congr_left;intro r _;simp only[Function.comp];split<;>rfl
 rw[List.map_set,c,List.set_set]
theorem VK{files:List (List Str)}{i:Nat}(b x:TC)(m d:Nat):((((P5 files i).set i b).map (TC.forget m)).map (TC.forget d)).set i x=(P5 files i).set i x:=by
 have c:∀m,(P5 files i).map (TC.forget m)=P5 files i:=by
  intro m;unfold P5;rw[C71];apply List.map_congr_left;intro r _;simp only[Function.comp];split<;>rfl
 rw[List.map_set,c,List.map_set,c,List.set_set]
theorem HO(files:List (List Str))(hn:files.length<=1048576)(hl:files.flatten.length<=536870911):FnOk Tryz.prog 193 [pStrss files] (fun rs=>rs=[pIntss (files.map (R4 (J1 files))),Z7 (J1 files)]):=by
 refine FnOk.intro Tryz.func193 G6 Z Z Z Z (zz 7 ?_);refine B8 (GS 711 Str eX Z) Z (zz 1 ?_);refine B8 (P3 710 Z Z Z) Z (zz 3 ?_);refine E2 (B95 712 Str 1 L2 9 (kb:=710) (o:=1) Z Z Z) (zz 3 ?_);refine B8 (j5 20 Unit (fun _ _=>.v (.slice none 0 0)) () Z Z B1 B1 (fun _=>by first | exact⟨⟨rfl,rfl⟩,trivial⟩ | exact⟨F0 _ _ _,trivial⟩ | exact⟨F0 _ _ _,⟨rfl,rfl⟩,F0 _ _ _,trivial⟩ | exact⟨⟨rfl,rfl⟩,⟨rfl,rfl⟩,trivial⟩) YR) Z ?_;refine zz 4 ?_;refine E2 (C25 20 Z) ?_;have hz:((List.replicate ((files.length:Nat):Int).toNat ()).map fun x=>TC.p ((fun (_:Unit) (_:Nat)=>Cell.v (.slice none 0 0)) x 0))=P5 files 0:=by
  rw[C31,<-WQ];simp
 have Y:(List.replicate ((files.length:Nat):Int).toNat ()).length=files.length:=by simp
 rw[hz,Y];refine zz 6 ?_;refine C5 (X:=Nat) (fun i=>([(4,.s (.one (.ref 710 0))),(5,.s (.one (.mut 20))),(16,C0 (List Str) 1 strsC files),(17,B2 files.length),(18,B2 i)],[(710,.box [.mut 711,.buf 712 Str 1 L2 (N9 files i 0)]),(711,.map Str eX (eI (N9 files i 0) 0)),(712,.spare (N9 files i 0).length 1 9),(20,.tarr files.length 1 (P5 files i))])) (fun i=>i<=files.length) (fun i=>files.length-i) 0 (Nat.zero_le _) ?_ ?_
 ·rw[show N9 files 0 0=[] from rfl];exact Sees.of lf lo
 intro i hi;dsimp only at hi ⊢;refine zc 5 (fun K=>?_) fun K=>?_
 ·have G:i<files.length:=by have:=A0 K;omega
  obtain⟨f,O⟩:∃f,f=files.getD i []:=⟨_,rfl⟩
  have hv:files[i]?=some f:=by rw[O];simp[G]
  have ab:f.length<=files.flatten.length:=by
   have h1:f∈files:=C53 hv;have:∀(M:List (List Str)),f∈M->f.length<=M.flatten.length:=by
    intro M;induction M with
    | nil=>intro h;simp at h
    | cons x r ih =>
     intro h;simp only[C56,C32];rcases C36.1 h with rfl | h
     ·omega
     ·have:=ih h;omega
   exact this files h1
  have W:(P5 files i).length=files.length:=by simp[P5]
  refine zz 6 ?_;refine A7 (A9 Z (.pure _ _ _ _) Z B1 hv) Z (zz 11 ?_);refine E2 (C16 713 Int 1 E3 3 (kb:=20) (o:=i) Z (A71 G) (by simp[G5,K5,Ob.free,SV.free,S1.free,TC.free,VJ];repeat' (first | rfl | constructor))) ?_;refine C5 (X:=Nat) (fun j=>([(4,.s (.one (.ref 710 0))),(5,.s (.one (.mut 20))),(6,B2 i),(16,C0 (List Str) 1 strsC files),(17,B2 files.length),(18,B2 i),(23,C0 Str 1 L2 f),(24,B2 f.length),(25,B2 j)],[(20,.tarr files.length 1 ((P5 files i).set i (.buf 713 Int 1 E3 (R4 (J1 files) (f.take j))))),(710,.box [.mut 711,.buf 712 Str 1 L2 (N9 files i j)]),(711,.map Str eX (eI (N9 files i j) 0)),(712,.spare (N9 files i j).length 1 9),(713,.spare (R4 (J1 files) (f.take j)).length 1 3)])) (fun j=>j<=f.length) (fun j=>f.length-j) 0 (Nat.zero_le _) ?_ ?_
  ·exact Sees.of lf lo
  intro j hj;dsimp only at hj ⊢;refine zc 5 (fun K=>?_) fun K=>?_
  ·have B:j<f.length:=by have:=A0 K;omega
   obtain⟨s,hs⟩:∃s,s=f[j]:=⟨_,rfl⟩
   have L:f[j]?=some s:=by rw[hs];simp[B]
   have y:=MU files i j s (by rw[<-O];exact L);obtain⟨d,U⟩:∃d,d=N9 files i j:=⟨_,rfl⟩
   have T:=CZ files i j;obtain⟨rest,w⟩:=yA files i (j+1);obtain⟨q,E⟩:∃q,q=R4 (J1 files) (f.take j):=⟨_,rfl⟩
   have ac:q.length=j:=by rw[E];simp[R4];omega
   have F:R4 (J1 files) (f.take (j+1))=q++[J0 (J1 files) s 0]:=by
    rw[E,C48 B,<-hs];unfold R4;rw[C50];rfl
   rw[y]at w;rw[<-U]at y T w ⊢;rw[<-E];have C:((P5 files i).set i (.buf 713 Int 1 E3 q))[((i:Nat):Int).toNat]?=some (.buf 713 Int 1 E3 q):=by
    rw[C31,C90 (by rw[W];omega)]
   have A:(((P5 files i).set i (.buf 713 Int 1 E3 q)).map (TC.forget 712))[((i:Nat):Int).toNat]?=some (.buf 713 Int 1 E3 q):=by
    rw[C63,C];rfl
   refine zz 5 ?_;refine A7 (A9 Z (.pure _ _ _ _) Z B1 L) Z (zz 3 ?_);by_cases z:s∈d
   ·have I:L7 d s=d:=by unfold L7;rw[A5 z]
    rw[I]at y w;have J:J0 (J1 files) s 0=J0 d s 0:=by rw[w];exact mW s rest d 0 z
    refine zz 0 ?_;refine K4 ((9,H6 s)::[(4,.s (.one (.ref 710 0))),(5,.s (.one (.mut 20))),(6,B2 i),(16,C0 (List Str) 1 strsC files),(17,B2 files.length),(18,B2 i),(23,C0 Str 1 L2 f),(24,B2 f.length),(25,B2 j)]) [(20,.tarr files.length 1 ((P5 files i).set i (.buf 713 Int 1 E3 q))),(710,.box [.mut 711,.buf 712 Str 1 L2 d]),(711,.map Str eX (eI d 0)),(712,.spare d.length 1 9),(713,.spare q.length 1 3)] (Sees.of lf lo) (Q9 [12,10,8] [[],[8],[10,8],[12,10,8]] [(8,([],[])),(10,([713],[34])),(12,([],[]))] [(0,[]),(1,[]),(2,[]),(3,[]),(4,[]),(5,[]),(6,[]),(7,[]),(8,[]),(9,[8]),(10,[8]),(11,[10,8]),(12,[10,8])] [(0,[8]),(0,[10,8]),(1,[8]),(1,[10,8]),(2,[8]),(3,[8]),(4,[8]),(5,[8])] F6 F6 (D6 Z Z F6 Z Z (B3 Z Z) (D6 Z Z F6 Z Z (B3 Z Z) (D6 Z Z F6 Z Z (B3 Z Z) (D6 Z Z F6 Z Z (B3 Z Z) (D6 Z Z F6 Z Z (U3 Z Z Z B1 B1) (D6 Z Z F6 Z Z (cN Z Z (by first | exact C | exact A)) ?_)))))));refine D6 Z Z F6 Z Z (B3 Z Z) (D6 Z Z F6 Z Z (B3 Z Z) (Z9 Z Z F6 Z Z (r_met (fun gf=>tid_old d s z Z Z) Z Z) Z (D6 Z Z F6 Z Z (C6 (c:=E3) (ys:=[J0 d s 0]) (D1 Z Z Z Z F2) Z Z Z) (Z9 Z Z F6 Z Z (jJ (fun H D=>R1 (W9 D Z) Z (W9 D Z) (.pure _ _ _ _) b8q Z)) Z (D6 Z Z F6 Z Z (U3 Z Z Z B1 B1) (Z9 Z Z F6 Z Z (sR (fun H D=>lM TySz.out (W9 D Z) Z TQ (W9 D Z) Z)) Z ?_))))));refine sQ F6 rfl ?_ ?_
    ·refine L6 Z Z F6 Z Z (B3 Z Z) (L6 Z Z F6 Z Z (B3 Z Z) (L6 Z Z F6 Z Z (B3 Z Z) (L6 Z Z F6 Z Z (B3 Z Z) (L6 Z Z F6 Z Z (B3 Z Z) (L6 Z Z F6 Z Z (B3 Z Z) (L6 Z Z F6 Z Z (U3 Z Z Z B1 B1) (L6 Z Z F6 Z Z (cN Z Z (by first | exact C | exact A)) ?_)))))));exact pC
    refine K4 [(4,.s (.one (.ref 710 0))),(5,.s (.one (.mut 20))),(6,B2 i),(16,C0 (List Str) 1 strsC files),(17,B2 files.length),(18,B2 i),(23,C0 Str 1 L2 f),(24,B2 f.length),(25,B2 j)] [(20,.tarr files.length 1 ((P5 files i).set i (.buf 713 Int 1 E3 (q++[J0 d s 0])))),(710,.box [.mut 711,.buf 712 Str 1 L2 (d)]),(711,.map Str eX (eI (d) 0)),(712,.spare (d).length 1 9),(713,.spare (q++[J0 d s 0]).length 1 3)] (by rw[C31 i,A33];exact Sees.of lf lo) ?_;refine zz 4 ?_;exact⟨j+1,B,by omega,by rw[y,F,J];exact Sees.of lf lo⟩
   ·refine zz 0 ?_;have I:L7 d s=d++[s]:=by unfold L7;rw[A6 z]
    rw[I]at y w;have S:eI (d++[s]) 0=eI d 0++[(s,.v (.int .i64 (d.length:Int)))]:=by rw[II];simp only[Int.zero_add]
    have J:J0 (J1 files) s 0=d.length:=by
     rw[w,mW s rest (d++[s]) 0 s6,xZ s d 0 z];omega
    refine K4 ((9,H6 s)::[(4,.s (.one (.ref 710 0))),(5,.s (.one (.mut 20))),(6,B2 i),(16,C0 (List Str) 1 strsC files),(17,B2 files.length),(18,B2 i),(23,C0 Str 1 L2 f),(24,B2 f.length),(25,B2 j)]) [(20,.tarr files.length 1 ((P5 files i).set i (.buf 713 Int 1 E3 (q)))),(710,.box [.mut 711,.buf 712 Str 1 L2 (d)]),(711,.map Str eX (eI (d) 0)),(712,.spare (d).length 1 9),(713,.spare (q).length 1 3)] (Sees.of lf lo) (Q9 [12,10,8] [[],[8],[10,8],[12,10,8]] [(8,([712],[])),(10,([713],[34])),(12,([],[]))] [(0,[]),(1,[]),(2,[]),(3,[]),(4,[]),(5,[]),(6,[]),(7,[]),(8,[]),(9,[8]),(10,[8]),(11,[10,8]),(12,[10,8])] [(0,[8]),(0,[10,8]),(1,[8]),(1,[10,8]),(2,[8]),(3,[8]),(4,[8]),(5,[8])] F6 F6 (D6 Z Z F6 Z Z (B3 Z Z) (D6 Z Z F6 Z Z (B3 Z Z) (D6 Z Z F6 Z Z (B3 Z Z) (D6 Z Z F6 Z Z (B3 Z Z) (D6 Z Z F6 Z Z (U3 Z Z Z B1 B1) (D6 Z Z F6 Z Z (cN Z Z (by first | exact C | exact A)) ?_)))))));refine D6 Z Z F6 Z Z (B3 Z Z) (D6 Z Z F6 Z Z (B3 Z Z) (Z9 Z Z F6 Z Z (r_met (fun gf=>tid_new d s z B1 Z Z Z) Z Z) Z (D6 Z Z F6 Z Z (C6 (c:=E3) (ys:=[(d.length:Int)]) (D1 Z Z Z Z F2) Z Z Z) (Z9 Z Z F6 Z Z (jJ (fun H D=>R1 (W9 D Z) Z (W9 D Z) (.pure _ _ _ _) b8q Z)) Z (D6 Z Z F6 Z Z (U3 Z Z Z B1 B1) (Z9 Z Z F6 Z Z (sR (fun H D=>lM TySz.out (W9 D Z) Z TQ (W9 D Z) Z)) Z ?_))))));refine sQ F6 rfl ?_ ?_
    ·refine L6 Z Z F6 Z Z (B3 Z Z) (L6 Z Z F6 Z Z (B3 Z Z) (L6 Z Z F6 Z Z (B3 Z Z) (L6 Z Z F6 Z Z (B3 Z Z) (L6 Z Z F6 Z Z (B3 Z Z) (L6 Z Z F6 Z Z (B3 Z Z) (L6 Z Z F6 Z Z (U3 Z Z Z B1 B1) (L6 Z Z F6 Z Z (cN Z Z (by first | exact C | exact A)) ?_)))))));exact pC
    refine K4 [(4,.s (.one (.ref 710 0))),(5,.s (.one (.mut 20))),(6,B2 i),(16,C0 (List Str) 1 strsC files),(17,B2 files.length),(18,B2 i),(23,C0 Str 1 L2 f),(24,B2 f.length),(25,B2 j)] [(20,.tarr files.length 1 ((P5 files i).set i (.buf 713 Int 1 E3 (q++[(d.length:Int)])))),(710,.box [.mut 711,.buf 712 Str 1 L2 (d++[s])]),(711,.map Str eX (eI (d++[s]) 0)),(712,.spare (d++[s]).length 1 9),(713,.spare (q++[(d.length:Int)]).length 1 3)] (by rw[C31 i,VK,S];exact Sees.of lf lo) ?_;refine zz 4 ?_;exact⟨j+1,B,by omega,by rw[y,F,J];exact Sees.of lf lo⟩
  ·have R:j=f.length:=by have:=A1 K;omega
   subst R;rw[C44];refine zz 1 ?_;refine E2 (Sees.forget 713) ?_;have P:((P5 files i).set i (.buf 713 Int 1 E3 (R4 (J1 files) f))).map (TC.forget 713)=P5 files (i+1):=by rw[O];exact MV files i 713 G
   have V:N9 files (i+1) 0=N9 files i f.length:=by rw[O];exact RA files i
   refine K4 [(4,.s (.one (.ref 710 0))),(5,.s (.one (.mut 20))),(16,C0 (List Str) 1 strsC files),(17,B2 files.length),(18,B2 i)] [(710,.box [.mut 711,.buf 712 Str 1 L2 (N9 files (i+1) 0)]),(711,.map Str eX (eI (N9 files (i+1) 0) 0)),(712,.spare (N9 files (i+1) 0).length 1 9),(20,.tarr files.length 1 (P5 files (i+1)))] (by rw[V,<-P];exact Sees.of lf lo) ?_;refine zz 4 ?_;exact⟨i+1,G,by omega,Sees.of lf lo⟩
 ·have Q:i=files.length:=by have:=A1 K;omega
  rw[Q,RB];refine E2 (C26 20 (c:=intsC) (files.map (R4 (J1 files))) Z s6 (WR files)) (E2 (Sees.freeze (k:=20) Z) (E2 (Sees.forget 712) (zz 12 ?_)));exact A8 (S8 rfl rfl rfl rfl rfl) rfl
theorem LQ(files:List (List Str))(b:files.length<=1048576)(a:files.flatten.length<=536870911):FnOk Tryz.prog 129 [pStrss files] (fun rs=>rs=[pIntss (files.map (R4 (J1 files)))]):=by
 refine FnOk.intro Tryz.func129 G6 Z Z Z Z (zz 7 ?_);refine D3 (HO files b a) (zz 12 ?_);exact A8 (F7 rfl rfl rfl) rfl
theorem BR{α:Type}{l:List α}{x:α}(h:l.getLast?=some x):l=l.dropLast++[x]:=by
 obtain⟨b,a⟩:=List.getLast?_eq_some_iff.1 h;rw[a,List.dropLast_concat]
end Go.Proofs.YtgkjogphmmoakaaGreatDoor
