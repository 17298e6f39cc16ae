
/- Walks of the program's functions. -/
import Derived.Test.YtabbdaafimcjhaaGreatDoorFe
set_option linter.all false
namespace Go.Proofs.YtabbdaafimcjhaaGreatDoor
open Go Go.AL
open Tryz (prog)
set_option maxRecDepth 100000
set_option maxHeartbeats 4000000
structure KOk (K:List Nat):Prop where
 h811:F0 K 811=true
 h810:F0 K 810=false
theorem pG{a b:Nat}(h:a≠b):Nat.beq a b=false:=S4 h
structure ZOk (K:List Nat) (Z ob:Obs):Prop where
 k8:KOk K
 sub:∀k o,B5 Z k=some o->B5 ob k=some o
 key:∀k o,B5 Z k=some o->k≠810/\F0 K k=false
 free:∀k o,B5 Z k=some o->∀j,F0 K j=true->o.free j=true
theorem ZOk.none{K:List Nat}{Z ob:Obs}(h:ZOk K Z ob){k:Nat}(a:k=810\/F0 K k=true):B5 Z k=none:=by
 cases d:B5 Z k with
 | none=>rfl
 | some o =>
  obtain⟨b,c⟩:=h.key k o d;rcases a with a | a
  ·exact absurd a b
  ·rw[c]at a;cases a
theorem ZOk.cons{K:List Nat}{Z ob:Obs}(h:ZOk K Z ob){i:Nat}{x:Ob}(c:i=810\/F0 K i=true):ZOk K Z ((i,x)::ob) where
 k8:=h.k8
 sub:=fun k o b=>by
  have a:i≠k:=fun e=>by
   subst e;rw[h.none c]at b;cases b
  rw[A8 a];exact h.sub k o b
 key:=h.key
 free:=h.free
theorem ZOk.consZ{K:List Nat}{Z ob:Obs}(h:ZOk K Z ob){i:Nat}{x:Ob}(c:B5 Z i=Option.none):ZOk K Z ((i,x)::ob) where
 k8:=h.k8
 sub:=fun k o b=>by
  have a:i≠k:=fun e=>by
   subst e;rw[c]at b;cases b
  rw[A8 a];exact h.sub k o b
 key:=h.key
 free:=h.free
theorem ZOk.self{K:List Nat}{Z ob:Obs}(h:ZOk K Z ob):ZOk K Z Z:=⟨h.k8,fun _ _ h=>h,h.key,h.free⟩
theorem ZOk.own{K:List Nat}{Z ob:Obs}(h:ZOk K Z ob){i:Nat}{x:Ob}(c:i≠810/\F0 K i=false)(d:∀j,F0 K j=true->x.free j=true)(b:B5 ob i=some x):ZOk K ((i,x)::Z) ob where
 k8:=h.k8
 sub:=fun k o a=>by
  by_cases e:i=k
  ·subst e;rw[B3]at a;cases a;exact b
  ·rw[A8 e]at a;exact h.sub k o a
 key:=fun k o a=>by
  by_cases e:i=k
  ·subst e;exact c
  ·rw[A8 e]at a;exact h.key k o a
 free:=fun k o a=>by
  by_cases e:i=k
  ·subst e;rw[B3]at a;cases a;exact d
  ·rw[A8 e]at a;exact h.free k o a
theorem ZOk.less{J K:List Nat}{Z ob:Obs}(h:ZOk K Z ob)(f:KOk J)(d:∀k,F0 J k=true->F0 K k=true):ZOk J Z ob where
 k8:=f
 sub:=h.sub
 key:=fun k o b=>by
  obtain⟨e,c⟩:=h.key k o b;refine⟨e,?_⟩;cases a:F0 J k
  ·rfl
  ·rw[d k a]at c;cases c
 free:=fun k o b j a=>h.free k o b j (d j a)
abbrev PObs(s:Str)(st:PSt)(Z:Obs):Obs:=(810,rP s st.at_ st.depth)::(811,eR st.nodes)::Z
structure PIn (K:List Nat) (s:Str) (st:PSt) (Z ob:Obs):Prop where
 h0:B5 ob 810=some (rP s st.at_ st.depth)
 h1:B5 ob 811=some (eR st.nodes)
 z:ZOk K Z ob
abbrev eT:TypeId:=27
abbrev postP{α:Type}(s:Str)(R:Ps α)(sv:α->List S1)(Z:Obs):List S1->Obs->Prop:=fun a ob'=>∃st' v,R=.ok (st',v)/\a=sv v/\ob'=PObs s st' Z
abbrev panP{α:Type}(R:Ps α)(Z:Obs):Int->Obs->Prop:=fun e ob'=>R=.error e/\ob'=Z
def PX{α:Type}(f:FuncId)(a:List S1)(K:List Nat)(s:Str)(st:PSt)(R:Ps α)(sv:α->List S1):Prop :=
 ∀(gf:Fr) (ob Z:Obs),PIn K s st Z ob->MetX prog eT f a gf ob K (postP s R sv Z) (panP R Z)
structure SOk (s:Str) (st:PSt):Prop where
 len:s.length<=256
 at_:st.at_<=s.length
 nds:st.nodes.length<=st.at_+2
theorem SOk.gr{s:Str}{a b:Nat}{x y:PSt}(h:SOk s x)(g:Gr s a b x y)(hb:b<=a):SOk s y:=⟨h.len,g.len,by have:=h.nds;have:=g.cnt;have:=g.at_;omega⟩
abbrev aE:Int->List S1:=fun n=>[P7 n]
theorem PIn.start{K:List Nat}{s:Str}{st:PSt}{Z:Obs}(h:ZOk K Z Z):PIn K s st Z (PObs s st Z) :=
 ⟨rfl,rfl,(h.cons (i:=811) (.inr h.k8.h811)).cons (i:=810) (.inl rfl)⟩
theorem aF{K:List Nat}{s:Str}{st:PSt}{Z ob:Obs}(b:PIn K s st Z ob){nt:Nat}{fr l gf:Fr}(f:FrLe fr l)(e:High gf)(g:Tail gf fr):Sees prog nt fr ob (l++B4 K gf) (PObs s st Z) :=
 C22 K f e g fun k o a=>by
  by_cases c:810=k
  ·subst c;rw[B3]at a;cases a;exact b.h0
  rw[A8 c]at a;by_cases d:811=k
  ·subst d;rw[B3]at a;cases a;exact b.h1
  rw[A8 d]at a;exact b.z.sub k o a
theorem ks_sub{K:List Nat}:∀k,F0 K k=true->F0 K k=true:=fun _ h=>h
theorem ks_lit{a:List Nat}{s:SV}(h:a.all (fun k=>s.free k)=true):∀k,F0 a k=true->s.free k=true:=fun k b=>C47.1 h k (aP.1 b)
theorem ks_in{a K:List Nat}(h:a.all (F0 K)=true):∀k,F0 a k=true->F0 K k=true:=fun k b=>C47.1 h k (aP.1 b)
theorem aG{K:List Nat}(b:KOk K):∀k,F0 K k=true->(SV.s H1).free k=true:=fun k a=>by
 show (!Nat.beq 810 k)=true;rw[pG (fun e=>by rw[<-e,b.h810]at a;cases a)];rfl
theorem ks_clo{K:List Nat}(b:KOk K){f:Nat}:∀k,F0 K k=true->(SV.s (.one (.clo f [(810,0)] []))).free k=true:=fun k a=>by
 show (!(iU k [(810,0)]||iU k []))=true;have h:810≠k:=fun e=>by rw[<-e,b.h810]at a;cases a
 simp[iU,pG h]
theorem P3{K:List Nat}{s:Str}{st:PSt}{Z b:Obs}(c:PIn K s st Z b):∀k o,B5 (PObs s st Z) k=some o->B5 b k=some o:=fun k o a=>by
 by_cases d:810=k
 ·subst d;rw[B3]at a;cases a;exact c.h0
 rw[A8 d]at a;by_cases e:811=k
 ·subst e;rw[B3]at a;cases a;exact c.h1
 rw[A8 e]at a;exact c.z.sub k o a
theorem ZOk.pin{K:List Nat}{s:Str}{st:PSt}{Z:Obs}(h:ZOk K Z Z):ZOk K Z (PObs s st Z):=(h.cons (i:=811) (.inr h.k8.h811)).cons (i:=810) (.inl rfl)
theorem ZOk.pobs{K:List Nat}{s:Str}{st:PSt}{Z:Obs}(h:ZOk K Z Z):∀k o,B5 Z k=some o->B5 (PObs s st Z) k=some o:=((h.cons (i:=811) (.inr h.k8.h811)).cons (i:=810) (.inl rfl)).sub
theorem MetX.ofMet{α:Type}{f:FuncId}{a:List S1}{gf:Fr}{ob Z:Obs}{K:List Nat}{d:List Nat}{s:Str}{st':PSt}{v:α}{sv:α->List S1}{e:List S1->Obs->Prop}(h:AL.Met prog f a gf ob d e)(j:∀k,F0 d k=true->F0 K k=true)
  (m:∀b ob',e b ob'->b=sv v/\PIn K s st' Z ob'):MetX prog eT f a gf ob K (postP s (.ok (st',v):Ps α) sv Z) (panP (.ok (st',v):Ps α) Z) :=
 AL.Met.toX ((AL.Met.more h j).conv fun b ob' l=>by
  obtain⟨g,i⟩:=m b ob' l
  exact⟨PObs s st' Z,⟨st',v,rfl,g,rfl⟩,P3 i⟩)
theorem RS{s:Str}{st:PSt}{e:Int}(h:fF s st=.error e):s[st.at_]?=none/\e=40:=by
 unfold fF at h;cases a:s[st.at_]? with
 | none=>rw[a]at h;cases h;exact⟨rfl,rfl⟩
 | some c=>rw[a]at h;cases h
theorem NC{K:List Nat}{s:Str}{st:PSt}(g:SOk s st):PX 225 [H1] K s st (fF s st) (fun c=>[m7 c]):=by
 intro gf ob Z e;have k:=e.z.self;have a:=PIn.start (s:=s) (st:=st) k;have f:=g.len;refine MetX.introH Tryz.func225 F1 rfl rfl rfl (fun j=>?_);refine C3 (aF (l:=[(0,.s H1)]) e ⟨i6 rfl,trivial⟩ j J6) ?_;refine I3 ?_;refine O4 (lE s st.at_ st.depth g.at_ B1 A0) A0 A0 A0 (x5 ?_);by_cases h:st.at_<s.length
 ·have d:s[st.at_]?=some (s.getD st.at_ 0):=by rw[C38,C36 h];rfl
  rw[A4 h];refine zc 0 (fun b=>?_) fun b=>?_
  ·cases b
  refine zz 18 ?_;exact J5 V9 J6 (P3 (st:=st.skip 1) ⟨rfl,rfl,a.z.cons (.inl rfl)⟩) ⟨st.skip 1,s.getD st.at_ 0,by unfold fF;rw[d],rfl,rfl⟩
 ·have d:s[st.at_]?=none:=C63 B1;rw[A5 h];refine zc 0 (fun b=>?_) fun b=>?_
  ·skip;refine F5 ?_;refine P9 A0 ?_;exact I1 J6 a.z.sub ⟨by unfold fF;rw[d],rfl⟩
  ·cases b
theorem T0{p:Prop}(h:p:=by repeat (first | exact by assumption | refine ZOk.cons ?_ (.inl rfl) | refine ZOk.cons ?_ (.inr (ZOk.k8 (by assumption)).h811))):p:=h
theorem JQ{K:List Nat}{s:Str}{st:PSt}(i:SOk s st):PX 226 [H1] K s st (kN s G6 st) aE:=by
 intro gf ob Z g;have j:=g.z.self;have h:=i.len;have b:=WY s st.at_ i.at_ B1;refine MetX.introH Tryz.func226 F1 rfl rfl rfl (fun n=>?_);refine C3 (aF (l:=[(0,.s H1)]) g ⟨i6 rfl,trivial⟩ n J6) ?_;refine I2 ?_;cases c:fE (s.drop st.at_) with
 | none =>
  have q:kN s G6 st=.error 40:=by unfold kN G6;rw[c];rfl
  rw[show tM s st.at_=[C8 0,C8 0,E1 false] by unfold tM;rw[c]]at b;refine Z2 ?_;refine D6 (I5 (b) A0 A0) A0 A0 ?_;refine zz 14 ?_;refine D7 rfl rfl rfl rfl (fun c=>by rw[c];exact C9 rfl rfl) ?_;refine D7 rfl rfl rfl rfl (fun c=>by rw[c];exact IM rfl rfl) ?_;refine zc 2 (fun a=>?_) fun a=>?_
  ·skip;refine F5 ?_;refine P9 A0 ?_;exact I1 J6 j.pobs ⟨q,rfl⟩
  ·cases a
 | some p =>
  obtain⟨m,k⟩:=p;have f:G6 s st.at_=some ((m:Int),st.at_+k):=by unfold G6;rw[c];rfl
  rw[show tM s st.at_=[C8 m,C8 ((st.at_+k:Nat):Int),E1 true] by unfold tM;rw[c]]at b;refine Z2 ?_;refine D6 (I5 (b) A0 A0) A0 A0 ?_;refine zc 18 (fun a=>?_) fun a=>?_
  ·have d:(m:Int)>100:=A1 a;skip;refine F5 ?_;refine P9 A0 ?_;exact I1 J6 j.pobs ⟨by unfold kN;rw[f];exact A6 d,rfl⟩
  ·have d:¬(m:Int)>100:=A3 a;refine zz 15 ?_;exact J5 V9 J6 (P3 (K:=K) (st:={ st with at_:=st.at_+k }) ⟨rfl,rfl,T0⟩) ⟨{ st with at_:=st.at_+k },(m:Int),by unfold kN;rw[f];exact A7 d,rfl,rfl⟩
def rR(s:Str)(a:Int)(st:PSt)(b:Int):Ps (Int×Int):=if O1 s 125 st=false\/(0<=b/\b<a) then .error 40 else .ok (st.skip 1,(a,b))
theorem cS(b:Bool){a c:Int}:(if (!b)=true then true else if decide (0<=a)=true then decide (a<c) else false)=decide (b=false\/(0<=a/\a<c)):=by
 cases b<;>by_cases d:0<=a<;>by_cases e:a<c<;>simp[d,e]
theorem A83{c:UInt8}(h:¬c=125):(if true=true then decide (¬(c.toNat:Int)=125) else false)=true:=by
 rw[A6 rfl];exact A4 fun e=>h (C89.1 (by have:(125:UInt8).toNat=125:=rfl;omega))
theorem eU{p:Prop}(h:p:=by repeat (first | exact FreeKs.nil | exact FreeKs.gf ks_sub | exact FreeKs.gf (ks_in rfl) | exact FreeKs.gf (EB (ZOk.k8 (by assumption))) | exact FreeKs.gf (by assumption) | refine FreeKs.cons (fun _ _=>rfl) ?_ | refine FreeKs.cons (aG (ZOk.k8 (by assumption))) ?_ | refine FreeKs.cons (ks_clo (ZOk.k8 (by assumption))) ?_ | refine FreeKs.cons (by assumption) ?_ | refine FreeKs.cons (ks_lit rfl) ?_)):p:=h
theorem A84{K:List Nat}{s:Str}{st:PSt}(J:SOk s st):PX 199 [H1] K s st (Y9 s G6 st) (fun b=>[P7 b.1,P7 b.2]):=by
 intro gf ob Z N;have S:=N.z.self;have P:=J.len;refine MetX.introH Tryz.func199 F1 rfl rfl rfl (fun L=>?_);refine C3 (aF (l:=[(0,.s H1)]) N ⟨i6 rfl,trivial⟩ L J6) ?_;refine R3 ?_;refine N3 (JQ (K:=K) J _ _ Z ⟨rfl,rfl,T0⟩) eU rfl rfl rfl ?_ ?_
 ·(rintro e ob' ⟨F,rfl⟩;exact I1 J6 (fun _ _ h=>h) ⟨by unfold Y9;rw[F],rfl⟩)
 rintro _ _ ⟨st1,d,F,rfl,rfl⟩;refine F5 ?_;obtain⟨g1,T,U⟩:=OM J.at_ F;have H:=J.gr g1 B1
 have v:Y9 s G6 st=if O1 s 44 st1=true then (match s[(st1.skip 1).at_]? with
   | none=>rR s d (st1.skip 1) (-1)
   | some c=>if c=125 then rR s d (st1.skip 1) (-1) else match kN s G6 (st1.skip 1) with
    | .error e=>.error e
    | .ok (p,m)=>rR s d p m) else rR s d st1 d:=by unfold Y9;rw[F];rfl
 refine Z2 ?_;refine O4 (aY s st1.at_ st1.depth 44 H.at_ B1 A0) A0 A0 A0 (G5 ?_);by_cases B:s[st1.at_]?=some 44
 ·rw[A4 B,A6 B];have O:O1 s 44 st1=true:=A4 B;have Q:=L7 (s:=s) (x:=st1) 1 (l5 O);have q:=H.gr Q B1;obtain⟨g,A⟩:∃g,g=st1.skip 1:=⟨_,rfl⟩
  rw[A6 O,<-A]at v;rw[<-A]at q;refine zc 0 (fun j=>?_) fun j=>?_;rotate_left
  ·cases j
  refine C3 (fr':=[(0,.s H1),(2,B6 d),(3,B6 d)]++B4 K gf) (ob':=PObs s g Z) (C04 lf (B0 L) J6 (P3 (K:=K) ⟨by rw[A];rfl,by rw[A];rfl,(S.pin).cons (.inl rfl)⟩)) ?_;refine I3 ?_;refine O4 (lE s g.at_ g.depth q.at_ B1 A0) A0 A0 A0 (zz 14 ?_);by_cases y:g.at_<s.length/\¬s.getD g.at_ 0=125
  ·obtain⟨u,I⟩:=y;have M:s[g.at_]?=some (s.getD g.at_ 0):=by rw[C38,C36 u];rfl
   rw[M]at v;dsimp only at v;rw[A7 I]at v;refine zc 0 (fun j=>?_) fun j=>?_;rotate_left
   ·exfalso;rw[A4 u,A83 I]at j;cases j
   skip;refine C3 (fr':=[(0,.s H1),(2,B6 d)]++B4 K gf) (ob':=PObs s g Z) (C04 lf (B0 L) J6 (P3 (K:=K) ⟨rfl,rfl,T0⟩)) ?_;refine F5 ?_;refine N3 (JQ (K:=K) q _ _ Z ⟨rfl,rfl,T0⟩) eU rfl rfl rfl ?_ ?_
   ·(rintro e ob' ⟨G,rfl⟩;exact I1 J6 (fun _ _ h=>h) ⟨by rw[v,G],rfl⟩)
   rintro _ _ ⟨p,m,G,rfl,rfl⟩;refine F5 ?_;obtain⟨R,m1,V⟩:=OM q.at_ G;have q:=q.gr R B1;have C:Y9 s G6 st=rR s d p m:=by rw[v,G]
   refine P1 ?_;refine O4 (aY s p.at_ p.depth 125 q.at_ B1 A0) A0 A0 A0 (V7 ?_);by_cases f:s[p.at_]?=some 125
   ·rw[A4 f,A6 f];have D:O1 s 125 p=true:=A4 f;refine zc 0 (fun j=>?_) fun j=>?_
    ·have w:0<=m/\m<d:=by
      rw[cS true]at j;rcases A1 j with h | h
      ·cases h
      ·exact h
     skip;refine F5 ?_;refine P9 A0 ?_;exact I1 J6 (ZOk.sub (K:=K) T0) ⟨by rw[C,rR,A6 (.inr w)],rfl⟩
    ·have E:¬(O1 s 125 p=false\/(0<=m/\m<d)):=by
      rw[cS true]at j;rw[D];exact A3 j
     refine Z2 ?_;exact J5 b0z J6 (P3 (K:=K) (st:=p.skip 1) ⟨rfl,rfl,T0⟩) ⟨p.skip 1,(d,m),by rw[C,rR,A7 E],rfl,rfl⟩
   ·rw[A5 f,A7 f];have D:O1 s 125 p=false:=A5 f;refine zc 0 (fun j=>?_) fun j=>?_
    ·skip;refine F5 ?_;refine P9 A0 ?_;exact I1 J6 (ZOk.sub (K:=K) T0) ⟨by rw[C,rR,A6 (.inl D)],rfl⟩
    ·rw[cS false]at j;exact absurd (.inl rfl) (A3 j)
  ·have C:Y9 s G6 st=rR s d g (-1):=by
    rw[v];by_cases u:g.at_<s.length
    ·have M:s[g.at_]?=some (s.getD g.at_ 0):=by rw[C38,C36 u];rfl
     rw[M];exact A6 (C75.1 fun h=>y ⟨u,h⟩)
    ·rw[C63 B1]
   refine zc 0 (fun j=>?_) fun j=>?_
   ·exfalso;by_cases u:g.at_<s.length
    ·have f:s.getD g.at_ 0=125:=C75.1 fun h=>y ⟨u,h⟩;rw[A4 u,f]at j;cases j
    ·rw[A5 u]at j;cases j
   refine I2 ?_;refine O4 (aY s g.at_ g.depth 125 q.at_ B1 A0) A0 A0 A0 (V7 ?_);by_cases f:s[g.at_]?=some 125
   ·rw[A4 f,A6 f];have D:O1 s 125 g=true:=A4 f;refine zc 0 (fun j=>?_) fun j=>?_
    ·have w:0<=(-1:Int)/\(-1:Int)<d:=by
      rw[cS true]at j;rcases A1 j with h | h
      ·cases h
      ·exact h
     skip;refine F5 ?_;refine P9 A0 ?_;exact I1 J6 (ZOk.sub (K:=K) T0) ⟨by rw[C,rR,A6 (.inr w)],rfl⟩
    ·have E:¬(O1 s 125 g=false\/(0<=(-1:Int)/\(-1:Int)<d)):=by
      rw[cS true]at j;rw[D];exact A3 j
     refine Z2 ?_;exact J5 b0z J6 (P3 (K:=K) (st:=g.skip 1) ⟨rfl,rfl,T0⟩) ⟨g.skip 1,(d,(-1:Int)),by rw[C,rR,A7 E],rfl,rfl⟩
   ·rw[A5 f,A7 f];have D:O1 s 125 g=false:=A5 f;refine zc 0 (fun j=>?_) fun j=>?_
    ·skip;refine F5 ?_;refine P9 A0 ?_;exact I1 J6 (ZOk.sub (K:=K) T0) ⟨by rw[C,rR,A6 (.inl D)],rfl⟩
    ·rw[cS false]at j;exact absurd (.inl rfl) (A3 j)
 ·rw[A5 B,A7 B];have C:Y9 s G6 st=rR s d st1 d:=by rw[v,A7 (by unfold O1;rw[A5 B];decide)]
  have q:=H;refine zc 0 (fun j=>?_) fun j=>?_
  ·cases j
  refine I2 ?_;refine O4 (aY s st1.at_ st1.depth 125 q.at_ B1 A0) A0 A0 A0 (V7 ?_);by_cases f:s[st1.at_]?=some 125
  ·rw[A4 f,A6 f];have D:O1 s 125 st1=true:=A4 f;refine zc 0 (fun j=>?_) fun j=>?_
   ·have w:0<=d/\d<d:=by
     rw[cS true]at j;rcases A1 j with h | h
     ·cases h
     ·exact h
    skip;refine F5 ?_;refine P9 A0 ?_;exact I1 J6 (ZOk.sub (K:=K) T0) ⟨by rw[C,rR,A6 (.inr w)],rfl⟩
   ·have E:¬(O1 s 125 st1=false\/(0<=d/\d<d)):=by
     rw[cS true]at j;rw[D];exact A3 j
    refine Z2 ?_;exact J5 b0z J6 (P3 (K:=K) (st:=st1.skip 1) ⟨rfl,rfl,T0⟩) ⟨st1.skip 1,(d,d),by rw[C,rR,A7 E],rfl,rfl⟩
  ·rw[A5 f,A7 f];have D:O1 s 125 st1=false:=A5 f;refine zc 0 (fun j=>?_) fun j=>?_
   ·skip;refine F5 ?_;refine P9 A0 ?_;exact I1 J6 (ZOk.sub (K:=K) T0) ⟨by rw[C,rR,A6 (.inl D)],rfl⟩
   ·rw[cS false]at j;exact absurd (.inl rfl) (A3 j)
theorem b4z{p:Prop}(h:p:=by exact rets3 rfl rfl rfl rfl):p:=h
theorem EA{K:List Nat}{s:Str}{st:PSt}(t:SOk s st):PX 179 [H1] K s st (Y5 s G6 st) (fun b=>match b with
  | none=>[P7 0,P7 0,oA false]
  | some q=>[P7 q.1,P7 q.2,oA true]):=by
 intro gf ob Z A;have D:=A.z.self;have C:=t.len;refine MetX.introH Tryz.func179 F1 rfl rfl rfl (fun y=>?_);refine C3 (aF (l:=[(0,.s H1)]) A ⟨i6 rfl,trivial⟩ y J6) ?_;refine V7 ?_;refine O4 (aY s st.at_ st.depth 42 t.at_ B1 A0) A0 A0 A0 (F5 ?_);by_cases f:s[st.at_]?=some 42
 ·rw[A4 f,A6 f];have m:O1 s 42 st=true:=A4 f;refine zc 0 (fun a=>?_) fun a=>?_;rotate_left
  ·cases a
  refine I3 ?_;exact J5 b4z J6 (P3 (K:=K) (st:=st.skip 1) ⟨rfl,rfl,T0⟩) ⟨st.skip 1,some (0,-1),by rw[Y5,A6 m],rfl,rfl⟩
 rw[A5 f,A7 f];have d:¬O1 s 42 st=true:=fun h=>f (A1 h);refine zc 0 (fun a=>?_) fun a=>?_
 ·cases a
 refine H3 ?_;refine O4 (aY s st.at_ st.depth 43 t.at_ B1 A0) A0 A0 A0 (F5 ?_);by_cases g:s[st.at_]?=some 43
 ·rw[A4 g,A6 g];have m:O1 s 43 st=true:=A4 g;refine zc 0 (fun a=>?_) fun a=>?_;rotate_left
  ·cases a
  refine I3 ?_;exact J5 b4z J6 (P3 (K:=K) (st:=st.skip 1) ⟨rfl,rfl,T0⟩) ⟨st.skip 1,some (1,-1),by rw[Y5,A7 d,A6 m],rfl,rfl⟩
 rw[A5 g,A7 g];have j:¬O1 s 43 st=true:=fun h=>g (A1 h);refine zc 0 (fun a=>?_) fun a=>?_
 ·cases a
 refine H3 ?_;refine O4 (aY s st.at_ st.depth 63 t.at_ B1 A0) A0 A0 A0 (F5 ?_);by_cases i:s[st.at_]?=some 63
 ·rw[A4 i,A6 i];have m:O1 s 63 st=true:=A4 i;refine zc 0 (fun a=>?_) fun a=>?_;rotate_left
  ·cases a
  refine I3 ?_;exact J5 b4z J6 (P3 (K:=K) (st:=st.skip 1) ⟨rfl,rfl,T0⟩) ⟨st.skip 1,some (0,1),by rw[Y5,A7 d,A7 j,A6 m],rfl,rfl⟩
 rw[A5 i,A7 i];have n:¬O1 s 63 st=true:=fun h=>i (A1 h);refine zc 0 (fun a=>?_) fun a=>?_
 ·cases a
 refine H3 ?_;refine O4 (aY s st.at_ st.depth 123 t.at_ B1 A0) A0 A0 A0 (F5 ?_);by_cases c:s[st.at_]?=some 123
 ·rw[A4 c,A6 c];have m:O1 s 123 st=true:=A4 c;have w:=t.gr (L7 (s:=s) (x:=st) 1 (l5 m)) B1
  have B:Y5 s G6 st=match Y9 s G6 (st.skip 1) with
    | .error e=>.error e
    | .ok (st',b)=>.ok (st',some b):=by rw[Y5,A7 d,A7 j,A7 n,A6 m];rfl
  refine zc 0 (fun a=>?_) fun a=>?_;rotate_left
  ·cases a
  refine k2 (C3 (fr':=[(0,.s H1)]++B4 K gf) (ob':=PObs s (st.skip 1) Z) (C04 ⟨i6 rfl,trivial⟩ (B0 y) J6 (P3 (K:=K) (st:=st.skip 1) ⟨rfl,rfl,T0⟩)) ?_);refine F5 ?_;refine N3 (A84 (K:=K) w _ _ Z ⟨rfl,rfl,T0⟩) eU rfl rfl rfl ?_ ?_
  ·(rintro e ob' ⟨v,rfl⟩;exact I1 J6 (fun _ _ h=>h) ⟨by rw[B,v],rfl⟩)
  rintro _ _ ⟨u,b,v,rfl,rfl⟩;refine J0 ?_;refine Z2 ?_;exact J5 b4z J6 (P3 (K:=K) (st:=u) ⟨rfl,rfl,T0⟩) ⟨u,some b,by rw[B,v],rfl,rfl⟩
 rw[A5 c,A7 c];have p:¬O1 s 123 st=true:=fun h=>c (A1 h);refine zc 0 (fun a=>?_) fun a=>?_
 ·cases a
 refine R3 ?_;exact J5 b4z J6 (P3 (K:=K) (st:=st) ⟨rfl,rfl,T0⟩) ⟨st,none,by rw[Y5,A7 d,A7 j,A7 n,A7 p],rfl,rfl⟩
theorem EB{K:List Nat}(h:KOk K):∀k,F0 [811] k=true->F0 K k=true:=fun k a=>by
 have:=aP.1 a;rw[C42.1 this];exact h.h811
theorem ZOk.fgt{K:List Nat}{Z ob:Obs}(h:ZOk K Z ob){j:Nat}(b:F0 K j=true):ZOk K Z (Obs.forget j ob) where
 k8:=h.k8
 sub:=fun k o a=>by
  rw[K3,h.sub k o a];show some (o.forget j)=some o;rw[Ob.forget_free (h.free k o a j b)]
 key:=h.key
 free:=h.free
theorem add_pm{K:List Nat}{s:Str}{st:PSt}(b:AL.Node)(e:st.nodes.length<=1000){gf:Fr}{ob Z:Obs}(a:PIn K s st Z ob) :
  AL.Met prog 153 [H1,(bY b).s1] gf ob K (fun d ob'=>d=[P7 (X8 b st).2]/\ob'=PObs s (X8 b st).1 Z) :=
 (AL.Met.more (vK s st.at_ st.depth st.nodes b e a.h0 a.h1) (EB a.z.k8)).conv fun d ob' f=>by
  obtain⟨rfl,rfl⟩:=f;exact⟨_,⟨rfl,rfl⟩,P3 ⟨rfl,rfl,((a.z.fgt a.z.k8.h811).cons (.inr a.z.k8.h811)).cons (.inl rfl)⟩⟩
theorem ND{K:List Nat}{s:Str}{st:PSt}(z:Set4)(d:st.nodes.length<=1000){gf:Fr}{ob Z:Obs}(a:PIn K s st Z ob) :
  AL.Met prog 223 [H1,(S9 z).s1] gf ob K (fun b ob'=>b=[P7 (iL z st).2]/\ob'=PObs s (iL z st).1 Z) :=
 (AL.Met.more (B56 s st.at_ st.depth st.nodes z d a.h0 a.h1) (EB a.z.k8)).conv fun b ob' e=>by
  obtain⟨rfl,rfl⟩:=e;exact⟨_,⟨rfl,rfl⟩,P3 ⟨rfl,rfl,((a.z.fgt a.z.k8.h811).cons (.inr a.z.k8.h811)).cons (.inl rfl)⟩⟩
theorem EC{K:List Nat}{s:Str}{st:PSt}(a:Int)(kids:List Int)(g:kids.length<=100000)(j:st.nodes.length<=1000){gf:Fr}{ob Z:Obs}(b:PIn K s st Z ob) :
  AL.Met prog 106 [H1,P7 a,.one (.p (.list Int 1 C7 kids))] gf ob K (fun f ob'=>f=[P7 (y7 a kids st).2]/\ob'=PObs s (y7 a kids st).1 Z):=by
 match kids,g with
 | [],_ =>
  exact (AL.Met.more (WW s st.at_ st.depth st.nodes a j b.h0 b.h1) (EB b.z.k8)).conv fun f ob' d=>by
   obtain⟨rfl,rfl⟩:=d;exact⟨_,⟨rfl,rfl⟩,P3 ⟨rfl,rfl,((b.z.fgt b.z.k8.h811).cons (.inr b.z.k8.h811)).cons (.inl rfl)⟩⟩
 | [k],_ =>
  exact (AL.Met.more (WF a k) (fun _ h=>by cases h)).conv fun f ob' d=>by
   obtain⟨rfl,rfl⟩:=d;exact⟨_,⟨rfl,rfl⟩,P3 b⟩
 | k::l::r,g =>
  exact (AL.Met.more (WE s st.at_ st.depth st.nodes a (k::l::r) dV j b.h0 b.h1) (EB b.z.k8)).conv fun f ob' d=>by
   obtain⟨rfl,rfl⟩:=d;exact⟨_,⟨rfl,rfl⟩,P3 ⟨rfl,rfl,((b.z.fgt b.z.k8.h811).cons (.inr b.z.k8.h811)).cons (.inl rfl)⟩⟩
theorem A85{K:List Nat}{s:Str}{st:PSt}(g:SOk s st):PX 198 [H1] K s st (T7 s st) aE:=by
 intro gf ob Z i;have p:=i.z.self;have j:=g.len;refine MetX.introH Tryz.func198 F1 rfl rfl rfl (fun k=>?_);refine C3 (aF (l:=[(0,.s H1)]) i ⟨i6 rfl,trivial⟩ k J6) ?_;refine Z2 ?_;refine N3 (NC (K:=K) g _ _ Z ⟨rfl,rfl,T0⟩) eU rfl rfl rfl ?_ ?_
 ·(rintro e ob' ⟨f,rfl⟩;exact I1 J6 (fun _ _ h=>h) ⟨by unfold T7;rw[f],rfl⟩)
 rintro _ _ ⟨b,c,f,rfl,rfl⟩;refine E2 (vP set0 q8 c) (gX (ND (K:=K) (s:=s) (st:=b) (Z:=Z) (set0.with_ c.toNat) (by have m:=(g.gr (rJ f) B1).nds;have o:=(g.gr (rJ f) B1).at_;omega) ⟨rfl,rfl,T0⟩) eU A0 A0 A0 ?_);rintro _ _ ⟨rfl,rfl⟩;refine F5 ?_;refine G5 ?_;exact J5 V9 J6 (fun _ _ h=>h) ⟨(iL (set0.with_ c.toNat) b).1,(iL (set0.with_ c.toNat) b).2,by unfold T7;rw[f],rfl,rfl⟩
theorem jJ{x:Int}(h:0<=x/\x<18446744073709551616):IntKind.u64.wrap ((BitVec.ofInt IntKind.u64.bits IntKind.u64.max ^^^ BitVec.ofInt IntKind.u64.bits x).toNat:Int)=18446744073709551615-x:=by
 have b:BitVec.ofInt 64 IntKind.u64.max=BitVec.allOnes 64:=by decide
 have c:(BitVec.ofInt 64 x).toNat=x.toNat:=by
  rw[BitVec.toNat_ofInt];simp;omega
 show IntKind.u64.wrap (((BitVec.ofInt 64 IntKind.u64.max ^^^ BitVec.ofInt 64 x:BitVec 64).toNat:Nat):Int)=_;rw[b,BitVec.allOnes_xor,BitVec.toNat_not,c];simp only[IntKind.wrap,IntKind.signed,IntKind.bits];simp;omega
theorem Q1(z:Set4)(k:O0 z)(a b:Nat)(x y:Int)(g:x=a)(j:y=b)(f:a<=b)(hb:b<256):FnOk prog 239 [S9 z,.one (.v (.int .u8 x)),.one (.v (.int .u8 y))] (fun rs=>rs=[S9 (z.through a b)]):=by
 have c:(UInt8.ofNat a).toNat=a:=by rw[UInt8.toNat_ofNat'];omega
 have d:(UInt8.ofNat b).toNat=b:=by rw[UInt8.toNat_ofNat'];omega
 have h:=DZ z k (UInt8.ofNat a) (UInt8.ofNat b) B1;rw[c,d]at h;subst g j;have e:pByte (UInt8.ofNat a)=.one (.v (.int .u8 (a:Int)))/\pByte (UInt8.ofNat b)=.one (.v (.int .u8 (b:Int))):=by
  constructor
  ·show PV.one (.v (.int .u8 ((UInt8.ofNat a).toNat:Int)))=_;rw[c]
  ·show PV.one (.v (.int .u8 ((UInt8.ofNat b).toNat:Int)))=_;rw[d]
 rw[e.1,e.2]at h;exact h
attribute [local irreducible] AL.Set4.through AL.Set4.with_
abbrev ED(a b c d:Int):Ob:=.box [.p (.v (.int .u64 a)),.p (.v (.int .u64 b)),.p (.v (.int .u64 c)),.p (.v (.int .u64 d))]
def complT(z:Set4):Nat->Ob
 | 0=>ED z.a z.b z.c z.d
 | 1=>ED z.compl.a z.b z.c z.d
 | 2=>ED z.compl.a z.compl.b z.c z.d
 | 3=>ED z.compl.a z.compl.b z.compl.c z.d
 | _=>ED z.compl.a z.compl.b z.compl.c z.compl.d
theorem sL(z:Set4)(g:O0 z):FnOk prog 222 [S9 z] (fun rs=>rs=[S9 z.compl]):=by
 obtain⟨j,k,z3,z4⟩:=g;refine FnOk.intro Tryz.func222 F1 A0 A0 A0 A0 (F5 ?_);refine C2 (w9 1 A0 A0 A0) A0 (C2 (H9 2 A0) A0 (I3 ?_));refine B9 (X:=Nat) (fun i=>([(1,.s (.one (.ref 1 0))),(2,.s (.one (.ref 2 0))),(4,B6 i)],[(1,complT z i),(2,ED 0 0 0 0)])) (fun i=>i<=4) (fun i=>4-i) 0 (C41 _) (C1) ?_;intro i c;dsimp only at c ⊢;refine zc 5 (fun a=>?_) fun a=>?_
 ·have d:i<4:=by have:=A1 a;omega
  rcases (show i=0\/i=1\/i=2\/i=3 by omega) with h | h | h | h<;>subst h
  ·refine zz 17 ?_;rw[jJ j];refine P1 ?_;exact⟨1,by omega,by omega,C1⟩
  ·refine zz 17 ?_;rw[jJ k];refine P1 ?_;exact⟨2,by omega,by omega,C1⟩
  ·refine zz 17 ?_;rw[jJ z3];refine P1 ?_;exact⟨3,by omega,by omega,C1⟩
  ·refine zz 17 ?_;rw[jJ z4];refine P1 ?_;exact⟨4,by omega,by omega,C1⟩
 ·have b:i=4:=by have:=A3 a;omega
  subst b;refine I3 ?_;exact A9 (rs:=[S9 z.compl]) b3y rfl
theorem B66(z t:Set4)(b:O0 z)(name:Str)(h:j8 z name=some t):FnOk prog 238 [S9 z,F6 name] (fun rs=>rs=[S9 t]):=by
 unfold j8 at h;refine FnOk.intro Tryz.func238 F1 A0 A0 A0 A0 (F5 ?_);refine C2 (w9 2 A0 A0 A0) A0 (C2 (H9 4 A0) A0 ?_);refine zc 12 (fun e=>?_) fun e=>?_
 ·have c:name=[97,108,112,104,97]:=A1 aT;rw[A6 c]at h;cases h;refine H3 ?_;refine E2 (Q1 (z) (b) 97 122 97 122 A0 A0 F1 F1) (E2 (Q1 ((z).through 97 122) (M9 (b) 97 122) 65 90 65 90 A0 A0 F1 F1) (H3 ?_));exact A9 (rs:=[S9 (((z).through 97 122).through 65 90)]) b3y rfl
 have a:¬name=[97,108,112,104,97]:=A3 aT;refine zc 5 (fun e=>?_) fun e=>?_
 ·have c:name=[100,105,103,105,116]:=A1 aT;rw[A7 a,A6 c]at h;cases h;refine H3 ?_;refine E2 (Q1 (z) (b) 48 57 48 57 A0 A0 F1 F1) (H3 ?_);exact A9 (rs:=[S9 ((z).through 48 57)]) b3y rfl
 have d:¬name=[100,105,103,105,116]:=A3 aT;refine zc 5 (fun e=>?_) fun e=>?_
 ·have c:name=[97,108,110,117,109]:=A1 aT;rw[A7 a,A7 d,A6 c]at h;cases h;refine H3 ?_;refine E2 (Q1 (z) (b) 97 122 97 122 A0 A0 F1 F1) (E2 (Q1 ((z).through 97 122) (M9 (b) 97 122) 65 90 65 90 A0 A0 F1 F1) (E2 (Q1 (((z).through 97 122).through 65 90) (M9 (M9 (b) 97 122) 65 90) 48 57 48 57 A0 A0 F1 F1) (H3 ?_)));exact A9 (rs:=[S9 ((((z).through 97 122).through 65 90).through 48 57)]) b3y rfl
 have f:¬name=[97,108,110,117,109]:=A3 aT;refine zc 5 (fun e=>?_) fun e=>?_
 ·have c:name=[117,112,112,101,114]:=A1 aT;rw[A7 a,A7 d,A7 f,A6 c]at h;cases h;refine H3 ?_;refine E2 (Q1 (z) (b) 65 90 65 90 A0 A0 F1 F1) (H3 ?_);exact A9 (rs:=[S9 ((z).through 65 90)]) b3y rfl
 have j:¬name=[117,112,112,101,114]:=A3 aT;refine zc 5 (fun e=>?_) fun e=>?_
 ·have c:name=[108,111,119,101,114]:=A1 aT;rw[A7 a,A7 d,A7 f,A7 j,A6 c]at h;cases h;refine H3 ?_;refine E2 (Q1 (z) (b) 97 122 97 122 A0 A0 F1 F1) (H3 ?_);exact A9 (rs:=[S9 ((z).through 97 122)]) b3y rfl
 have k:¬name=[108,111,119,101,114]:=A3 aT;refine zc 5 (fun e=>?_) fun e=>?_
 ·have c:name=[115,112,97,99,101]:=A1 aT;rw[A7 a,A7 d,A7 f,A7 j,A7 k,A6 c]at h;cases h;refine H3 ?_;refine E2 (Q1 (z) (b) 9 13 9 13 A0 A0 F1 F1) (E2 (vP ((z).through 9 13) (M9 (b) 9 13) 32) (H3 ?_));exact A9 (rs:=[S9 (((z).through 9 13).with_ 32)]) b3y rfl
 have l:¬name=[115,112,97,99,101]:=A3 aT;refine zc 5 (fun e=>?_) fun e=>?_
 ·have c:name=[112,117,110,99,116]:=A1 aT;rw[A7 a,A7 d,A7 f,A7 j,A7 k,A7 l,A6 c]at h;cases h;refine H3 ?_;refine E2 (Q1 (z) (b) 33 47 33 47 A0 A0 F1 F1) (E2 (Q1 ((z).through 33 47) (M9 (b) 33 47) 58 64 58 64 A0 A0 F1 F1) (E2 (Q1 (((z).through 33 47).through 58 64) (M9 (M9 (b) 33 47) 58 64) 91 96 91 96 A0 A0 F1 F1) (E2 (Q1 ((((z).through 33 47).through 58 64).through 91 96) (M9 (M9 (M9 (b) 33 47) 58 64) 91 96) 123 126 123 126 A0 A0 F1 F1) (H3 ?_))));exact A9 (rs:=[S9 (((((z).through 33 47).through 58 64).through 91 96).through 123 126)]) b3y rfl
 have m:¬name=[112,117,110,99,116]:=A3 aT;refine G5 ?_;rw[A7 a,A7 d,A7 f,A7 j,A7 k,A7 l,A7 m]at h;cases h
theorem A86{K:List Nat}(a:F0 K 872=true){s:Str}{st:PSt}(z:Set4)(name:Str)(h:j8 z name=none):PX 238 [(S9 z).s1,(F6 name).s1] K s st (.error 40:Ps Int) aE:=by
 intro gf ob Z A;have B:=A.z.self;have q:B5 (PObs s st Z) 872=none:=B.none (.inr a);unfold j8 at h;refine MetX.introH Tryz.func238 F1 rfl rfl rfl (fun y=>?_);refine C3 (aF (l:=[(0,.s (S9 z).s1),(1,.s (F6 name).s1)]) A lf y J6) ?_;refine H3 ?_;refine C2 (fY 872 q F1) A0 (H3 ?_);refine C3 (fr':=[(1,.s (F6 name).s1)]++B4 K gf) (ob':=Z) (C04 ⟨i6 rfl,trivial⟩ (B0 y) (by repeat (first | exact Z6 | refine Z7 rfl ?_ | refine qL _ a ?_)) ((((B.pin (s:=s) (st:=st)).fgt a).cons (i:=872) (.inr a)).sub)) ?_;refine zc 9 (fun k=>?_) fun k=>?_
 ·have d:name=[97,108,112,104,97]:=A1 aT;rw[A6 d]at h;cases h
 have j:¬name=[97,108,112,104,97]:=A3 aT;refine zc 5 (fun k=>?_) fun k=>?_
 ·have d:name=[100,105,103,105,116]:=A1 aT;rw[A7 j,A6 d]at h;cases h
 have m:¬name=[100,105,103,105,116]:=A3 aT;refine zc 5 (fun k=>?_) fun k=>?_
 ·have d:name=[97,108,110,117,109]:=A1 aT;rw[A7 j,A7 m,A6 d]at h;cases h
 have p:¬name=[97,108,110,117,109]:=A3 aT;refine zc 5 (fun k=>?_) fun k=>?_
 ·have d:name=[117,112,112,101,114]:=A1 aT;rw[A7 j,A7 m,A7 p,A6 d]at h;cases h
 have v:¬name=[117,112,112,101,114]:=A3 aT;refine zc 5 (fun k=>?_) fun k=>?_
 ·have d:name=[108,111,119,101,114]:=A1 aT;rw[A7 j,A7 m,A7 p,A7 v,A6 d]at h;cases h
 have w:¬name=[108,111,119,101,114]:=A3 aT;refine zc 5 (fun k=>?_) fun k=>?_
 ·have d:name=[115,112,97,99,101]:=A1 aT;rw[A7 j,A7 m,A7 p,A7 v,A7 w,A6 d]at h;cases h
 have x:¬name=[115,112,97,99,101]:=A3 aT;refine zc 5 (fun k=>?_) fun k=>?_
 ·have d:name=[112,117,110,99,116]:=A1 aT;rw[A7 j,A7 m,A7 p,A7 v,A7 w,A7 x,A6 d]at h;cases h
 have C:¬name=[112,117,110,99,116]:=A3 aT;refine H3 ?_;refine P9 A0 ?_;exact I1 J6 (fun _ _ h=>h) ⟨rfl,rfl⟩
theorem any_px{K:List Nat}{s:Str}{st:PSt}(b:SOk s st):PX 196 [H1] K s st (.ok (BC st):Ps Int) aE:=by
 intro gf ob Z c;have i:=c.z.self;have d:=b.len;have f:=b.at_;have g:=b.nds;have a:=sL set0 q8;refine MetX.introH Tryz.func196 F1 rfl rfl rfl (fun e=>?_);refine C3 (aF (l:=[(0,.s H1)]) c ⟨i6 rfl,trivial⟩ e J6) ?_;refine zz 19 ?_;refine E2 (a) (gX (ND (K:=K) (s:=s) (st:=st.skip 1) (Z:=Z) set0.compl (by show st.nodes.length<=1000;omega) ⟨rfl,rfl,T0⟩) eU A0 A0 A0 ?_);rintro _ _ ⟨rfl,rfl⟩;refine F5 ?_;refine G5 ?_;exact J5 V9 J6 (fun _ _ h=>h) ⟨(BC st).1,(BC st).2,rfl,rfl,rfl⟩
theorem A87{K:List Nat}{s:Str}{st:PSt}(m:SOk s st)(i:st.at_+1<=s.length):PX 197 [H1] K s st (eC s st) aE:=by
 intro gf ob Z j;have r:=j.z.self;have k:=m.len;have b:=m.gr (L7 (s:=s) (x:=st) 1 i) B1;refine MetX.introH Tryz.func197 F1 rfl rfl rfl (fun o=>?_);refine C3 (aF (l:=[(0,.s H1)]) j ⟨i6 rfl,trivial⟩ o J6) ?_;refine zz 20 ?_;refine N3 (NC (K:=K) b _ _ Z ⟨rfl,rfl,T0⟩) eU rfl rfl rfl ?_ ?_
 ·(rintro e ob' ⟨g,rfl⟩;exact I1 J6 (fun _ _ h=>h) ⟨by unfold eC T7;rw[g],rfl⟩)
 rintro _ _ ⟨f,c,g,rfl,rfl⟩;refine E2 (vP set0 q8 c) (gX (ND (K:=K) (s:=s) (st:=f) (Z:=Z) (set0.with_ c.toNat) (by have p:=(b.gr (rJ g) B1).nds;have q:=(b.gr (rJ g) B1).at_;omega) ⟨rfl,rfl,T0⟩) eU A0 A0 A0 ?_);rintro _ _ ⟨rfl,rfl⟩;refine F5 ?_;refine G5 ?_;exact J5 V9 J6 (fun _ _ h=>h) ⟨(iL (set0.with_ c.toNat) f).1,(iL (set0.with_ c.toNat) f).2,by unfold eC T7;rw[g],rfl,rfl⟩
theorem EE(s:Str)(m:s.length<=1000):FnOk prog 245 [F6 s,F6 [58,93]] (fun rs=>rs=if Lib.index s [58,93]<0 then [F6 s,F6 [],E1 false] else [F6 (s.take (Lib.index s [58,93]).toNat),F6 (s.drop ((Lib.index s [58,93]).toNat+2)),E1 true]):=by
 have d:=NB s [58,93] B1;have f:=fun h=>Lib.index_room s [58,93] h;obtain⟨i,k⟩:∃i,i=Lib.index s [58,93]:=⟨_,rfl⟩
 rw[<-k]at d f ⊢;refine FnOk.intro Tryz.func245 F1 A0 A0 A0 A0 (V7 ?_);refine E2 (d) ?_;refine zc 7 (fun b=>?_) fun b=>?_
 ·have c:i>=0:=A1 b;have j:=f c;rw[show (([58,93]:Str).length:Int)=2 from rfl]at j;have e:(i+((([58,93]:Str).length:Nat):Int)).toNat=i.toNat+2:=by rw[show ((([58,93]:Str).length:Nat):Int)=2 from rfl];omega
  refine P1 ?_;refine D6 (BE A0 A0 B1 B1) A0 A0 (P1 ?_);refine D6 (Z3 A0 A0 PF) A0 A0 (D6 (mC A0 A0 PF PF) A0 A0 (I2 ?_));refine A9 b0y ?_;rw[A7 B1,e]
 ·have c:¬i>=0:=A3 b;refine Z2 ?_;exact A9 (rs:=[F6 s,F6 [],E1 false]) b0y (by rw[A6 B1])
theorem cut_no(s:Str)(b:s.length<=1000)(h:Lib.index s [58,93]<0):FnOk prog 237 [F6 s,F6 [58,93]] (fun rs=>rs=[F6 s,F6 [],E1 false]):=by
 have a:=EE s b;rw[A6 h]at a;refine FnOk.intro Tryz.func237 F1 A0 A0 A0 A0 (O6 ?_);refine E2 (a) (R3 ?_);exact A9 (rs:=[F6 s,F6 [],E1 false]) b0y rfl
theorem cut_yes(s:Str)(c:s.length<=1000)(h:¬Lib.index s [58,93]<0):FnOk prog 237 [F6 s,F6 [58,93]] (fun rs=>rs=[F6 (s.take (Lib.index s [58,93]).toNat),F6 (s.drop ((Lib.index s [58,93]).toNat+2)),E1 true]):=by
 have b:=EE s c;rw[A7 h]at b;refine FnOk.intro Tryz.func237 F1 A0 A0 A0 A0 (O6 ?_);refine E2 (b) (R3 ?_);exact A9 (rs:=[F6 (s.take (Lib.index s [58,93]).toNat),F6 (s.drop ((Lib.index s [58,93]).toNat+2)),E1 true]) b0y rfl
abbrev setE(t:Set4):S1:=.one (.eref Unit 4 (fun _ j=>[Cell.v (.int .u64 t.a),Cell.v (.int .u64 t.b),Cell.v (.int .u64 t.c),Cell.v (.int .u64 t.d)].getD j (.v undef)) () 0)
theorem XB(s:Str):WZ s [91,58]=if bD 91 58 s=true then [F6 (s.drop 2),E1 true] else [F6 s,E1 false]:=by
 have e:(s.take ([91,58]:Str).length=[91,58])↔bD 91 58 s=true:=by
  unfold bD;rw[decide_eq_true_eq]
  match s with
  | []=>simp
  | [a]=>simp
  | a::b::r=>simp
 unfold WZ;by_cases h:bD 91 58 s=true
 ·rw[A6 (e.2 h),A6 h];rfl
 ·rw[A7 (fun g=>h (e.1 g)),A7 h]
theorem zP{p:Prop}(h:p:=by repeat (first | exact Z6 | refine Z7 rfl ?_ | refine qL _ (by assumption) ?_)):p:=h
theorem b3z{p:Prop}(h:p:=by (show (_:Int)<=_;first | omega | (dsimp only[PSt.skip];omega))):p:=h
theorem BJ{K:List Nat}(m:F0 K 870=true)(X:F0 K 872=true){s:Str}{st:PSt}(t:Set4)(R:O0 t)(hs:SOk s st):PX 221 [H1,(S9 t).s1] K s st (n6 s t st) (fun W=>[(S9 W).s1]):=by
 intro gf ob Z hI;have G:=hI.z.self;have al:=hs.len;have an:=hs.at_;have O:B5 (PObs s st Z) 870=none:=G.none (.inr m);obtain⟨rest,p⟩:∃rest,rest=s.drop st.at_:=⟨_,rfl⟩
 have au:rest.length=s.length-st.at_:=by rw[p,C61]
 have y:=NA (s.drop ((st.at_:Nat):Int).toNat) [91,58];rw[C37,<-p,XB]at y
 have d:n6 s t st=if bD 91 58 rest=true then (if Lib.index (rest.drop 2) [58,93]<0 then .error 40 else match j8 t ((rest.drop 2).take (Lib.index (rest.drop 2) [58,93]).toNat) with
   | none=>.error 40
   | some W=>.ok (st.skip (4+(Lib.index (rest.drop 2) [58,93]).toNat),W)) else match s[st.at_]? with
   | none=>.error 40
   | some c=>if (s.drop (st.at_+1)).length<2\/(s.drop (st.at_+1))[0]?≠some 45\/(s.drop (st.at_+1))[1]?=some 93 then .ok (st.skip 1,t.with_ c.toNat)
    else if ((s.drop (st.at_+1)).getD 1 0).toNat<c.toNat then .error 40
    else .ok (st.skip 3,t.through c.toNat ((s.drop (st.at_+1)).getD 1 0).toNat):=by unfold n6;rw[<-p];rfl
 refine MetX.introH Tryz.func221 F1 rfl rfl rfl (fun hH=>?_);refine C3 (aF (l:=[(0,.s H1),(1,.s (S9 t).s1)]) hI lf hH J6) ?_;refine H3 ?_;refine C2 (fY 870 O F1) A0 (H3 ?_)
 refine C3 (fr':=[(0,.s H1),(3,.s (setE t)),(4,.s (.one (.ref 870 0)))]++B4 K gf) (ob':=(870,ED 0 0 0 0)::PObs s st Z) (C04 lf (B0 hH) zP (D3 (L:=[(870,_),(810,_),(811,_)]) ⟨rfl,rfl,rfl,trivial⟩ (fun j x hj T=>by
  have h1:=G.key j x T;rw[A8 (fun e=>by rw[<-e,m]at h1;cases h1.2)]
  exact (G.pin.fgt m).sub j x T))) ?_
 by_cases Q:bD 91 58 rest=true
 ·rw[A6 Q]at y d;obtain⟨r,V⟩:∃r,r=rest.drop 2:=⟨_,rfl⟩
  have ad:r.length=rest.length-2:=by rw[V,C61]
  rw[<-V]at y d;have C:FnOk prog 236 [F6 (s.drop ((st.at_:Nat):Int).toNat),F6 [91,58]] (fun rs=>rs=[F6 r,E1 true]):=by rw[C37,<-p];exact y
  have ao:2<=rest.length:=by
   have:=(C44.1 (A1 Q).2).1;omega
  refine Z2 ?_;refine D6 (mC A0 A0 B1 B1) A0 A0 (D6 (I5 (C) A0 A0) A0 A0 ?_);refine zc 10 (fun q=>?_) fun q=>?_;rotate_left
  ·cases q
  refine k2 ?_;by_cases T:Lib.index r [58,93]<0
  ·rw[A6 T]at d;refine F5 ?_;refine E2 (cut_no r B1 T) ?_;refine zc 14 (fun q=>?_) fun q=>?_
   ·skip;refine F5 ?_;refine P9 A0 ?_;exact I1 J6 (ZOk.sub (K:=K) ((G.pin).cons (.inr m))) ⟨d,rfl⟩
   ·cases q
  ·rw[A7 T]at d;have P:=Lib.index_room r [58,93] B1;rw[show (([58,93]:Str).length:Int)=2 from rfl]at P;obtain⟨k,hk⟩:∃k:Nat,k=(Lib.index r [58,93]).toNat:=⟨_,rfl⟩
   have ab:=cut_yes r B1 T;rw[<-hk]at d ab;have ar:(r.take k).length=k:=by rw[C59];omega
   refine F5 ?_;refine E2 (ab) ?_;refine zc 14 (fun q=>?_) fun q=>?_
   ·cases q
   refine zz 16 ?_;rw[show ((st.at_:Int)+(2+((r.take k).length:Int)+2))=((st.at_+(4+k):Nat):Int) by omega];refine G5 ?_;have af:ZOk K Z ((870,ED 0 0 0 0)::PObs s st Z):=G.pin.cons (.inr m);cases J:j8 t (r.take k) with
   | none =>
    rw[J]at d;refine C3 (fr':=[(3,.s (setE t)),(7,P6 (r.take k))]++B4 K gf) (ob':=PObs s (st.skip (4+k)) Z) (C04 lf (B0 hH) J6 (P3 (K:=K) ⟨rfl,rfl,af.cons (.inl rfl)⟩)) ?_;refine H3 ?_;refine N3 (A86 (K:=K) X t (r.take k) J _ _ Z ⟨rfl,rfl,T0⟩) eU rfl rfl rfl ?_ ?_
    ·(rintro e ob' ⟨A,rfl⟩;cases A;exact I1 J6 (fun _ _ h=>h) ⟨d,rfl⟩)
    rintro _ _ ⟨_,_,A,_,_⟩;cases A
   | some W =>
    rw[J]at d;refine H3 ?_;refine E2 (B66 t W R (r.take k) J) (H3 ?_);exact J5 (XA rfl rfl rfl rfl) J6 (P3 (K:=K) (st:=st.skip (4+k)) ⟨rfl,rfl,(af.cons (.inl rfl)).cons (.inr m)⟩) ⟨st.skip (4+k),W,d,rfl,rfl⟩
 ·rw[A7 Q]at y d;have C:FnOk prog 236 [F6 (s.drop ((st.at_:Nat):Int).toNat),F6 [91,58]] (fun rs=>rs=[F6 rest,E1 false]):=by rw[C37,<-p];exact y
  refine Z2 ?_;refine D6 (mC A0 A0 B1 B1) A0 A0 (D6 (I5 (C) A0 A0) A0 A0 ?_);refine zc 10 (fun q=>?_) fun q=>?_
  ·cases q
  refine F5 ?_;have ai:KOk [811]:=⟨rfl,rfl⟩
  have aj:B5 Z 870=none:=G.none (.inr m);have w:=G;obtain⟨Z0,v⟩:∃Z0:Obs,Z0=(870,ED 0 0 0 0)::Z:=⟨_,rfl⟩
  have ak:ZOk [811] Z0 Z0:=by
   rw[v];exact ZOk.own ((G.less ai (EB G.k8)).consZ aj) ⟨by decide,rfl⟩ (fun j hj=>rfl) (B3 _ _ _)
  have ac:∀(x:Ob) (st1:PSt),ZOk K Z ((870,x)::PObs s st1 Z0):=fun x st1=>by
   rw[v];exact ((((w.cons (i:=870) (.inr m)).cons (i:=811) (.inr w.k8.h811)).cons (i:=810) (.inl rfl)).cons (i:=870) (.inr m))
  have M:∀(st1:PSt),ZOk K Z (PObs s st1 Z0):=fun st1=>by
   rw[v];exact (((w.cons (i:=870) (.inr m)).cons (i:=811) (.inr w.k8.h811)).cons (i:=810) (.inl rfl))
  refine C3 (fr':=[(0,.s H1),(3,.s (setE t)),(4,.s (.one (.ref 870 0)))]++B4 K gf) (ob':=PObs s st Z0) (C04 lf (B0 hH) J6 (by
   rw[v]
   exact D3 (L:=[(810,_),(811,_),(870,_)]) ⟨rfl,rfl,rfl,trivial⟩ PG)) ?_
  have G:=ak;refine F5 ?_;refine N3 (NC (K:=[811]) hs _ _ Z0 ⟨rfl,rfl,T0⟩) eU rfl rfl rfl ?_ ?_
  ·(rintro e ob' ⟨A,rfl⟩;exact I1 J6 (ZOk.sub (K:=K) (by rw[v];exact w.cons (i:=870) (.inr m))) ⟨by rw[d,(RS A).1,(RS A).2],rfl⟩)
  rintro _ _ ⟨st1,c,A,rfl,rfl⟩;refine F5 ?_;obtain⟨hv,rfl⟩:s[st.at_]?=some c/\st1=st.skip 1:=by
   unfold fF at A;cases hv:s[st.at_]? with
   | none=>rw[hv]at A;cases A
   | some c2=>rw[hv]at A;cases A;exact⟨rfl,rfl⟩
  rw[hv]at d;dsimp only at d;have aq:=(C44.1 hv).1;obtain⟨r,V⟩:∃r,r=s.drop (st.at_+1):=⟨_,rfl⟩
  have ad:r.length=s.length-(st.at_+1):=by rw[V,C61]
  rw[<-V]at d;have ae:2<=r.length->r[((0:Int)).toNat]?=some (r.getD 0 0):=fun h=>by rw[C38];show r[0]?=_;rw[C36 B1];rfl
  have S:2<=r.length->r[((1:Int)).toNat]?=some (r.getD 1 0):=fun h=>by rw[C38];show r[1]?=_;rw[C36 B1];rfl
  refine O6 ?_;refine D6 (mC A0 A0 b3z b3z) A0 A0 (F5 ?_);rw[show (((st.skip 1).at_:Nat):Int).toNat=st.at_+1 from rfl,<-V];refine R3 ?_;refine D7 A0 A0 A0 A0 (fun hg=>by have hq:=hg;(try simp at hq);rw[hg];exact G9 A0 A0 B1 (ae B1)) ?_;refine P1 ?_;refine D7 A0 A0 A0 A0 (fun hg=>by have hq:=hg;(try simp at hq);rw[hg];exact G9 A0 A0 B1 (S B1)) ?_;refine H3 ?_;simp only[or_pick];obtain⟨U,Y⟩:∃U,U=r.getD 0 0:=⟨_,rfl⟩
  obtain⟨F,H⟩:∃F,F=r.getD 1 0:=⟨_,rfl⟩
  rw[<-Y,<-H];rw[<-H]at d;have B:(((r.length:Int)<2\/¬(U.toNat:Int)=45)\/(F.toNat:Int)=93)↔(r.length<2\/r[0]?≠some 45\/r[1]?=some 93):=by
   have ag:(U.toNat:Int)=45↔U=45:=⟨fun h=>C89.1 (by have:(45:UInt8).toNat=45:=rfl;omega),fun h=>by rw[h];rfl⟩
   have ah:(F.toNat:Int)=93↔F=93:=⟨fun h=>C89.1 (by have:(93:UInt8).toNat=93:=rfl;omega),fun h=>by rw[h];rfl⟩
   rw[ag,ah];by_cases h2:r.length<2
   ·constructor
    ·intro _;exact .inl h2
    ·intro _;exact .inl (.inl B1)
   ·have a0:=ae B1;have a1:=S B1;rw[<-Y]at a0;rw[<-H]at a1;have a0:r[0]?=some U:=a0;have a1:r[1]?=some F:=a1;rw[a0,a1];simp only[ne_eq,Option.some.injEq];constructor
    ·rintro ((h | h) | h)
     ·omega
     ·exact .inr (.inl h)
     ·exact .inr (.inr h)
    ·rintro (h | h | h)
     ·omega
     ·exact .inl (.inr h)
     ·exact .inr h
  refine zc 0 (fun q=>?_) fun q=>?_
  ·have I:=B.1 (A1 q);rw[A6 I]at d;refine P1 ?_;refine E2 (vP t R c) (U0 (K5 TySz.out A0 (by rw[v];rfl) A0 A0 A0 A0) ?_);refine F5 ?_;exact J5 (XA rfl rfl rfl rfl) J6 (P3 (K:=K) (st:=st.skip 1) ⟨rfl,rfl,ac _ _⟩) ⟨st.skip 1,t.with_ c.toNat,d,rfl,rfl⟩
  have I:¬(r.length<2\/r[0]?≠some 45\/r[1]?=some 93):=fun h=>A3 q (B.2 h);rw[A7 I]at d;have h2:2<=r.length:=by
   apply Nat.le_of_not_lt;exact fun h=>I (.inl h)
  have E:=S h2;rw[<-H]at E;refine I2 ?_;refine B2 (G9 A0 A0 B1 E) A0 ?_;refine zc 3 (fun q=>?_) fun q=>?_
  ·have am:(F.toNat:Int)<c.toNat:=A1 q;rw[A6 B1]at d;skip;refine F5 ?_;refine P9 A0 ?_;exact I1 J6 (M _).sub ⟨d,rfl⟩
  have ap:¬(F.toNat:Int)<c.toNat:=A3 q;rw[A7 B1]at d;refine I3 ?_;refine B2 (Z3 A0 A0 (by (dsimp only[PSt.skip];omega))) A0 ?_;refine Z2 ?_;refine D6 (G9 A0 A0 B1 E) A0 A0 (D6 (I5 (DZ t R c F B1) A0 A0) A0 A0 (BZ (K5 TySz.out A0 (by rw[v];rfl) A0 A0 A0 A0) A0 ?_));refine F5 ?_;exact J5 (XA rfl rfl rfl rfl) J6 (P3 (K:=K) (st:=st.skip 3) ⟨rfl,rfl,by rw[v];exact (((((w.cons (i:=870) (.inr m)).cons (i:=811) (.inr w.k8.h811)).cons (i:=810) (.inl rfl)).cons (i:=810) (.inl rfl)).cons (i:=870) (.inr m))⟩) ⟨st.skip 3,t.through c.toNat F.toNat,d,rfl,rfl⟩
abbrev mZ(t:Set4):Ob:=ED t.a t.b t.c t.d
theorem B67{K:List Nat}(ab:F0 K 870=true)(d:F0 K 871=true)(ac:F0 K 872=true){s:Str}{st:PSt}(hs:SOk s st)(af:st.at_+1<=s.length):PX 195 [H1] K s st (s9 s (s.length+2) st) aE:=by
 intro gf ob Z hI;have P:=hI.z.self;have V:=P;have aq:=hs.len;have av:=hs.at_;have ae:KOk [811,872,870]:=⟨rfl,rfl⟩
 have T:∀k,F0 [811,872,870] k=true->F0 K k=true:=fun k hk=>by
  have h:=aP.1 hk;simp only[C50,D07,or_false]at h;rcases h with rfl | rfl | rfl
  ·exact P.k8.h811
  ·exact ac
  ·exact ab
 have U:B5 Z 871=none:=P.none (.inr d);obtain⟨Z1,a⟩:∃Z1:Ob->Obs,Z1=fun x=>(871,x)::Z:=⟨_,rfl⟩
 have ah:∀t:Set4,ZOk [811,872,870] (Z1 (mZ t)) (Z1 (mZ t)):=fun t=>by
  rw[a];exact ZOk.own ((P.less ae T).consZ U) ⟨by decide,rfl⟩ (fun j hj=>rfl) (B3 _ _ _)
 have ai:∀(x:Ob),ZOk K Z (Z1 x):=fun x=>by rw[a];exact V.cons (i:=871) (.inr d)
 have W:∀(x:Ob) (st1:PSt),ZOk K Z (PObs s st1 (Z1 x)):=fun x st1=>(((ai x).cons (i:=811) (.inr V.k8.h811)).cons (i:=810) (.inl rfl))
 have an:ZOk [811,872,870] Z Z:=P.less ae T;have g1:=L7 (s:=s) (x:=st) 1 af;have ak:=hs.gr g1 B1;have g2:=pY (s:=s) (x:=st.skip 1) 94 g1.len;have H:=ak.gr g2 B1;obtain⟨w,G⟩:∃w,w=O1 s 94 (st.skip 1):=⟨_,rfl⟩
 obtain⟨y,C⟩:∃y,y=fU s 94 (st.skip 1):=⟨_,rfl⟩
 have q:s9 s (s.length+2) st=match n6 s set0 y with
   | .error e=>.error e
   | .ok (M,t)=>match s8 s (s.length+2) t M with
    | .error e=>.error e
    | .ok (st4,t')=>.ok (iL (if w=true then t'.compl else t') st4):=by rw[C,G];rfl
 have e2:(if s[st.at_+1]?=some 94 then st.at_+1+1 else st.at_+1)=y.at_/\st.depth=y.depth/\st.nodes=y.nodes/\decide (s[st.at_+1]?=some 94)=w:=by
  by_cases h:s[st.at_+1]?=some 94
  ·have O:O1 s 94 (st.skip 1)=true:=A4 h;have he:fU s 94 (st.skip 1)=(st.skip 1).skip 1:=by unfold fU;rw[A6 O]
   rw[C,he,G,O,A6 h];exact⟨rfl,rfl,rfl,A4 h⟩
  ·have O:O1 s 94 (st.skip 1)=false:=A5 h;have he:fU s 94 (st.skip 1)=st.skip 1:=by unfold fU;rw[A7 (by rw[O];decide)]
   rw[C,he,G,O,A7 h];exact⟨rfl,rfl,rfl,A5 h⟩
 rw[<-C]at H g2;refine MetX.introH Tryz.func195 F1 rfl rfl rfl (fun Y=>?_);refine C3 (aF (l:=[(0,.s H1)]) hI ⟨i6 rfl,trivial⟩ Y J6) ?_;refine zz 18 ?_;refine O4 (aY s (st.at_+1) st.depth 94 af B1 A0) A0 A0 A0 (F5 ?_);rw[e2.1,e2.2.2.2];refine G5 ?_;refine C3 (fr':=[(0,.s H1),(3,L6 w)]++B4 K gf) (ob':=PObs s y Z) (C04 lf (B0 Y) J6 (P3 (K:=K) ⟨by rw[B3,e2.2.1],by rw[<-e2.2.2.1];rfl,((P.pin).cons (.inl rfl)).cons (.inl rfl)⟩)) ?_;have ax:=P;have P:ZOk [811,872,870] Z Z:=an;have ar:B5 (PObs s y Z) 871=none:=U;cases S:n6 s set0 y with
 | error e0 =>
  rw[S]at q;refine H3 ?_;refine N3 (BJ (K:=[811,872,870]) rfl rfl set0 q8 H _ _ Z ⟨rfl,rfl,T0⟩) eU rfl rfl rfl ?_ ?_
  ·(rintro e ob' ⟨F,rfl⟩;rw[S]at F;cases F;exact I1 J6 (fun _ _ h=>h) ⟨q,rfl⟩)
  rintro _ _ ⟨_,_,F,_,_⟩;rw[S]at F;cases F
 | ok p =>
  obtain⟨M,t⟩:=p;rw[S]at q;dsimp only at q;have g3:=nS H.at_ S;have al:=H.gr g3 B1;have am:=LF q8 S;obtain⟨RI,ad⟩:∃RI,RI=s8 s (s.length+2) t M:=⟨_,rfl⟩
  rw[<-ad]at q;refine H3 ?_;refine N3 (BJ (K:=[811,872,870]) rfl rfl set0 q8 H _ _ Z ⟨rfl,rfl,T0⟩) eU rfl rfl rfl ?_ ?_
  ·(rintro e ob' ⟨F,rfl⟩;rw[S]at F;cases F)
  rintro _ _ ⟨aj,t',F,rfl,rfl⟩;refine C2 (fY 871 U F1) A0 (F5 ?_);obtain⟨rfl,rfl⟩:M=aj/\t=t':=by rw[S]at F;cases F;exact⟨rfl,rfl⟩
  refine F5 ?_;refine B9 (X:=Nat×Set4×PSt) (fun x=>([(0,.s H1),(3,L6 w),(4,.s (.one (.ref 871 0)))]++B4 K gf,PObs s x.2.2 (Z1 (mZ x.2.1)))) (fun x=>SOk s x.2.2/\O0 x.2.1/\s.length-x.2.2.at_<x.1/\RI=s8 s x.1 x.2.1 x.2.2) (fun x=>x.1) (s.length+2,t,M) ⟨al,am,by dsimp only;omega,ad⟩ ?_ ?_
  ·dsimp only;refine C04 lf (B0 Y) (by repeat (first | exact Z6 | refine Z7 rfl ?_ | refine qL _ d ?_)) ?_;rw[a];exact D3 (L:=[(810,_),(811,_),(871,_)]) ⟨rfl,rfl,rfl,trivial⟩ (fun j x hj hx=>(((V.pin.fgt d).cons (i:=871) (.inr d)).cons (i:=871) (.inr d)).sub j x hx)
  rintro⟨f,N,D⟩ ⟨B,I,hf,v⟩;dsimp only at B I hf v ⊢;obtain⟨f,rfl⟩:∃g,f=g+1:=⟨f-1,by omega⟩
  rw[s8]at v;have P:=ah N;refine P1 ?_;refine O4 (aY s D.at_ D.depth 93 B.at_ B1 A0) A0 A0 A0 (F5 ?_);by_cases E:s[D.at_]?=some 93
  ·have O:O1 s 93 D=true:=A4 E;have ag:=B.gr (L7 (s:=s) (x:=D) 1 (l5 O)) B1;have aw:=ag.nds;have au:=ag.at_;rw[A6 O]at v;rw[v]at q;dsimp only at q;rw[A4 E,A6 E];refine zc 0 (fun Q=>?_) fun Q=>?_
   ·cases Q
   refine H3 ?_;obtain⟨R,J⟩:∃R,R=if w=true then N.compl else N:=⟨_,rfl⟩
   rw[<-J]at q;refine H3 ?_;refine U9 ([(0,.s H1),(4,.s (.one (.ref 871 0)))]++B4 K gf) (PObs s (D.skip 1) (Z1 (mZ R))) ?_ ?_
   ·skip;refine zc 0 (fun Q=>?_) fun Q=>?_
    ·have hb:w=true:=Q;rw[A6 hb]at J;subst J;skip;refine G5 ?_;refine B2 (eG A0 (by rw[a];rfl) A0) A0 ?_;refine E2 (sL N I) (U0 (K5 TySz.out A0 (by rw[a];rfl) A0 A0 A0 A0) ?_);refine G5 ?_;refine C04 lf (B0 Y) J6 ?_;rw[a]
     exact D3 (L:=[(810,_),(811,_),(871,_)]) ⟨rfl,rfl,rfl,trivial⟩ (fun j x hj hx=>by
      have:=W (mZ N) D;rw[a]at this
      exact ((this.cons (i:=810) (.inl rfl)).cons (i:=871) (.inr d)).sub j x hx)
    ·have hb:w=false:=Q;rw[A7 (by rw[hb];decide)]at J;subst J;refine G5 ?_;exact C04 lf (B0 Y) J6 (P3 (K:=[811,872,870]) (st:=D.skip 1) ⟨rfl,rfl,T0⟩)
   refine k2 ?_;have P:=ah R;refine F5 ?_;refine B2 (eG A0 (by rw[a];rfl) A0) A0 ?_;refine rO (ND (K:=[811,872,870]) (s:=s) (st:=D.skip 1) (Z:=Z1 (mZ R)) R B1 ⟨rfl,rfl,T0⟩) eU A0 A0 A0 (F5 ?_);refine G5 ?_;exact J5 V9 J6 (P3 (K:=K) (st:=(iL R (D.skip 1)).1) ⟨rfl,rfl,W _ _⟩) ⟨(iL R (D.skip 1)).1,(iL R (D.skip 1)).2,q,rfl,rfl⟩
  ·have O:O1 s 93 D=false:=A5 E;rw[A7 (by rw[O];decide)]at v;rw[A5 E,A7 E];refine zc 0 (fun Q=>?_) fun Q=>?_;rotate_left
   ·cases Q
   refine F5 ?_;cases A:n6 s N D with
   | error e0 =>
    rw[A]at v;rw[v]at q;refine F5 ?_;refine B2 (eG A0 (by rw[a];rfl) A0) A0 ?_;refine N3 (BJ (K:=[811,872,870]) rfl rfl N I B _ _ (Z1 (mZ N)) ⟨rfl,rfl,T0⟩) eU rfl rfl rfl ?_ ?_
    ·(rintro e ob' ⟨m,rfl⟩;rw[A]at m;cases m;exact I1 J6 (ai _).sub ⟨q,rfl⟩)
    rintro _ _ ⟨_,_,m,_,_⟩;rw[A]at m;cases m
   | ok p2 =>
    obtain⟨sd,td⟩:=p2;rw[A]at v;dsimp only at v;have gd:=nS B.at_ A;have gc:=gd.cnt;have ga:=gd.len;have gb:=gd.at_;have gm:=gd.more;refine F5 ?_;refine B2 (eG A0 (by rw[a];rfl) A0) A0 ?_;refine N3 (BJ (K:=[811,872,870]) rfl rfl N I B _ _ (Z1 (mZ N)) ⟨rfl,rfl,T0⟩) eU rfl rfl rfl ?_ ?_
    ·(rintro e ob' ⟨m,rfl⟩;rw[A]at m;cases m)
    rintro _ _ ⟨ao,ap,m,rfl,rfl⟩;refine U0 (K5 TySz.out A0 (by rw[a];rfl) A0 A0 A0 A0) ?_;refine G5 ?_;obtain⟨rfl,rfl⟩:sd=ao/\td=ap:=by rw[A]at m;cases m;exact⟨rfl,rfl⟩
    refine uI ?_;refine⟨(f,td,sd),⟨B.gr gd B1,LF I A,?_,v⟩,Nat.lt_succ_self f,?_⟩
    ·dsimp only;omega
    ·dsimp only;refine C04 lf (B0 Y) J6 ?_;rw[a]
     exact D3 (L:=[(810,_),(811,_),(871,_)]) ⟨rfl,rfl,rfl,trivial⟩ (fun j x hj hx=>by
      have:=W (mZ N) sd;rw[a]at this
      exact (this.cons (i:=871) (x:=mZ td) (.inr d)).sub j x hx)
theorem JR{K:List Nat}{s:Str}{st:PSt}(w:SOk s st)(A:st.at_+1<=s.length)(a:Int):PX 177 [H1,P7 a] K s st (X2 s a st) aE:=by
 intro gf ob Z q;have B:=q.z.self;have v:=w.len;have C:=w.nds;obtain⟨st1,b⟩:∃st1,st1=(X8 ⟨a,set0,0,0,[]⟩ (st.skip 1)).1:=⟨_,rfl⟩
 have i:X2 s a st=match s[st.at_+1]? with
  | some c=>if c∈([42,43,63,123]:Str) then .error 40 else .ok (st1,((st.skip 1).nodes.length:Int))
  | none=>.ok (st1,((st.skip 1).nodes.length:Int)):=by rw[b];rfl
 have m:st1.at_=st.at_+1:=by rw[b];rfl
 refine MetX.introH Tryz.func177 F1 rfl rfl rfl (fun y=>?_);refine C3 (aF (l:=[(0,.s H1),(1,.s (P7 a))]) q lf y J6) ?_;refine zz 20 ?_;refine gR ((C07 Int 1 C7 17 7 A0 A0)) (rO (add_pm (K:=K) (s:=s) (st:=st.skip 1) (Z:=Z) ⟨a,set0,0,0,[]⟩ (show st.nodes.length<=1000 by omega) ⟨rfl,rfl,T0⟩) eU A0 A0 A0 (F5 ?_));rw[<-b];refine F5 ?_;by_cases p:st.at_+1<s.length
 ·have x:s[st.at_+1]?=some (s.getD (st.at_+1) 0):=by rw[C38,C36 p];rfl
  obtain⟨c,u⟩:∃c,c=s.getD (st.at_+1) 0:=⟨_,rfl⟩
  rw[<-u]at x;rw[x]at i;dsimp only at i;refine F5 ?_;refine O4 (lE s st1.at_ st1.depth B1 B1 A0) A0 A0 A0 (J0 ?_);rw[m,A4 p,<-u];refine P1 ?_;refine G7 A0 A0 A0 A0 (G5 ?_);refine G7 A0 A0 A0 A0 (E2 (MN [42,43,63,123] c) (G7 A0 A0 A0 A0 (G5 ?_)));refine B2 (O2 A0 (rfl) A0) A0 ?_;refine zc 1 (fun j=>?_) fun j=>?_
  ·have f:=(kJ c _).1 (A1 j);skip;refine F5 ?_;refine P9 A0 ?_;exact I1 J6 B.pobs ⟨by rw[i];exact A6 f,rfl⟩
  have f:¬c∈([42,43,63,123]:Str):=fun e=>A3 j ((kJ c _).2 e);refine I3 ?_;exact J5 V9 J6 (P3 (K:=K) (st:=st1) ⟨rfl,rfl,T0⟩) ⟨st1,_,by rw[i];exact A7 f,rfl,rfl⟩
 rw[C63 (show s.length<=st.at_+1 by omega)]at i;refine F5 ?_;refine O4 (lE s st1.at_ st1.depth B1 B1 A0) A0 A0 A0 (J0 ?_);rw[m,A5 p];refine I3 ?_;refine B2 (Y2 A0 (rfl) A0) A0 ?_;refine zc 1 (fun j=>?_) fun j=>?_
 ·cases j
 refine I3 ?_;exact J5 V9 J6 (P3 (K:=K) (st:=st1) ⟨rfl,rfl,T0⟩) ⟨st1,_,i,rfl,rfl⟩
def JS(c:UInt8):FuncId:=if c=40 then 194 else if c=91 then 195 else if c=46 then 196 else if c=92 then 197 else 198
def stepP(st:PSt)(c:UInt8):Ps FuncId:=if c∈([42,43,63,123]:Str) then .error 40 else .ok (st,JS c)
abbrev cloR:FuncId->List S1:=fun f=>[.one (.clo f [(810,0)] [])]
theorem A16{K:List Nat}{s:Str}{st:PSt}(c:UInt8):PX 178 [H1,m7 c] K s st (stepP st c) cloR:=by
 intro gf ob Z t;have i:=t.z.self;have f:∀k:UInt8,(c.toNat:Int)=k.toNat->c=k:=fun k e=>C89.1 B1;have d:∀k:UInt8,¬((c.toNat:Int)=k.toNat)->¬c=k:=fun k h e=>h (by rw[e]);refine MetX.introH Tryz.func178 F1 rfl rfl rfl (fun u=>?_);refine C3 (aF (l:=[(0,.s H1),(1,.s (m7 c))]) t lf u J6) ?_;refine zc 15 (fun a=>?_) fun a=>?_
 ·have b:=f 40 (A1 a);refine I3 ?_;exact J5 V9 J6 (P3 (K:=K) (st:=st) ⟨rfl,rfl,T0⟩) ⟨st,_,by rw[b];rfl,rfl,rfl⟩
 have j:=d 40 (A3 a);refine zc 5 (fun a=>?_) fun a=>?_
 ·have b:=f 91 (A1 a);refine I3 ?_;exact J5 V9 J6 (P3 (K:=K) (st:=st) ⟨rfl,rfl,T0⟩) ⟨st,_,by rw[b];rfl,rfl,rfl⟩
 have q:=d 91 (A3 a);refine zc 5 (fun a=>?_) fun a=>?_
 ·have b:=f 46 (A1 a);refine I3 ?_;exact J5 V9 J6 (P3 (K:=K) (st:=st) ⟨rfl,rfl,T0⟩) ⟨st,_,by rw[b];rfl,rfl,rfl⟩
 have o:=d 46 (A3 a);refine zc 5 (fun a=>?_) fun a=>?_
 ·have b:=f 92 (A1 a);refine I3 ?_;exact J5 V9 J6 (P3 (K:=K) (st:=st) ⟨rfl,rfl,T0⟩) ⟨st,_,by rw[b];rfl,rfl,rfl⟩
 have r:=d 92 (A3 a);refine zc 6 (fun a=>?_) fun a=>?_
 ·have b:=f 42 (A1 a);refine zc 1 (fun a=>?_) fun a=>?_
  ·skip;refine F5 ?_;refine P9 A0 ?_;exact I1 J6 i.pobs ⟨by rw[b];rfl,rfl⟩
  ·rw[b]at a;cases a
 have m:=d 42 (A3 a);refine zc 5 (fun a=>?_) fun a=>?_
 ·have b:=f 43 (A1 a);refine zc 1 (fun a=>?_) fun a=>?_
  ·skip;refine F5 ?_;refine P9 A0 ?_;exact I1 J6 i.pobs ⟨by rw[b];rfl,rfl⟩
  ·rw[b]at a;cases a
 have n:=d 43 (A3 a);refine zc 5 (fun a=>?_) fun a=>?_
 ·have b:=f 63 (A1 a);refine zc 1 (fun a=>?_) fun a=>?_
  ·skip;refine F5 ?_;refine P9 A0 ?_;exact I1 J6 i.pobs ⟨by rw[b];rfl,rfl⟩
  ·rw[b]at a;cases a
 have p:=d 63 (A3 a);skip;refine zc 4 (fun a=>?_) fun a=>?_
 ·have b:=f 123 (A1 a);skip;refine F5 ?_;refine P9 A0 ?_;exact I1 J6 i.pobs ⟨by rw[b];rfl,rfl⟩
 have g:=d 123 (A3 a);refine R3 ?_;refine J5 V9 J6 (P3 (K:=K) (st:=st) ⟨rfl,rfl,T0⟩) ⟨st,_,?_,rfl,rfl⟩;unfold stepP JS;rw[A7 (by simp only[C50,D07,or_false,m,n,p,g,not_false_eq_true]),A7 j,A7 q,A7 o,A7 r]
def EF(s:Str)(f:Nat)(st:PSt)(c:UInt8):Ps Int:=if c=40 then U8 s G6 f st else if c=91 then s9 s (s.length+2) st else if c=46 then .ok (BC st) else if c=92 then eC s st else T7 s st
theorem atom_gr{s:Str}{f:Nat}{st:PSt}{c:UInt8}(b:st.at_+1<=s.length){z:PSt}{k:Int}(h:EF s f st c=.ok (z,k)):Gr s 0 0 st z/\uC z k:=by
 unfold EF at h;split at h
 ·exact (Y6 f).paren b h
 split at h
 ·exact wZ b h
 split at h
 ·have d:=YY (s:=s) (x:=st) b;rw[Except.ok.inj h]at d;exact d
 split at h
 ·exact rK b h
 ·exact lT h
theorem atom_px{K:List Nat}(a:F0 K 870=true)(b:F0 K 871=true)(d:F0 K 872=true){s:Str}{st:PSt}(i:SOk s st)(e:st.at_+1<=s.length){f:Nat}{c:UInt8}
  (g:c=40->PX 194 [H1] K s st (U8 s G6 f st) aE):PX (JS c) [H1] K s st (EF s f st c) aE:=by
 unfold JS EF;split
 ·rename_i h;exact g h
 split
 ·exact B67 a b d i e
 split
 ·exact any_px i
 split
 ·exact A87 i e
 ·exact A85 i
theorem RT{K:List Nat}(H:F0 K 870=true)(I:F0 K 871=true)(J:F0 K 872=true){s:Str}{st:PSt}(G:SOk s st){f:Nat}{c:UInt8}(hc:s[st.at_]?=some c)
  (P:c=40->PX 194 [H1] K s st (U8 s G6 f st) aE):PX 152 [H1,m7 c] K s st (j9 s G6 (f+1) st c) aE:=by
 intro gf ob Z V;have hz:=V.z.self;have X:=G.len;have hn:=G.nds;have B:st.at_+1<=s.length:=by have:=(C44.1 hc).1;omega
 have Y:∀k:UInt8,(c.toNat:Int)=k.toNat->c=k:=fun k e=>C89.1 B1;have O:∀k:UInt8,¬((c.toNat:Int)=k.toNat)->¬c=k:=fun k h e=>h (by rw[e]);obtain⟨R,d⟩:∃R,R=j9 s G6 (f+1) st c:=⟨_,rfl⟩
 rw[<-d];rw[j9]at d;refine MetX.introH Tryz.func152 F1 rfl rfl rfl (fun hH=>?_);refine C3 (aF (l:=[(0,.s H1),(1,.s (m7 c))]) V lf hH J6) ?_;refine zc 15 (fun t=>?_) fun t=>?_
 ·have D:=Y 94 (A1 t);rw[A6 D]at d;refine H3 ?_;refine N3 (JR (K:=K) G B 2 _ _ Z ⟨rfl,rfl,T0⟩) eU rfl rfl rfl ?_ ?_
  ·(rintro e ob' ⟨a,rfl⟩;exact I1 J6 (fun _ _ h=>h) ⟨by rw[d,a],rfl⟩)
  rintro _ _ ⟨g,v,a,rfl,rfl⟩;refine F5 ?_;refine G5 ?_;exact J5 V9 J6 (P3 (K:=K) (st:=g) ⟨rfl,rfl,T0⟩) ⟨g,v,by rw[d,a],rfl,rfl⟩
 have D:=O 94 (A3 t);rw[A7 D]at d;refine zc 5 (fun t=>?_) fun t=>?_
 ·have C:=Y 36 (A1 t);rw[A6 C]at d;refine H3 ?_;refine N3 (JR (K:=K) G B 3 _ _ Z ⟨rfl,rfl,T0⟩) eU rfl rfl rfl ?_ ?_
  ·(rintro e ob' ⟨a,rfl⟩;exact I1 J6 (fun _ _ h=>h) ⟨by rw[d,a],rfl⟩)
  rintro _ _ ⟨g,v,a,rfl,rfl⟩;refine F5 ?_;refine G5 ?_;exact J5 V9 J6 (P3 (K:=K) (st:=g) ⟨rfl,rfl,T0⟩) ⟨g,v,by rw[d,a],rfl,rfl⟩
 have C:=O 36 (A3 t);rw[A7 C]at d;refine F5 ?_;by_cases T:c∈([42,43,63,123]:Str)
 ·have M:stepP st c=.error 40:=A6 T;have L:R=.error 40:=by
   rw[d];simp only[C50,D07,or_false]at T;rcases T with rfl | rfl | rfl | rfl<;>rfl
  refine H3 ?_;refine N3 (A16 (K:=K) (s:=s) (st:=st) c _ _ Z ⟨rfl,rfl,T0⟩) eU rfl rfl rfl ?_ ?_
  ·(rintro e ob' ⟨a,rfl⟩;rw[M]at a;cases a;exact I1 J6 (fun _ _ h=>h) ⟨L,rfl⟩)
  rintro _ _ ⟨g,v,a,rfl,rfl⟩;rw[M]at a;cases a
 have M:stepP st c=.ok (st,JS c):=A7 T;have E:R=T8 s G6 (EF s f st c):=by
  rw[d];unfold EF;split
  ·rfl
  split
  ·rfl
  split
  ·rfl
  split
  ·rfl
  ·rfl
 clear d;refine H3 ?_;refine N3 (A16 (K:=K) (s:=s) (st:=st) c _ _ Z ⟨rfl,rfl,T0⟩) eU rfl rfl rfl ?_ ?_
 ·(rintro e ob' ⟨a,rfl⟩;rw[M]at a;cases a)
 rintro _ _ ⟨g,v,a,rfl,rfl⟩;rw[M]at a;cases a;refine F5 ?_;refine G5 ?_;obtain⟨F,hF⟩:∃F,F=JS c:=⟨_,rfl⟩
 have y:=atom_px H I J G B (c:=c) P;rw[<-hF]at y ⊢;obtain⟨A,hA⟩:∃A,A=EF s f st c:=⟨_,rfl⟩
 have N:=fun z k=>atom_gr (f:=f) (c:=c) B (z:=z) (k:=k);rw[<-hA]at y E N;cases A with
 | error e0 =>
  refine F5 ?_;refine QF (y _ _ Z ⟨rfl,rfl,T0⟩) eU rfl rfl rfl rfl ?_ ?_
  ·(rintro e ob' ⟨a,rfl⟩;cases a;exact I1 J6 (fun _ _ h=>h) ⟨E,rfl⟩)
  rintro _ _ ⟨g,v,a,rfl,rfl⟩;cases a
 | ok p =>
  obtain⟨g,k⟩:=p;obtain⟨U,i2⟩:=N g k rfl;have n:=G.gr U (C45 _);have ae:=n.nds;have ac:=n.at_;refine F5 ?_;refine QF (y _ _ Z ⟨rfl,rfl,T0⟩) eU rfl rfl rfl rfl ?_ ?_
  ·(rintro e ob' ⟨a,rfl⟩;cases a)
  rintro _ _ ⟨ab,v,a,rfl,rfl⟩;cases a;refine F5 ?_;refine G5 ?_;have u:R=match Y5 s G6 g with
   | .error e=>.error e
   | .ok (st',none)=>.ok (st',k)
   | .ok (st',some (j,m))=>.ok (X8 ⟨6,set0,j,m,[k]⟩ st'):=by rw[E];rfl
  cases i:Y5 s G6 g with
  | error e0 =>
   rw[i]at u;refine F5 ?_;refine N3 (EA (K:=K) n _ _ Z ⟨rfl,rfl,T0⟩) eU rfl rfl rfl ?_ ?_
   ·(rintro e ob' ⟨a,rfl⟩;rw[i]at a;cases a;exact I1 J6 (fun _ _ h=>h) ⟨u,rfl⟩)
   rintro _ _ ⟨x,b,a,rfl,rfl⟩;rw[i]at a;cases a
  | ok q =>
   obtain⟨x,b⟩:=q;rw[i]at u;cases b with
   | none =>
    refine F5 ?_;refine N3 (EA (K:=K) n _ _ Z ⟨rfl,rfl,T0⟩) eU rfl rfl rfl ?_ ?_
    ·(rintro e ob' ⟨a,rfl⟩;rw[i]at a;cases a)
    rintro _ _ ⟨S,b,a,w,rfl⟩;rw[i]at a;cases a;dsimp only at w;subst w;refine R3 ?_;refine zc 6 (fun t=>?_) fun t=>?_;rotate_left
    ·cases t
    refine J0 ?_;exact J5 V9 J6 (P3 (K:=K) (st:=x) ⟨rfl,rfl,T0⟩) ⟨x,k,u,rfl,rfl⟩
   | some q =>
    obtain⟨j,m⟩:=q;rcases pZ U.len i with ⟨W,_⟩ | ⟨q,W,g3,hb⟩
    ·cases W
    have Q:=n.gr g3 B1;have af:=Q.nds;have ad:=Q.at_;refine F5 ?_;refine N3 (EA (K:=K) n _ _ Z ⟨rfl,rfl,T0⟩) eU rfl rfl rfl ?_ ?_
    ·(rintro e ob' ⟨a,rfl⟩;rw[i]at a;cases a)
    rintro _ _ ⟨S,b,a,w,rfl⟩;rw[i]at a;cases a;dsimp only at w;subst w;refine R3 ?_;refine zc 6 (fun t=>?_) fun t=>?_
    ·cases t
    refine I3 ?_;refine B2 (B7 (c:=C7) (ys:=[k]) (C0 A0 A0 A0 A0 D2) A0 A0 A0) A0 (G5 ?_);refine rO (add_pm (K:=K) (s:=s) (st:=x) (Z:=Z) ⟨6,set0,j,m,[k]⟩ B1 ⟨rfl,rfl,T0⟩) eU A0 A0 A0 (F5 ?_);refine G5 ?_;exact J5 V9 J6 (P3 (K:=K) (st:=(X8 ⟨6,set0,j,m,[k]⟩ x).1) ⟨rfl,rfl,T0⟩) ⟨_,_,u,rfl,rfl⟩
def aO(n:Nat):Nat:=900+2*n
def pO(n:Nat):Nat:=901+2*n
def kF:Nat->List Nat
 | 0=>[811,870,871,872]
 | n+1=>pO n::aO n::kF n
theorem ksN_iff{n j:Nat}:F0 (kF n) j=true↔j=811\/j=870\/j=871\/j=872\/(900<=j/\j<900+2*n):=by
 induction n with
 | zero =>
  rw[aP];simp only[kF,C50,D07,or_false];omega
 | succ n a =>
  rw[aP]at a ⊢;simp only[kF,C50,aO,pO];rw[a];omega
theorem ksA_iff{n j:Nat}:F0 (aO n::kF n) j=true↔j=aO n\/F0 (kF n) j=true:=by
 rw[aP,aP,C50]
theorem EG{n j:Nat}(h:¬(j=811\/j=870\/j=871\/j=872\/(900<=j/\j<900+2*n))):F0 (kF n) j=false:=by
 cases hb:F0 (kF n) j
 ·rfl
 ·exact absurd (ksN_iff.1 hb) h
theorem xY(n:Nat):KOk (kF n):=⟨ksN_iff.2 (.inl rfl),EG B1⟩
theorem ksA_ok(n:Nat):KOk (aO n::kF n):=⟨ksA_iff.2 (.inr (xY n).h811),by
 cases hb:F0 (aO n::kF n) 810
 ·rfl
 ·rcases ksA_iff.1 hb with h | h
  ·unfold aO at h;omega
  ·rw[(xY n).h810]at h;cases h⟩
theorem j4{k:Nat}{fr:Fr}{i:Nat}{s:SV}(h:D5 fr i=some s)(a:s.free k=true):D5 (Fr.forget k fr) i=some s:=by
 rw[O7,h];show some (s.forget k)=some s;rw[SV.forget_free a]
theorem vR{k:Nat}{fr:Fr}{i:Nat}{α:Type}{a:Nat}{c:α->Nat->Cell}{d:List α}(h:D5 fr i=some (.s (.one (.buf k α a c d)))):D5 (Fr.forget k fr) i=some (B8 α a c d):=by
 rw[O7,h];show some (SV.s (.one (cond (Nat.beq k k) _ _)))=_;rw[Nat.beq_refl];rfl
theorem vS{K:List Nat}{a:Nat}{s:Str}{st:PSt}{x:Ob}{Z ob:Obs}(j:a≠810)(i:a≠811)(ha:F0 K a=true)(l:ZOk K Z Z)
  (g:∀k o,k≠a->B5 (PObs s st Z) k=some o->B5 ob k=some o):∀k o,B5 (PObs s st ((a,x)::Z)) k=some o->B5 ((a,x)::Obs.forget a ob) k=some o:=fun k o c=>by
 by_cases e:a=k
 ·subst e;rw[B3];rw[A8 (fun e=>j e.symm),A8 (fun e=>i e.symm),B3]at c;exact c
 have b:B5 (PObs s st Z) k=some o:=by
  by_cases f:810=k
  ·subst f;rw[B3]at c;rw[B3];exact c
  rw[A8 f]at c ⊢;by_cases d:811=k
  ·subst d;rw[B3]at c;rw[B3];exact c
  rw[A8 d,A8 e]at c;rw[A8 d];exact c
 rw[A8 e,K3,g k o (fun h=>e h.symm) b];show some (o.forget a)=some o;rw[Ob.forget_free ?_];by_cases f:810=k
 ·subst f;rw[B3]at b;cases b;simp[Ob.free,TC.free,rP,pG (show 811≠a from fun e=>i e.symm)]
 rw[A8 f]at b;by_cases d:811=k
 ·subst d;rw[B3]at b;cases b;rfl
 rw[A8 d]at b;exact l.free k o b a ha
theorem NE{K:List Nat}{a:Nat}{s:Str}{st:PSt}{x:Ob}{Z:Obs}(g:a≠810)(j:a≠811)(ha:F0 K a=true)(l:ZOk K Z Z):∀k o,B5 (PObs s st Z) k=some o->B5 (Obs.forget a (PObs s st ((a,x)::Z))) k=some o:=fun k o b=>by
 have e:k≠a:=fun e=>by
  subst e;rw[A8 (fun e=>g e.symm),A8 (fun e=>j e.symm),l.none (.inr ha)]at b;cases b
 have h:=vS (s:=s) (st:=st) (x:=x) (Z:=Z) (ob:=PObs s st ((a,x)::Z)) g j ha l (fun k o b c=>by
  by_cases d:810=k
  ·subst d;rw[B3]at c ⊢;exact c
  rw[A8 d]at c ⊢;by_cases f:811=k
  ·subst f;rw[B3]at c ⊢;exact c
  rw[A8 f]at c ⊢
  rw[A8 (fun h=>b h.symm)];exact c) k o
 rw[A8 (fun h=>e h.symm)]at h;refine h ?_;by_cases d:810=k
 ·subst d;rw[B3]at b ⊢;exact b
 rw[A8 d]at b ⊢;by_cases f:811=k
 ·subst f;rw[B3]at b ⊢;exact b
 rw[A8 f]at b ⊢;rw[A8 (fun h=>e h.symm)];exact b
theorem RU{s:Str}{st:PSt}{y:Ob}{Z:Obs}{a:Nat}:∀k o,k≠a->B5 (PObs s st Z) k=some o->B5 (PObs s st ((a,y)::Z)) k=some o:=fun k o e b=>by
 by_cases c:810=k
 ·subst c;rw[B3]at b ⊢;exact b
 rw[A8 c]at b ⊢;by_cases d:811=k
 ·subst d;rw[B3]at b ⊢;exact b
 rw[A8 d]at b ⊢;rw[A8 (fun h=>e h.symm)];exact b
theorem RV{s:Str}{st:PSt}{x:Ob}{Z:Obs}{a:Nat}(b:a≠810)(c:a≠811):B5 (PObs s st ((a,x)::Z)) a=some x:=by
 rw[A8 (fun e=>b e.symm),A8 (fun e=>c e.symm),B3]
theorem JT{K:List Nat}{s:Str}{st:PSt}{Z:Obs}{a:Nat}(b:a≠810)(c:a≠811)(ha:F0 K a=true)(d:ZOk K Z Z):B5 (PObs s st Z) a=none:=by
 rw[A8 (fun e=>b e.symm),A8 (fun e=>c e.symm),d.none (.inr ha)]
theorem vT{a:Nat}{K:List Nat}(h:F0 K a=false){kids:List Int}:∀k,F0 K k=true->(SV.s (.one (.buf a Int 1 C7 kids))).free k=true:=fun k c=>by
 show (!Nat.beq a k)=true;rw[pG (fun e=>by rw[e,c]at h;cases h)];rfl
theorem b7w{p:Prop}(h:p:=by repeat (first | exact Z6 | refine qL _ (by assumption) ?_ | refine Z7 rfl ?_)):p:=h
theorem alt_px{n:Nat}(am:n<=50){s:Str}{st:PSt}(hs:SOk s st)(hn:st.nodes.length<=st.at_)(hd:st.depth+n=50){F:Nat}(hF:F<=5000)(D:aI s G6 F st []≠.error 0)
  (M:∀f st',f<F->SOk s st'->st'.nodes.length<=st'.at_->st'.depth+n=50->st'.at_+1<=s.length->U8 s G6 f st'≠.error 0->PX 194 [H1] (kF n) s st' (U8 s G6 f st') aE) :
  PX 104 [H1] (aO n::kF n) s st (aI s G6 F st []) aE:=by
 intro gf ob Z hI;obtain⟨K,hK⟩:∃K,K=aO n::kF n:=⟨_,rfl⟩
 obtain⟨a,B⟩:∃a,a=aO n:=⟨_,rfl⟩
 obtain⟨J,L⟩:∃J,J=kF n:=⟨_,rfl⟩
 have q:F0 K a=true:=by rw[hK,B];exact ksA_iff.2 (.inl rfl)
 have W:F0 J a=false:=by rw[L,B];exact EG (by unfold aO;omega)
 have af:KOk J:=by rw[L];exact xY n
 have ad:∀k,F0 J k=true->F0 K k=true:=fun k hk=>by rw[L]at hk;rw[hK];exact ksA_iff.2 (.inr hk)
 have G:F0 J 870=true:=by rw[L];exact ksN_iff.2 B1
 have H:F0 J 871=true:=by rw[L];exact ksN_iff.2 B1
 have I:F0 J 872=true:=by rw[L];exact ksN_iff.2 B1
 have O:a≠810:=by rw[B];unfold aO;omega
 have T:a≠811:=by rw[B];unfold aO;omega
 have Y:Nat.blt a 1000000=true:=by
  have:a<1000000:=by rw[B];unfold aO;omega
  simpa using this
 rw[<-hK]at hI ⊢;rw[<-L]at M;clear hK B L;have N:=hI.z.self;have v:=N;have al:=hs.len;obtain⟨R,hR⟩:∃R,R=aI s G6 F st []:=⟨_,rfl⟩
 rw[<-hR]at D ⊢;obtain⟨Z1,y⟩:∃Z1:List Int->Obs,Z1=fun kids=>(a,.spare kids.length 1 3)::Z:=⟨_,rfl⟩
 have aj:∀kids,ZOk J (Z1 kids) (Z1 kids):=fun kids=>by
  rw[y];exact ZOk.own ((N.less af ad).consZ (N.none (.inr q))) ⟨O,W⟩ (fun j hj=>rfl) (B3 _ _ _)
 have ak:∀kids,ZOk K Z (Z1 kids):=fun kids=>by rw[y];exact v.cons (i:=a) (.inr q)
 refine MetX.introH Tryz.func104 F1 rfl rfl rfl (fun U=>?_);refine C3 (aF (l:=[(0,.s H1)]) hI ⟨i6 rfl,trivial⟩ U J6) ?_;refine R3 ?_;refine C3 (C21 a Int 1 C7 3 (t:=3) A0 (JT O T q N) Y) (k3 ?_);refine B9 (X:=Nat×List Int×PSt) (fun x=>([(0,.s H1),(3,.s (.one (.buf a Int 1 C7 x.2.1)))]++B4 K gf,PObs s x.2.2 (Z1 x.2.1))) (fun x=>SOk s x.2.2/\x.2.2.nodes.length<=x.2.2.at_/\x.2.2.depth+n=50/\x.2.1.length+x.1<=F/\R=aI s G6 x.1 x.2.2 x.2.1) (fun x=>x.1) (F,[],st) ⟨hs,hn,hd,by simp,hR⟩ ?_ ?_
 ·dsimp only;refine C04 ⟨i6 (j4 A0 (aG v.k8 a q)),i6 rfl,trivial⟩ (B0 U) b7w ?_;rw[y];exact vS O T q N fun _ _ _ h=>h
 rintro⟨f,kids,A⟩ ⟨w,ab,P,ah,d⟩;dsimp only at w ab P ah d ⊢;have ai:=w.at_;have N:=aj kids;refine P1 ?_;refine O4 (lE s A.at_ A.depth ai B1 A0) A0 A0 A0 (zz 20 ?_);by_cases hm:A.at_<s.length;rotate_left
 ·have S:s[A.at_]?=none:=C63 B1;rw[A5 hm];obtain⟨f,rfl⟩:∃g,f=g+1:=by
   cases f with
   | zero=>exact absurd (by rw[d,aI]) D
   | succ g=>exact⟨g,rfl⟩
  rw[aI,S]at d;dsimp only at d;refine zc 0 (fun C=>?_) fun C=>?_;rotate_left
  ·cases C
  refine k2 ?_;have ag:=w.nds;refine C3 (Sees.forget a) (C3 (fr':=[(0,.s H1),(3,B8 Int 1 C7 kids)]++B4 K gf) (ob':=PObs s A Z) (C04 ⟨i6 (j4 A0 (aG v.k8 a q)),i6 (vR rfl),trivial⟩ (B0 U) b7w (by rw[y];exact NE O T q v)) ?_);have N:=v;refine H3 ?_;refine rO (EC (K:=K) (s:=s) (st:=A) (Z:=Z) 4 kids B1 B1 ⟨rfl,rfl,T0⟩) eU A0 A0 A0 (F5 ?_);refine G5 ?_;exact J5 V9 J6 (fun _ _ h=>h) ⟨_,_,d,rfl,rfl⟩
 have S:s[A.at_]?=some (s.getD A.at_ 0):=by rw[C38,C36 hm];rfl
 obtain⟨c,hc⟩:∃c,c=s.getD A.at_ 0:=⟨_,rfl⟩
 rw[<-hc]at S;rw[<-hc,A4 hm];obtain⟨f,rfl⟩:∃g,f=g+1:=by
  cases f with
  | zero=>exact absurd (by rw[d,aI]) D
  | succ g=>exact⟨g,rfl⟩
 rw[aI,S]at d;dsimp only at d;have hu:∀k:UInt8,(c.toNat:Int)=k.toNat↔c=k:=fun k=>⟨fun e=>C89.1 B1,fun e=>by rw[e]⟩
 have E:(c.toNat:Int)=124↔c=124:=hu 124;have V:(c.toNat:Int)=41↔c=41:=hu 41;by_cases he:c=124\/c=41
 ·rw[A6 he]at d;refine zc 0 (fun C=>?_) fun C=>?_;rotate_left
  ·exfalso;rw[x7,x7]at C;simp only[Bool.not_true,C98,C86,decide_eq_false_iff_not,E,V]at C;rcases he with h | h
   ·exact C.1 h
   ·exact C.2 h
  refine k2 ?_;have ag:=w.nds;refine C3 (Sees.forget a) (C3 (fr':=[(0,.s H1),(3,B8 Int 1 C7 kids)]++B4 K gf) (ob':=PObs s A Z) (C04 ⟨i6 (j4 A0 (aG v.k8 a q)),i6 (vR rfl),trivial⟩ (B0 U) b7w (by rw[y];exact NE O T q v)) ?_);have N:=v;refine H3 ?_;refine rO (EC (K:=K) (s:=s) (st:=A) (Z:=Z) 4 kids B1 B1 ⟨rfl,rfl,T0⟩) eU A0 A0 A0 (F5 ?_);refine G5 ?_;exact J5 V9 J6 (fun _ _ h=>h) ⟨_,_,d,rfl,rfl⟩
 rw[A7 he]at d;refine zc 0 (fun C=>?_) fun C=>?_
 ·exfalso;rw[x7,x7]at C;simp only[Bool.not_true,C98,C67,decide_eq_true_eq,E,V]at C;exact he C
 refine G5 ?_;have ae:∀k,F0 J k=true->(SV.s (.one (.buf a Int 1 C7 kids))).free k=true:=vT W;refine C3 (C04 (l:=[(0,.s H1),(3,.s (.one (.buf a Int 1 C7 kids))),(4,.s (m7 c))]) lf (B0 U) J6 (fun _ _ h=>h)) ?_;obtain⟨f,rfl⟩:∃g,f=g+1:=by
  cases f with
  | zero=>exact absurd (by rw[d,j9]) D
  | succ g=>exact⟨g,rfl⟩
 have ac:c=40->PX 194 [H1] J s A (U8 s G6 f A) aE:=fun e =>
  M f A B1 w ab P B1 (fun h=>D (by rw[d,j9,A7 (by rw[e];decide),A7 (by rw[e];decide),A6 e,h];rfl))
 cases Q:j9 s G6 (f+1) A c with
 | error e0 =>
  rw[Q]at d;refine P1 ?_;refine N3 (RT (K:=J) G H I w S ac _ _ (Z1 kids) ⟨rfl,rfl,T0⟩) eU rfl rfl rfl ?_ ?_
  ·(rintro e ob' ⟨m,rfl⟩;rw[Q]at m;cases m;exact I1 J6 (ak _).sub ⟨d,rfl⟩)
  rintro _ _ ⟨_,_,m,_,_⟩;rw[Q]at m;cases m
 | ok p =>
  obtain⟨sd,k⟩:=p;rw[Q]at d;dsimp only at d;obtain⟨gp,ip⟩:=(Y6 (s:=s) (f+1)).piece S Q;have an:=gp.cnt;have ao:=gp.len;refine P1 ?_;refine N3 (RT (K:=J) G H I w S ac _ _ (Z1 kids) ⟨rfl,rfl,T0⟩) eU rfl rfl rfl ?_ ?_
  ·(rintro e ob' ⟨m,rfl⟩;rw[Q]at m;cases m)
  rintro _ _ ⟨ap,k',m,rfl,rfl⟩;rw[Q]at m;cases m;refine B2 (B7 (c:=C7) (ys:=[k]) (C0 A0 A0 A0 A0 D2) A0 A0 A0) A0 (C2 (W4 A0 (by rw[y];exact RV O T) A0 (.pure _ _ _ _) PH Y) A0 ?_);refine F5 ?_;refine uI ?_;refine⟨(f+1,kids++[k],sd),⟨w.gr gp (C45 _),by dsimp only;omega,by dsimp only;rw[gp.dep];exact P,by simp only[C40,C46,List.length_nil];omega,d⟩,by dsimp only;omega,?_⟩;dsimp only;refine C04 ⟨i6 (show D5 (Fr.forget a _) 0=_ from j4 A0 (aG v.k8 a q)),i6 rfl,trivial⟩ (B0 U) b7w ?_;rw[y];exact vS O T q v RU
theorem ksS_iff{n j:Nat}:F0 (kF (n+1)) j=true↔j=pO n\/F0 (aO n::kF n) j=true:=by
 rw[show kF (n+1)=pO n::aO n::kF n from rfl,aP,aP,C50]
theorem pat_px{n:Nat}(ae:n<=50){s:Str}{st:PSt}(hs:SOk s st)(hn:st.nodes.length<=st.at_)(hd:st.depth+n=50){F:Nat}(hF:F<=5000)(E:dA s G6 F st≠.error 0)
  (Q:∀f st',f<F->SOk s st'->st'.nodes.length<=st'.at_->st'.depth+n=50->st'.at_+1<=s.length->U8 s G6 f st'≠.error 0->PX 194 [H1] (kF n) s st' (U8 s G6 f st') aE) :
  PX 63 [H1] (kF (n+1)) s st (dA s G6 F st) aE:=by
 intro gf ob Z hI;have B:∀{f:Nat} {st':PSt},f<F->SOk s st'->st'.nodes.length<=st'.at_->st'.depth+n=50->aI s G6 f st' []≠.error 0->PX 104 [H1] (aO n::kF n) s st' (aI s G6 f st' []) aE:=fun {f st'} V h2 h3 h4 h5 =>
  alt_px ae h2 h3 h4 B1 h5 fun f' ai h6=>Q f' ai B1
 obtain⟨K,hK⟩:∃K,K=kF (n+1):=⟨_,rfl⟩
 obtain⟨a,D⟩:∃a,a=pO n:=⟨_,rfl⟩
 obtain⟨J,hJ⟩:∃J,J=aO n::kF n:=⟨_,rfl⟩
 have y:F0 K a=true:=by rw[hK,D];exact ksS_iff.2 (.inl rfl)
 have ac:F0 J a=false:=by
  rw[hJ,D];cases hb:F0 (aO n::kF n) (pO n)
  ·rfl
  ·rcases ksA_iff.1 hb with h | h
   ·unfold pO aO at h;omega
   ·have:=ksN_iff.1 h;unfold pO at this;omega
 have an:KOk J:=by rw[hJ];exact ksA_ok n
 have ag:∀k,F0 J k=true->F0 K k=true:=fun k Y=>by rw[hJ]at Y;rw[hK];exact ksS_iff.2 (.inr Y)
 have U:a≠810:=by rw[D];unfold pO;omega
 have V:a≠811:=by rw[D];unfold pO;omega
 have ab:a<1000000:=by rw[D];unfold pO;omega
 have ao:Nat.blt a 1000000=true:=by simpa using ab
 rw[<-hK]at hI ⊢;rw[<-hJ]at B;clear hK D hJ Q;have w:=hI.z.self;have P:=hs.len;obtain⟨R,L⟩:∃R,R=dA s G6 F st:=⟨_,rfl⟩
 rw[<-L]at E ⊢;obtain⟨F,rfl⟩:∃G,F=G+1:=by
  cases F with
  | zero=>exact absurd (by rw[L,dA]) E
  | succ g=>exact⟨g,rfl⟩
 rw[dA]at L;obtain⟨Z1,C⟩:∃Z1:List Int->Obs,Z1=fun kids=>(a,.spare kids.length 1 3)::Z:=⟨_,rfl⟩
 have ah:ZOk J Z Z:=w.less an ag;have ax:∀kids,ZOk J (Z1 kids) (Z1 kids):=fun kids=>by
  rw[C];exact ZOk.own (ah.consZ (w.none (.inr y))) ⟨U,ac⟩ (fun j hj=>rfl) (B3 _ _ _)
 have ay:∀kids,ZOk K Z (Z1 kids):=fun kids=>by rw[C];exact w.cons (i:=a) (.inr y)
 refine MetX.introH Tryz.func63 F1 rfl rfl rfl (fun W=>?_);refine C3 (aF (l:=[(0,.s H1)]) hI ⟨i6 rfl,trivial⟩ W J6) ?_;refine I2 ?_;have hz:=ah;cases N:aI s G6 F st [] with
 | error e0 =>
  rw[N]at L;have H:aI s G6 F st []≠.error 0:=fun h=>E (by rw[N]at h;rw[L,h]);refine F5 ?_;refine N3 (B (Nat.lt_succ_self F) hs hn hd H _ _ Z ⟨rfl,rfl,T0⟩) eU rfl rfl rfl ?_ ?_
  ·(rintro e ob' ⟨m,rfl⟩;rw[N]at m;cases m;exact I1 J6 (fun _ _ h=>h) ⟨L,rfl⟩)
  rintro _ _ ⟨_,_,m,_,_⟩;rw[N]at m;cases m
 | ok q =>
  obtain⟨aj,k⟩:=q;rw[N]at L;dsimp only at L;have H:aI s G6 F st []≠.error 0:=fun h=>by rw[N]at h;cases h
  obtain⟨g2,_⟩:=(Y6 (s:=s) F).alt hs.at_ (fun k Y=>by cases Y) N;have bc:=g2.cnt;have al:=g2.len;have ba:=g2.at_;have au:SOk s aj:=⟨P,al,by omega⟩
  refine F5 ?_;refine N3 (B (Nat.lt_succ_self F) hs hn hd H _ _ Z ⟨rfl,rfl,T0⟩) eU rfl rfl rfl ?_ ?_
  ·(rintro e ob' ⟨m,rfl⟩;rw[N]at m;cases m)
  rintro _ _ ⟨az,k',m,rfl,rfl⟩;rw[N]at m;cases m;refine C2 (sX a (c:=C7) (ys:=[k]) (C0 A0 A0 A0 A0 D2) A0 A0 A0 (JT U V y w) ab) A0 (F5 ?_);refine F5 ?_;refine B9 (X:=Nat×List Int×PSt) (fun x=>([(0,.s H1),(3,.s (.one (.buf a Int 1 C7 x.2.1)))]++B4 K gf,PObs s x.2.2 (Z1 x.2.1))) (fun x=>SOk s x.2.2/\x.2.2.nodes.length<=x.2.2.at_+1/\x.2.2.depth+n=50/\x.2.1.length+x.1<=F+1/\x.1<=F/\R=d7 s G6 x.1 x.2.2 x.2.1) (fun x=>x.1) (F,[k],aj) ⟨au,by dsimp only;omega,by dsimp only;rw[g2.dep];exact hd,by simp only[C46,List.length_nil];omega,C45 _,L⟩ ?_ ?_
  ·dsimp only;refine C04 ⟨i6 (show D5 (Fr.forget a _) 0=_ from j4 A0 (aG w.k8 a y)),i6 rfl,trivial⟩ (B0 W) b7w ?_;rw[C];exact vS U V y w fun _ _ _ h=>h
  rintro⟨f,kids,A⟩ ⟨T,af,M,aq,ap,v⟩;dsimp only at T af M aq ap v ⊢;have ar:=T.at_;have hz:=ax kids;obtain⟨f,rfl⟩:∃g,f=g+1:=by
   cases f with
   | zero=>exact absurd (by rw[v,d7]) E
   | succ g=>exact⟨g,rfl⟩
  rw[d7]at v;refine P1 ?_;refine O4 (aY s A.at_ A.depth 124 ar B1 A0) A0 A0 A0 (G5 ?_);by_cases hb:s[A.at_]?=some 124;rotate_left
  ·have hh:¬O1 s 124 A=true:=fun h=>hb (A1 h);rw[A7 hh]at v;rw[A5 hb,A7 hb];refine zc 0 (fun ht=>?_) fun ht=>?_
   ·cases ht
   refine F5 ?_;refine C3 (fr':=[(0,.s H1),(3,.s (.one (.buf a Int 1 C7 kids)))]++B4 K gf) (ob':=PObs s A (Z1 kids)) (C04 lf (B0 W) J6 (P3 (K:=J) (st:=A) ⟨rfl,rfl,T0⟩)) ?_;refine C3 (Sees.forget a) (C3 (fr':=[(0,.s H1),(3,B8 Int 1 C7 kids)]++B4 K gf) (ob':=PObs s A Z) (C04 ⟨i6 (j4 A0 (aG w.k8 a y)),i6 (vR rfl),trivial⟩ (B0 W) b7w (by rw[C];exact NE U V y w)) ?_);have hz:=w;refine H3 ?_;refine rO (EC (K:=K) (s:=s) (st:=A) (Z:=Z) 5 kids B1 B1 ⟨rfl,rfl,T0⟩) eU A0 A0 A0 (F5 ?_);refine G5 ?_;exact J5 V9 J6 (fun _ _ h=>h) ⟨_,_,v,rfl,rfl⟩
  have hh:O1 s 124 A=true:=A4 hb;have aw:=L7 (s:=s) (x:=A) 1 (l5 hh);have S:SOk s (A.skip 1):=T.gr aw B1;have ad:(A.skip 1).nodes.length<=(A.skip 1).at_:=af;rw[A6 hh]at v;rw[A4 hb,A6 hb];refine zc 0 (fun ht=>?_) fun ht=>?_;rotate_left
  ·cases ht
  refine F5 ?_;refine C3 (fr':=[(0,.s H1),(3,.s (.one (.buf a Int 1 C7 kids)))]++B4 K gf) (ob':=PObs s (A.skip 1) (Z1 kids)) (C04 lf (B0 W) J6 (P3 (K:=J) (st:=A.skip 1) ⟨rfl,rfl,T0⟩)) ?_;have ak:∀k,F0 J k=true->(SV.s (.one (.buf a Int 1 C7 kids))).free k=true:=vT ac;cases O:aI s G6 f (A.skip 1) [] with
  | error e0 =>
   rw[O]at v;have I:aI s G6 f (A.skip 1) []≠.error 0:=fun h=>E (by rw[O]at h;rw[v,h]);refine H3 ?_;refine N3 (B (show f<F+1 by omega) S ad M I _ _ (Z1 kids) ⟨rfl,rfl,T0⟩) eU rfl rfl rfl ?_ ?_
   ·(rintro e ob' ⟨m,rfl⟩;rw[O]at m;cases m;exact I1 J6 (ay _).sub ⟨v,rfl⟩)
   rintro _ _ ⟨_,_,m,_,_⟩;rw[O]at m;cases m
  | ok q =>
   obtain⟨sd,j⟩:=q;rw[O]at v;dsimp only at v;have I:aI s G6 f (A.skip 1) []≠.error 0:=fun h=>by rw[O]at h;cases h
   obtain⟨g4,_⟩:=(Y6 (s:=s) f).alt S.at_ (fun k Y=>by cases Y) O;have be:=g4.cnt;have am:=g4.len;have bd:=g4.at_;have av:SOk s sd:=⟨P,am,by omega⟩
   refine H3 ?_;refine N3 (B (show f<F+1 by omega) S ad M I _ _ (Z1 kids) ⟨rfl,rfl,T0⟩) eU rfl rfl rfl ?_ ?_
   ·(rintro e ob' ⟨m,rfl⟩;rw[O]at m;cases m)
   rintro _ _ ⟨bf,j',m,rfl,rfl⟩;rw[O]at m;cases m;refine B2 (B7 (c:=C7) (ys:=[j]) (C0 A0 A0 A0 A0 D2) A0 A0 A0) A0 (C2 (W4 A0 (by rw[C];exact RV U V) A0 (.pure _ _ _ _) PH ao) A0 ?_);refine F5 ?_;refine uI ?_;refine⟨(f,kids++[j],sd),⟨av,by dsimp only;omega,by dsimp only;rw[g4.dep];exact M,by simp only[C40,C46,List.length_nil];omega,by dsimp only;omega,v⟩,by dsimp only;omega,?_⟩;dsimp only;refine C04 ⟨i6 (show D5 (Fr.forget a _) 0=_ from j4 A0 (aG w.k8 a y)),i6 rfl,trivial⟩ (B0 W) b7w ?_;rw[C];exact vS U V y w RU
theorem B68{n:Nat}{s:Str}{st:PSt}(hs:SOk s st)(hn:st.nodes.length<=st.at_)(hd:st.depth+n=50)(S:st.at_+1<=s.length){F:Nat}(E:U8 s G6 F st≠.error 0)
  (J:∀m f st',n=m+1->f<F->SOk s st'->st'.nodes.length<=st'.at_->st'.depth+m=50->dA s G6 f st'≠.error 0->PX 63 [H1] (kF (m+1)) s st' (dA s G6 f st') aE) :
  PX 194 [H1] (kF n) s st (U8 s G6 F st) aE:=by
 intro gf ob Z N;obtain⟨K,W⟩:∃K,K=kF n:=⟨_,rfl⟩
 rw[<-W]at N ⊢;have U:=N.z.self;have I:=hs.len;obtain⟨R,w⟩:∃R,R=U8 s G6 F st:=⟨_,rfl⟩
 rw[<-w]at E ⊢;obtain⟨F,rfl⟩:∃G,F=G+1:=by
  cases F with
  | zero=>exact absurd (by rw[w,U8]) E
  | succ g=>exact⟨g,rfl⟩
 rw[U8]at w;refine MetX.introH Tryz.func194 F1 rfl rfl rfl (fun M=>?_);refine C3 (aF (l:=[(0,.s H1)]) N ⟨i6 rfl,trivial⟩ M J6) ?_;refine zc 13 (fun C=>?_) fun C=>?_
 ·have D:st.depth=50:=by have:=A1 C;omega
  rw[A6 D]at w;skip;refine F5 ?_;refine P9 A0 ?_;exact I1 J6 U.pobs ⟨w,rfl⟩
 have D:¬st.depth=50:=by have:=A3 C;omega
 rw[A7 D]at w;obtain⟨m,rfl⟩:∃m,n=m+1:=⟨n-1,by omega⟩
 obtain⟨st1,v⟩:∃st1,st1=({ st with at_:=st.at_+1,depth:=st.depth+1 }:PSt):=⟨_,rfl⟩
 rw[<-v]at w;have L:SOk s st1:=by rw[v];exact⟨I,S,by dsimp only;omega⟩
 have T:st1.nodes.length<=st1.at_:=by rw[v];dsimp only;omega
 have P:st1.depth+m=50:=by rw[v];dsimp only;omega
 refine zz 24 ?_;refine C3 (fr':=[(0,.s H1)]++B4 K gf) (ob':=PObs s st1 Z) (C04 ⟨i6 rfl,trivial⟩ (B0 M) J6 (by rw[v];exact P3 (K:=K) (st:={ st with at_:=st.at_+1,depth:=st.depth+1 }) ⟨rfl,rfl,T0⟩)) ?_;have H:=J m F st1 rfl (Nat.lt_succ_self F) L T P;rw[<-W]at H;cases B:dA s G6 F st1 with
 | error e0 =>
  rw[B]at w;have A:dA s G6 F st1≠.error 0:=fun h=>E (by rw[B]at h;rw[w,h]);refine F5 ?_;refine N3 (H A _ _ Z ⟨rfl,rfl,T0⟩) eU rfl rfl rfl ?_ ?_
  ·(rintro e ob' ⟨j,rfl⟩;rw[B]at j;cases j;exact I1 J6 (fun _ _ h=>h) ⟨w,rfl⟩)
  rintro _ _ ⟨_,_,j,_,_⟩;rw[B]at j;cases j
 | ok q =>
  obtain⟨d,k⟩:=q;rw[B]at w;dsimp only at w;have A:dA s G6 F st1≠.error 0:=fun h=>by rw[B]at h;cases h
  obtain⟨V,_⟩:=(Y6 (s:=s) F).pat L.at_ B;have ab:=V.dep;have ac:=V.len;have e1:st1.depth=st.depth+1:=by rw[v]
  have Y:(d.depth:Int)-1=((d.depth-1:Nat):Int):=by omega
  refine F5 ?_;refine N3 (H A _ _ Z ⟨rfl,rfl,T0⟩) eU rfl rfl rfl ?_ ?_
  ·(rintro e ob' ⟨j,rfl⟩;rw[B]at j;cases j)
  rintro _ _ ⟨X,k',j,rfl,rfl⟩;rw[B]at j;cases j;refine F5 ?_;refine V7 ?_;rw[Y];obtain⟨y,x⟩:∃y,y=({ d with depth:=d.depth-1 }:PSt):=⟨_,rfl⟩
  refine C3 (fr':=[(0,.s H1),(3,I7 (.int .i64 k))]++B4 K gf) (ob':=PObs s y Z) (C04 lf (B0 M) J6 (by rw[x];exact P3 (K:=K) (st:={ d with depth:=d.depth-1 }) ⟨rfl,rfl,T0⟩)) ?_;have O:y.at_=d.at_:=by rw[x]
  refine P1 ?_;refine O4 (aY s y.at_ y.depth 41 B1 B1 A0) A0 A0 A0 (F5 ?_);rw[O];by_cases hb:s[d.at_]?=some 41
  ·have Q:O1 s 41 d=true:=A4 hb;rw[A6 Q]at w;rw[A4 hb,A6 hb];refine zc 0 (fun C=>?_) fun C=>?_
   ·cases C
   refine I3 ?_;refine J5 V9 J6 (P3 (K:=K) (st:={ d with at_:=d.at_+1,depth:=d.depth-1 }) ⟨?_,?_,T0⟩) ⟨_,_,w,rfl,rfl⟩
   ·rw[x];rfl
   ·rw[x];rfl
  ·have Q:¬O1 s 41 d=true:=fun h=>hb (A1 h);rw[A7 Q]at w;rw[A5 hb,A7 hb];refine zc 0 (fun C=>?_) fun C=>?_;rotate_left
   ·cases C
   skip;refine F5 ?_;refine P9 A0 ?_;exact I1 J6 ((((U.cons (i:=811) (.inr U.k8.h811)).cons (i:=810) (.inl rfl)).cons (i:=810) (.inl rfl)).sub) ⟨w,rfl⟩
structure PxAll (s:Str) (F:Nat):Prop where
 pat:∀n st,st.depth+n=50->SOk s st->st.nodes.length<=st.at_->dA s G6 F st≠.error 0->PX 63 [H1] (kF (n+1)) s st (dA s G6 F st) aE
 paren:∀n st,st.depth+n=50->SOk s st->st.nodes.length<=st.at_->st.at_+1<=s.length->U8 s G6 F st≠.error 0->PX 194 [H1] (kF n) s st (U8 s G6 F st) aE
theorem XC(s:Str):∀(B F:Nat),F<B->F<=5000->PxAll s F
 | 0,_,h,_=>by omega
 | B+1,F,h,hF=>⟨fun n st c g i j=>pat_px B1 g i c hF j fun f st' o u q k l b=>(XC s B f B1 B1).paren n st' k u q l b,
  fun n st c g i j o=>B68 g i c j o fun m f st' _ q k l b d=>(XC s B f B1 B1).pat m st' b k l d⟩
abbrev PI(s:Str)(a d:Nat)(e:Int):Ob:=.box [.p (.v (.string ⟨s.toArray⟩)),.p (.v (.int .i64 a)),.p (.v (.int .i64 d)),.mut 811,.p (.v (.int .i64 e))]
abbrev RObs(s:Str)(st:PSt)(e:Int)(Z:Obs):Obs:=(810,PI s st.at_ st.depth e)::(811,eR st.nodes)::Z
structure RIn (K:List Nat) (s:Str) (st:PSt) (e:Int) (Z ob:Obs):Prop where
 h0:B5 ob 810=some (PI s st.at_ st.depth e)
 h1:B5 ob 811=some (eR st.nodes)
 z:ZOk K Z ob
abbrev postR{α:Type}(s:Str)(d:Nat)(R:Ps α)(sv:α->List S1)(Z:Obs):List S1->Obs->Prop:=fun a ob'=>∃st' e v,ob'=RObs s st' e Z/\a=sv v/\((e=0/\R=.ok (st',v))\/(e≠0/\R=.error e/\st'.at_+d<=s.length+60/\d<=st'.depth/\st'.depth<=60))
def RX{α:Type}(f:FuncId)(a:List S1)(K:List Nat)(s:Str)(st:PSt)(R:Ps α)(sv:α->List S1):Prop :=
 ∀(gf:Fr) (ob Z:Obs),RIn K s st 0 Z ob->AL.Met prog f a gf ob K (postR s st.depth R sv Z)
theorem U5{K:List Nat}{s:Str}{st:PSt}{e:Int}{Z b:Obs}(c:RIn K s st e Z b):∀k o,B5 (RObs s st e Z) k=some o->B5 b k=some o:=fun k o a=>by
 by_cases d:810=k
 ·subst d;rw[B3]at a;cases a;exact c.h0
 rw[A8 d]at a;by_cases f:811=k
 ·subst f;rw[B3]at a;cases a;exact c.h1
 rw[A8 f]at a;exact c.z.sub k o a
theorem EH{K:List Nat}{s:Str}{st:PSt}{e:Int}{Z ob:Obs}(b:RIn K s st e Z ob){nt:Nat}{fr l gf:Fr}(c:FrLe fr l)(a:High gf)(d:Tail gf fr):Sees prog nt fr ob (l++B4 K gf) (RObs s st e Z) :=
 C22 K c a d (U5 b)
theorem ZOk.rin{K:List Nat}{s:Str}{st:PSt}{e:Int}{Z:Obs}(h:ZOk K Z Z):ZOk K Z (RObs s st e Z):=(h.cons (i:=811) (.inr h.k8.h811)).cons (i:=810) (.inl rfl)
theorem RIn.start{K:List Nat}{s:Str}{st:PSt}{e:Int}{Z:Obs}(h:ZOk K Z Z):RIn K s st e Z (RObs s st e Z):=⟨rfl,rfl,h.rin⟩
theorem dX{gf:Fr}{ob:Obs}(s:Str)(a d:Nat)(e:Int)(c:UInt8)(l:s.length<=1000)(f:B5 ob 810=some (PI s a d e)) :
  AL.Met prog 138 [H1,m7 c] gf ob [] (fun k ob'=>k=[oA (decide (s[a]?=some c))]/\ob'=ob):=by
 have i:a<s.length->s[((a:Nat):Int).toNat]?=some (s.getD a 0):=fun h=>by rw[C37,C38,C36 h];rfl
 refine AL.Met.intro Tryz.func138 F1 A0 A0 A0 (Z2 ?_);refine D6 (E7 A0 f A0) A0 A0 (H3 ?_);refine D6 (E7 A0 f A0) A0 A0 (J0 ?_);refine F9 A0 A0 (fun b=>by rw[b];exact E7 A0 f A0) A0 A0 ?_;refine H3 ?_;refine F9 A0 A0 (fun b=>by rw[b];exact E7 A0 f A0) A0 A0 ?_;refine F9 A0 A0 (fun b=>by have j:=b;(try simp at j);rw[b];exact G9 A0 A0 B1 (i B1)) A0 A0 ?_;refine J0 ?_;refine D1 V9 iV (fun _ _ h=>h) ⟨?_,rfl⟩;have hb:decide (s[a]?=some c)=(if decide ((a:Int)<s.length)=true then decide (((s.getD a 0).toNat:Int)=c.toNat) else false):=by
  by_cases h:a<s.length
  ·have g:=i h;rw[C37]at g;rw[g,A6 (A4 B1)];exact decide_eq_decide.2 ⟨fun e=>by rw[C85 e],fun e=>congrArg some (C89.1 B1)⟩
  ·rw[C63 B1,A7 (by rw[decide_eq_true_eq];omega)];exact A5 dV
 rw[hb]
theorem q9{gf:Fr}{ob:Obs}(s:Str)(a d:Nat)(e x:Int)(c:B5 ob 810=some (PI s a d e)) :
  AL.Met prog 91 [H1,P7 x] gf ob [] (fun rs ob'=>rs=[P7 0]/\ob'=(810,PI s a d (if e=0 then x else e))::ob):=by
 refine AL.Met.introH Tryz.func91 F1 rfl rfl rfl (fun f=>?_);refine C3 (C04 (l:=[(0,.s H1),(1,.s (P7 x))]) (ob':=(810,PI s a d e)::ob) lf f J6 (D3 (L:=[(810,_)]) ⟨c,trivial⟩ O3)) ?_;refine zc 13 (fun b=>?_) fun b=>?_
 ·have h:=A1 b;rw[A6 h];skip;refine x5 ?_;exact D1 V9 iV (D3 (L:=[(810,_)]) ⟨rfl,trivial⟩ PG) ⟨rfl,rfl⟩
 ·have h:=A3 b;rw[A7 h];refine J0 ?_;exact D1 V9 iV (fun _ _ h=>h) ⟨rfl,rfl⟩
theorem JU{gf:Fr}{ob:Obs}(s:Str)(a d:Nat)(e:Int)(l:List AL.Node)(n:AL.Node)(x:l.length<=1000)(m:B5 ob 810=some (PI s a d e))(q:B5 ob 811=some (eR l)) :
  AL.Met prog 139 [H1,(bY n).s1] gf ob [811] (fun w ob'=>w=[P7 l.length]/\ob'=(810,PI s a d e)::(811,eR (l++[n]))::Obs.forget 811 ob):=by
 refine AL.Met.introH Tryz.func139 F1 rfl rfl rfl (fun k=>?_);refine C3 (C05 811 (l:=[(0,.s H1),(1,.s (bY n).s1)]) (L:=[(810,_),(811,_)]) lf k J6 ⟨m,q,trivial⟩) ?_;refine J0 ?_;refine C3 (C04 (gf':=Fr.forget 811 gf) (l:=[(0,.s H1),(3,.s (.one (.eref Unit 8 (fun _ j=>(cellsOf P5 n 0 8).getD j (.v undef)) () 0)))]) (ob':=[(810,PI s a d e),(811,eR l)]++Obs.forget 811 ob) lf (eL k) J6 (fun _ _ h=>h)) ?_;refine N7 [10,7] [[],[7],[10,7]] [(7,([811],[9])),(10,([],[]))] [(0,[]),(1,[]),(2,[]),(3,[]),(4,[]),(5,[]),(6,[]),(7,[]),(8,[7]),(9,[7]),(10,[7])] [(0,[7])] E4 E4 (C6 A0 A0 E4 A0 A0 (C9 A0 A0) (C6 A0 A0 E4 A0 A0 (C9 A0 A0) (C6 A0 A0 E4 A0 A0 (F3 A0) (C6 A0 A0 E4 A0 A0 (F4 A0) (C6 A0 A0 E4 A0 A0 (E7 A0 A0 A0) (C6 A0 A0 E4 A0 A0 (W8 A0 A0) (C6 A0 A0 E4 A0 A0 (B7 (c:=P5) (ys:=[n]) (C0 A0 A0 A0 A0 D2) A0 A0 A0) (Z4 A0 A0 E4 A0 A0 (mL (fun i b=>R4 (S7 b A0) A0 (S7 b A0) (.pure _ _ _ _) PH A0)) A0 (C6 A0 A0 E4 A0 A0 (F3 A0) (C6 A0 A0 E4 A0 A0 (F4 A0) (Z4 A0 A0 E4 A0 A0 (gV (fun i b=>K5 TySz.out (S7 b A0) A0 (S7 b A0) A0 A0 A0)) A0 ?_)))))))))));refine tE (ks:=[811]) rfl E4 rfl ?_ ?_
 ·refine G4 A0 A0 E4 A0 A0 (C9 A0 A0) ?_;exact lA
 refine I3 ?_;refine B2 (aM A0 A0 b6y) A0 (H3 ?_);refine D1 V9 b1x (D3 (L:=[(810,_),(811,_)]) ⟨rfl,rfl,trivial⟩ b4x) ⟨?_,rfl⟩;rw[C40,C51]
 congr 5
 omega
theorem gG{K:List Nat}{s:Str}{st:PSt}{e:Int}(b:AL.Node)(f:st.nodes.length<=1000){gf:Fr}{ob Z:Obs}(a:RIn K s st e Z ob) :
  AL.Met prog 139 [H1,(bY b).s1] gf ob K (fun d ob'=>d=[P7 (X8 b st).2]/\ob'=RObs s (X8 b st).1 e Z) :=
 (AL.Met.more (JU s st.at_ st.depth e st.nodes b f a.h0 a.h1) (EB a.z.k8)).conv fun d ob' g=>by
  obtain⟨rfl,rfl⟩:=g;exact⟨_,⟨rfl,rfl⟩,U5 ⟨rfl,rfl,((a.z.fgt a.z.k8.h811).cons (.inr a.z.k8.h811)).cons (.inl rfl)⟩⟩
theorem RW(s:Str)(i:Nat)(c:i<=s.length):∃(L:Int) (N:Nat) (b:Bool),tM s i=[C8 L,C8 N,E1 b]/\G6 s i=(if b=true then some (L,N) else none)/\(b=false->L=0/\N=0)/\N<=s.length:=by
 unfold tM G6;cases a:fE (s.drop i) with
 | none=>exact⟨0,0,false,rfl,rfl,fun _=>⟨rfl,rfl⟩,C41 _⟩
 | some p =>
  obtain⟨m,k⟩:=p;have h:=(A82 a).2.2.2.1;rw[C61]at h;exact⟨m,i+k,true,rfl,rfl,(fun h=>by cases h),by omega⟩
theorem RY{gf:Fr}{ob:Obs}(s:Str)(a d:Nat)(ha:a+1<=s.length)(hs:s.length<=1000)(X:B5 ob 810=some (PI s a d 0)) :
  AL.Met prog 192 [H1] gf ob [] (fun W ob'=>if qA s (yR s (a+1)) then W=[P7 (yR s (a+1)).1,P7 (yR s (a+1)).2.2.2]/\ob'=(810,PI s (yR s (a+1)).2.1 d 0)::ob else W=[P7 0,P7 0]/\ob'=(810,PI s a d 40)::ob):=by
 have V:∀n:Nat,n<s.length->s[((n:Nat):Int).toNat]?=some (s.getD n 0):=fun n h=>by rw[C37,C38,C36 h];rfl
 have j:∀n:Nat,n<s.length->s[n]?=some (s.getD n 0):=fun n h=>by rw[C38,C36 h];rfl
 have P:∀(c k:UInt8),(c.toNat:Int)=k.toNat->c=k:=fun c k e=>C89.1 B1;obtain⟨L,N,b,hR,Y,K,hN⟩:=RW s (a+1) ha;have y:=DY s (a+1) ha B1;rw[hR]at y;obtain⟨m,U⟩:∃m,m=yR s (a+1):=⟨_,rfl⟩
 rw[<-U];have f:=U;unfold yR at f;rw[Y]at f;refine AL.Met.introH Tryz.func192 F1 rfl rfl rfl (fun C=>?_);refine C3 (C04 (l:=[(0,.s H1)]) (ob':=(810,PI s a d 0)::ob) ⟨i6 rfl,trivial⟩ C J6 (D3 (L:=[(810,_)]) ⟨X,trivial⟩ O3)) ?_;refine zz 16 ?_;refine D6 (I5 (y) A0 A0) A0 A0 (zz 32 ?_);refine D7 A0 A0 A0 A0 (fun u=>by have B:=u;(try simp at B);rw[u];exact G9 A0 A0 B1 (V N B1)) ?_;refine H3 ?_;refine U9 ([(0,.s H1),(4,B6 m.1),(5,B6 m.2.1),(6,L6 m.2.2.1),(7,B6 m.2.2.2)]++gf) ((810,PI s a d 0)::ob) ?_ ?_
 ·skip;refine zc 0 (fun g=>?_) fun g=>?_
  ·rw[P4,P4,C39,C39,decide_eq_true_eq,decide_eq_true_eq]at g;obtain⟨⟨A,r⟩,hc⟩:=g;have r:N<s.length:=by omega
   have i:s[N]?=some 44:=by rw[j N r,P _ 44 hc]
   rw[A6 A]at f;dsimp only at f;rw[A6 i]at f;refine zz 25 ?_;refine D7 A0 A0 A0 A0 (fun u=>by have B:=u;(try simp at B);rw[u];exact G9 A0 A0 B1 (by rw[show ((N:Int)+1).toNat=N+1 by omega];exact j (N+1) B1)) ?_;refine zc 3 (fun g=>?_) fun g=>?_
   ·rw[P4,C39,decide_eq_true_eq,decide_eq_true_eq]at g;obtain⟨Z,O⟩:=g;have x:¬s.getD (N+1) 0=125:=fun e=>O (by rw[e];rfl);rw[A6 ⟨by omega,x⟩]at f;obtain⟨H,N2,Q,J,G,M,T⟩:=RW s (N+1) B1;have z:=DY s (N+1) B1 B1;rw[J]at z;rw[G]at f;skip;refine J0 ?_;refine E2 (z) (R3 ?_);have p:m=(L,N2,Q,H):=by
     rw[f];cases Q with
     | true=>rfl
     | false=>obtain⟨rfl,rfl⟩:=M rfl;rfl
    rw[p];refine uI ?_;exact (C04 lf C J6 (fun _ _ h=>h))
   ·have p:m=(L,N+1,b,-1):=by
     rw[f,A7,A];rintro⟨g1,v⟩;rw[P4,D05,decide_eq_false_iff_not,decide_eq_false_iff_not]at g;rcases g with h | h
     ·omega
     ·exact h fun e=>v (P _ 125 e)
    rw[p];refine G5 ?_;exact (C04 lf C J6 (fun _ _ h=>h))
  ·have p:m=(L,N,b,L):=by
    rw[f];cases b with
    | false =>
     obtain⟨rfl,rfl⟩:=K rfl;rfl
    | true =>
     rw[A6 rfl];dsimp only;rw[A7];intro i;have r:=(C44.1 i).1;rw[j N r]at i;rw[P4,P4,C84,D05,decide_eq_false_iff_not,decide_eq_false_iff_not]at g;rcases g with h | h
     ·omega
     ·exact h (by rw[C85 i];rfl)
   rw[p];refine G5 ?_;exact (C04 lf C J6 (fun _ _ h=>h))
 obtain⟨lo,q,ok,D⟩:=m;dsimp only;refine zz 20 ?_;refine D7 A0 A0 A0 A0 (fun u=>by have B:=u;(try simp at B);rw[u];exact G9 A0 A0 B1 (V q B1)) ?_;refine zc 20 (fun g=>?_) fun g=>?_
 ·have I:¬qA s (lo,q,ok,D):=by
   rintro⟨g1,v,E,R,F⟩;dsimp only at g1 v E R F;have w:=(C44.1 v).1;rw[j q w]at v;have S:((s.getD q 0).toNat:Int)=125:=by rw[C85 v];rfl
   simp only[x7,P4]at g;simp only[g1,Bool.not_true,C67,C39,decide_eq_true_eq]at g;rcases g with ((((h | h) | h) | h) | h) | h
   ·cases h
   ·omega
   ·exact h S
   ·omega
   ·omega
   ·exact F h
  refine H3 ?_;refine O4 (q9 s a d 0 40 A0) A0 A0 A0 (G5 ?_);rw[A6 rfl];refine J0 ?_;exact D1 (ob':=(810,PI s a d 40)::ob) b0z iV (D3 (L:=[(810,_)]) ⟨rfl,trivial⟩ PG) (by show (if qA s (lo,q,ok,D) then _ else _);rw[A7 I];exact⟨rfl,rfl⟩)
 ·have I:qA s (lo,q,ok,D):=by
   simp only[x7,P4]at g;simp only[C86,D05,Bool.not_eq_false',decide_eq_false_iff_not]at g;obtain⟨⟨⟨⟨⟨g1,v⟩,E⟩,R⟩,F⟩,S⟩:=g;have w:q<s.length:=by omega
   refine⟨g1,?_,by dsimp only;omega,by dsimp only;omega,by dsimp only;omega⟩;dsimp only;rw[j q w,P _ 125 (C75.1 E)]
  refine zz 17 ?_;exact D1 (ob':=(810,PI s q d 0)::ob) b0z iV (D3 (L:=[(810,_)]) ⟨rfl,trivial⟩ PG) (by show (if qA s (lo,q,ok,D) then _ else _);rw[A6 I];exact⟨rfl,rfl⟩)
abbrev EI(A:AL.Auto):Unit->Nat->Cell:=fun _ j=>[Cell.list AL.State 7 iM A.States,Cell.v (.int .i64 A.Start)].getD j (.v undef)
theorem XD(A:AL.Auto)(u:AG A):FnOk prog 87 [lQ A] (fun rs=>rs=[C8 0]):=by
 obtain⟨z,B⟩:=u.len;have m:=u.start;obtain⟨n,C⟩:∃n,n=A.States.length:=⟨_,rfl⟩
 have j:=u.good;rw[<-C]at z B m j;refine FnOk.intro Tryz.func87 F1 A0 A0 A0 A0 (O6 ?_);refine C2 (H9 3 A0) A0 (Z2 ?_);have h:decide ((n:Int)<1)=false:=A5 B1;have d:decide ((8000:Int)<n)=false:=A5 B1;have y:decide (0<=A.Start/\A.Start<(n:Int))=true:=A4 m;rw[<-C];refine P1 ?_;refine G7 A0 A0 A0 h (G5 ?_);refine G7 A0 A0 A0 h (G5 ?_);refine B2 (Y2 A0 (h) A0) A0 (G5 ?_);refine G7 A0 A0 A0 d (G5 ?_);refine G7 A0 A0 A0 d (G5 ?_);refine G7 A0 A0 A0 d (G5 ?_);refine G7 A0 A0 A0 d (tC (pE A.Start n A0) A0 A0 A0 A0 ?_);rintro _ _ ⟨rfl,rfl⟩;refine G7 A0 A0 A0 d (G5 ?_);refine B2 (Y2 A0 (d) A0) A0 (G5 ?_);rw[y];refine zc 0 (fun a=>?_) fun a=>?_
 ·cases a
 refine O6 ?_;refine B9 (X:=Nat) (fun i=>([(3,.s (.one (.ref 3 0))),(4,.s (.one (.clo 130 [] [(3,0)]))),(26,.s (A35 A.States).s1),(27,B6 n),(28,B6 i)],[(3,.box [.p (.v (.int .i64 n))])])) (fun i=>i<=n) (fun i=>n-i) 0 (C41 _) (Sees.of ⟨i6 rfl,i6 rfl,i6 rfl,leE A0 (by first | (simp;done) | (simp;omega)),i6 rfl,trivial⟩ ⟨rfl,trivial⟩) ?_;intro i I;dsimp only at I ⊢;refine zc 5 (fun a=>?_) fun a=>?_
 ·have k:i<n:=Int.ofNat_lt.1 (A1 a);obtain⟨q,J⟩:∃q,q=A.States[i]'B1:=⟨_,rfl⟩
  have K:A.States[i]?=some q:=by rw[J];exact C36 B1
  have M:=dP (j q (C60 K));obtain⟨b,hb⟩:∃b,b=decide (0<=q.Next/\q.Next<(n:Int)):=⟨_,rfl⟩
  have g:¬q.Kind=4->b=true:=fun L=>by rw[hb];exact A4 B1
  refine I3 ?_;refine C2 (H9 6 A0) A0 (I3 ?_);refine tC (pE q.Next n A0) A0 A0 A0 A0 ?_;rintro _ _ ⟨rfl,rfl⟩;refine F5 ?_;rw[<-hb];refine J0 ?_;refine U9 [(3,.s (.one (.ref 3 0))),(4,.s (.one (.clo 130 [] [(3,0)]))),(26,.s (A35 A.States).s1),(27,B6 n),(28,B6 i),(7,L6 true)] [(3,.box [.p (.v (.int .i64 n))])] ?_ ?_
  ·refine zc 7 (fun a=>?_) fun a=>?_
   ·rw[g (by have:=A1 a;omega)];refine zc 1 (fun a=>?_) fun a=>?_
    ·refine G5 ?_;exact C1
    ·exact absurd (A1 aT) (A3 a)
   have D:¬q.Kind=0:=A3 a;refine zc 5 (fun a=>?_) fun a=>?_
   ·rw[g (by have:=A1 a;omega)];refine zc 1 (fun a=>?_) fun a=>?_
    ·refine G5 ?_;exact C1
    ·exact absurd (A1 aT) (A3 a)
   have E:¬q.Kind=2:=A3 a;skip;refine zc 4 (fun a=>?_) fun a=>?_
   ·rw[g (by have:=A1 a;omega)];refine G5 ?_;exact C1
   have F:¬q.Kind=3:=A3 a;refine zc 5 (fun a=>?_) fun a=>?_
   ·skip;have w:q.Kind=1:=A1 a;have H:decide (0<=q.Other/\q.Other<(n:Int))=true:=A4 B1;rw[g B1];refine H3 ?_;refine G7 A0 A0 A0 A0 (G5 ?_);refine G7 A0 A0 A0 A0 (G5 ?_);refine G7 A0 A0 A0 A0 (G5 ?_);refine G7 A0 A0 A0 A0 (tC (pE q.Other n A0) A0 A0 A0 A0 ?_);rintro _ _ ⟨rfl,rfl⟩;refine H3 ?_;rw[H];refine uI ?_;exact C1
   have w:¬q.Kind=1:=A3 a;refine zc 5 (fun a=>?_) fun a=>?_
   ·skip;refine H3 ?_;exact C1
   have G:¬q.Kind=4:=A3 a;exfalso;omega
  refine zc 5 (fun a=>?_) fun a=>?_
  ·cases a
  refine I2 ?_;exact⟨i+1,Nat.succ_le_of_lt k,Nat.sub_lt_sub_left k (Nat.lt_succ_self i),C1⟩
 refine J0 ?_;exact A9 (rs:=[C8 0]) M1 rfl
abbrev macG(A:AL.Auto)(s:Str)(a:Nat)(x y:TC):Ob:=.box [.p (.list AL.State 7 iM A.States),.p (.v (.int .i64 A.Start)),.p (.v (.string ⟨s.toArray⟩)),.p (.v (.int .i64 a)),x,y]
abbrev iC(A:AL.Auto)(s:Str)(a:Nat):Ob:=macG A s a (.mut 831) (.mut 832)
abbrev fJ:S1:=.one (.ref 830 0)
abbrev EJ(l:List AL.Thread):Ob:=.grow 202 AL.Thread 2 z8 l
abbrev zQ(l:List Bool):Ob:=.arr Bool 1 M8 l
abbrev pThr(t:AL.Thread):PV:=.agg [.v (.int .i64 t.state),.v (.int .i64 t.from_)]
theorem qR{p:Prop}(h:p:=by (first | omega | decide)):p:=h
theorem XE(A:AL.Auto)(s:Str)(f:AG A):AL.Met prog 131 [(lQ A).s1,.one (.p (.v (.string ⟨s.toArray⟩))),P7 0] [] [] []
  (fun rs ob'=>rs=[fJ]/\ob'=[(830,macG A s 0 (.p (.v (.slice none 0 0))) (.mut 832)),(832,zQ (List.replicate A.States.length false))]):=by
 have j:=f.len;refine AL.Met.intro Tryz.func131 F1 A0 A0 A0 (J0 ?_);refine N7 [8,6] [[],[6],[8,6]] [(6,([832],[])),(8,([830],[]))] [(0,[]),(1,[]),(2,[]),(3,[]),(4,[]),(5,[]),(6,[]),(7,[6]),(8,[6]),(9,[8,6])] [(0,[6]),(1,[6]),(2,[6])] E4 E4 (C6 A0 A0 E4 A0 A0 (W8 A0 A0) (C6 A0 A0 E4 A0 A0 (C9 A0 A0) (C6 A0 A0 E4 A0 A0 (C9 A0 A0) (C6 A0 A0 E4 A0 A0 (H0 A0) (C6 A0 A0 E4 A0 A0 (H6 A0 A0) (C6 A0 A0 E4 A0 A0 (uL A0 (.pure _ _ _ _)) (Z4 A0 A0 E4 A0 A0 (uW (fun b a d=>a8 832 Bool M8 false (S7 a A0) (S7 a A0) qR qR (fun _=>PE) (by rw[d];rfl))) A0 ?_)))))));refine C6 A0 A0 E4 A0 A0 (uO A0) (Z4 A0 A0 E4 A0 A0 (uW (fun b a d=>w9 830 (S7 a A0) A0 (by rw[d];rfl))) A0 ?_);refine C6 A0 A0 E4 A0 A0 (uJ A0 A0) ?_;refine CQ E4 rfl ?_ ?_
 ·refine G4 A0 A0 E4 A0 A0 (W8 A0 A0) (G4 A0 A0 E4 A0 A0 (C9 A0 A0) (G4 A0 A0 E4 A0 A0 (C9 A0 A0) ?_));exact lA
 refine G5 ?_;exact D1 V9 b4y (fun _ _ h=>h) ⟨rfl,by rw[C37];rfl⟩
theorem b0x{p:Prop}(h:p:=by repeat (first | exact O3 | refine U3 rfl ?_ | refine H7 (by assumption) ?_ | refine WJ _ rfl ?_)):p:=h
theorem b8x{p:Prop}(h:p:=by repeat (first | exact O3 | refine U3 rfl ?_ | refine WJ _ rfl ?_)):p:=h
theorem b9x{p:Prop}(h:p:=by dsimp only;omega):p:=h
theorem JV{gf:Fr}{ob:Obs}(A:AL.Auto)(s:Str)(Z:AG A)(a:Nat)(q fr:Int)(m0 R:Mach)(S:MG A m0)(hq:0<=q/\q<A.States.length)(ad:wU A s a ⟨q,fr⟩ m0=R)
  (h0:B5 ob 830=some (iC A s a))(h1:B5 ob 831=some (EJ m0.1))(h2:B5 ob 832=some (zQ m0.2))(h3:B5 ob 834=none) :
  AL.Met prog 132 [fJ,(pThr ⟨q,fr⟩).s1] gf ob [831,834] (fun rs ob'=>rs=[]/\ob'=(830,iC A s a)::(831,EJ R.1)::(832,zQ R.2)::G8 [831,834] ob):=by
 obtain⟨am,an⟩:=Z.len;refine AL.Met.introH Tryz.func132 F1 rfl rfl rfl (fun H=>?_);refine C3 (C05 831 (l:=[(0,.s fJ),(1,.s (pThr ⟨q,fr⟩).s1)]) (L:=[(830,_),(831,_),(832,_)]) lf H J6 ⟨h0,h1,h2,trivial⟩) ?_;refine C3 (Sees.forget 834) (C3 (C04 (gf':=B4 [831,834] gf) (l:=[(0,.s fJ),(1,.s (pThr ⟨q,fr⟩).s1)]) (ob':=[(830,iC A s a),(831,EJ m0.1),(832,zQ m0.2)]++G8 [831,834] ob) lf (B0 H) kT (D3 (L:=[(830,_),(831,_),(832,_)]) ⟨rfl,rfl,rfl,trivial⟩ PG)) ?_);have ae:B5 (G8 [831,834] ob) 834=none:=d9 h3;refine R3 ?_;refine C2 (A54 834 (c:=C7) (ys:=[q]) (C0 A0 A0 A0 A0 D2) A0 A0 A0 ae A0) A0 (H3 ?_);refine B9 (X:=Nat×List Int×Mach) (fun x=>([(0,.s fJ),(3,.s (.one (.eref Unit 2 (fun _ j=>[Cell.v (.int .i64 q),Cell.v (.int .i64 fr)].getD j (.v undef)) () 0))),(4,.s (.one (.mut 834)))]++B4 [831,834] gf,[(830,iC A s a),(831,EJ x.2.2.1),(832,zQ x.2.2.2),(834,.grow 3 Int 1 C7 x.2.1)]++G8 [831,834] ob)) (fun x=>TW x.2.1 x.2.2<x.1/\fV A s a fr x.1 x.2.1 x.2.2=R/\TW x.2.1 x.2.2<=24001/\MG A x.2.2/\∀k∈x.2.1,0<=k/\k<A.States.length) (fun x=>TW x.2.1 x.2.2) (3*A.States.length+2,[q],m0) ?_ ?_ ?_
 ·have h6:=S.cnt;refine⟨?_,ad,?_,S,fun k hk=>by rw[C42.1 hk];exact hq⟩
  ·unfold TW;simp only[C51];omega
  ·unfold TW;simp only[C51];omega
 ·exact C04 lf (B0 H) kT (D3 (L:=[(830,_),(831,_),(832,_),(834,_)]) ⟨rfl,rfl,rfl,rfl,trivial⟩ b8x)
 rintro⟨f,d,m⟩ ⟨hf,V,T,P,I⟩;dsimp only at hf V T P I ⊢;have ao:d.length<=24001:=by unfold TW at T;omega
 have ak:=P.cnt;have ar:=P.sl;refine zc 7 (fun J=>?_) fun J=>?_;rotate_left
 ·have aj:d=[]:=List.length_eq_zero_iff.1 (by have:=A3 J;omega);rw[aj,LB]at V;rw[V];refine G5 ?_;exact V6 (iZ rfl) kT (D3 (L:=[(830,_),(831,_),(832,_)]) ⟨rfl,rfl,rfl,trivial⟩ b0x) ⟨rfl,rfl⟩
 have F:0<d.length:=by have:=A1 J;omega
 obtain⟨i,hi⟩:∃i,d.getLast?=some i:=by
  cases h:d.getLast? with
  | none=>rw[List.getLast?_eq_none_iff]at h;rw[h]at F;cases F
  | some i=>exact⟨i,rfl⟩
 obtain⟨_,af,ag⟩:=wY hi;obtain⟨g3,g4⟩:=I i ag;obtain⟨f',G,m',al,K,O,C,Q,E,y,z⟩:=AI s Z P I hf V hi;have ai:d[((d.length:Int)-1).toNat]?=some i:=by rw[show ((d.length:Int)-1).toNat=d.length-1 by omega];exact af
 have B:d.take ((d.length:Int)-1).toNat=d.dropLast:=by rw[List.dropLast_eq_take];congr 1;omega
 obtain⟨r,hr⟩:∃r,r=d.dropLast:=⟨_,rfl⟩
 have ap:r.length<=24001:=by rw[hr,List.length_dropLast];omega
 rw[<-hr]at B y z;obtain⟨b,hb⟩:∃b,b=J3 m.2 i.toNat:=⟨_,rfl⟩
 have ah:m.2[i.toNat]?=some b:=by rw[hb];exact YW (by rw[P.sl];omega)
 rw[<-hb]at y z;have au:=wW (A:=A) ⟨g3,g4⟩;refine Z2 ?_;refine B2 (eQ A0 A0 ai A0) A0 (V7 ?_);rw[B];refine Z2 ?_;refine B2 (M7 A0 A0 ah A0) A0 ?_;refine zc 1 (fun J=>?_) fun J=>?_
 ·obtain⟨U,W⟩:=y J;refine G5 ?_;refine⟨(f',G,m'),⟨O,K,b9x,Q,E⟩,C,?_⟩;rw[U,W];exact C04 lf (B0 H) kT (D3 (L:=[(830,_),(831,_),(832,_),(834,_)]) ⟨rfl,rfl,rfl,rfl,trivial⟩ b8x)
 obtain⟨U,W⟩:=z J;have ab:decide ((a:Int)=0)=decide (a=0):=decide_eq_decide.2 B1;have ac:decide ((a:Int)=(s.length:Int))=decide (a=s.length):=decide_eq_decide.2 B1;rw[<-ab,<-ac]at U;obtain⟨aq,_⟩:=wX Z ⟨g3,g4⟩ (decide ((a:Int)=0)) (decide ((a:Int)=(s.length:Int)));refine Z2 ?_;refine U0 (G3 TySz.out A0 A0 B1 A0 A0) (F5 ?_);refine C3 (C04 (gf':=B4 [831,834] gf) (l:=[(0,.s fJ),(3,.s (.one (.eref Unit 2 (fun _ j=>[Cell.v (.int .i64 q),Cell.v (.int .i64 fr)].getD j (.v undef)) () 0))),(4,.s (.one (.mut 834))),(5,B6 i)]) (ob':=[(830,iC A s a),(831,EJ m.1),(832,zQ (m.2.set i.toNat true)),(834,.grow 3 Int 1 C7 r)]++G8 [831,834] ob) lf (B0 H) kT (D3 (L:=[(830,_),(831,_),(832,_),(834,_)]) ⟨rfl,rfl,rfl,rfl,trivial⟩ b8x)) ?_;refine N7 [13,10] [[],[10],[13,10]] [(10,([831],[40])),(13,([],[]))] [(0,[]),(1,[]),(2,[]),(3,[]),(4,[]),(5,[]),(6,[]),(7,[]),(8,[]),(9,[]),(10,[]),(11,[10]),(12,[10]),(13,[10])] [(0,[10])] E4 E4 (C6 A0 A0 E4 A0 A0 (C9 A0 A0) (C6 A0 A0 E4 A0 A0 (C9 A0 A0) (C6 A0 A0 E4 A0 A0 (F3 A0) (C6 A0 A0 E4 A0 A0 (F4 A0) (C6 A0 A0 E4 A0 A0 (E7 A0 A0 A0) (C6 A0 A0 E4 A0 A0 (C9 A0 A0) (C6 A0 A0 E4 A0 A0 (H0 A0) (C6 A0 A0 E4 A0 A0 (H6 A0 A0) (C6 A0 A0 E4 A0 A0 (uO A0) (C6 A0 A0 E4 A0 A0 (B7 (c:=z8) (ys:=[⟨i,fr⟩]) (C0 A0 A0 A0 A0 D2) A0 A0 A0) (Z4 A0 A0 E4 A0 A0 (mL (fun Y M=>R4 (S7 M A0) A0 (S7 M A0) (.pure _ _ _ _) PH A0)) A0 (C6 A0 A0 E4 A0 A0 (F3 A0) (C6 A0 A0 E4 A0 A0 (F4 A0) (Z4 A0 A0 E4 A0 A0 (gV (fun Y M=>K5 TySz.out (S7 M A0) A0 (S7 M A0) A0 A0 A0)) A0 ?_))))))))))))));refine tE (ks:=[831,834]) rfl E4 rfl ?_ ?_
 ·refine G4 A0 A0 E4 A0 A0 (C9 A0 A0) ?_;exact lA
 refine uI ?_;refine C3 (C04 (gf':=B4 [831,834] gf) (l:=[(0,.s fJ),(3,.s (.one (.eref Unit 2 (fun _ j=>[Cell.v (.int .i64 q),Cell.v (.int .i64 fr)].getD j (.v undef)) () 0))),(4,.s (.one (.mut 834))),(5,B6 i)]) (ob':=[(830,iC A s a),(831,EJ (m.1++[⟨i,fr⟩])),(832,zQ (m.2.set i.toNat true)),(834,.grow 3 Int 1 C7 r)]++G8 [831,834] ob) lf (B0 H) kT (D3 (L:=[(830,_),(831,_),(832,_),(834,_)]) ⟨rfl,rfl,rfl,rfl,trivial⟩ b8x)) ?_;refine zz 25 ?_;refine D6 (I5 (B57 (R2 A i) (decide ((a:Int)=0)) (decide ((a:Int)=(s.length:Int)))) A0 A0) A0 A0 (UW (R4 A0 A0 A0 (.pure _ _ _ _) B1 A0) A0 A0 (F5 ?_));refine⟨(f',G,m'),⟨O,K,b9x,Q,E⟩,C,?_⟩;rw[U,W];exact C04 lf (B0 H) kT (D3 (L:=[(830,_),(831,_),(832,_),(834,_)]) ⟨rfl,rfl,rfl,rfl,trivial⟩ b8x)
end Go.Proofs.YtabbdaafimcjhaaGreatDoor
