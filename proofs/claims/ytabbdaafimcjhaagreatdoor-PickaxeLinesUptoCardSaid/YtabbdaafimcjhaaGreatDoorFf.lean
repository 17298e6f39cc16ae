
/- Walks of the program's functions. -/
import Derived.Test.YtabbdaafimcjhaaGreatDoorFe
set_option linter.all false
namespace Go.Proofs.YtabbdaafimcjhaaGreatDoor
open Go Go.AL
set_option maxRecDepth 100000
set_option maxHeartbeats 4000000
structure KOk (K:List Nat):Prop where
 h811:E5 K 811=true
 h810:E5 K 810=false
theorem nR{a b:Nat}(h:a≠b):Nat.beq a b=false:=P8 h
structure ZOk (K:List Nat) (Z ob:Obs):Prop where
 k8:KOk K
 sub:∀k o,B6 Z k=some o->B6 ob k=some o
 key:∀k o,B6 Z k=some o->k≠810/\E5 K k=false
 free:∀k o,B6 Z k=some o->∀j,E5 K j=true->o.free j=true
theorem ZOk.none{K:List Nat}{Z ob:Obs}(h:ZOk K Z ob){k:Nat}(a:k=810\/E5 K k=true):B6 Z k=none:=by
 cases d:B6 Z k with
 | none=>rfl
 | some o =>
  obtain⟨b,c⟩:=h.key k o d;rcases a with a | a
  ·exact absurd a b
  ·rw[c]at a;cases a
theorem ZOk.cons{K:List Nat}{Z ob:Obs}(h:ZOk K Z ob){i:Nat}{x:Ob}(c:i=810\/E5 K i=true):ZOk K Z ((i,x)::ob) where
 k8:=h.k8
 sub:=fun k o b=>by
  have a:i≠k:=fun e=>by
   subst e;rw[h.none c]at b;cases b
  rw[A8 a];exact h.sub k o b
 key:=h.key
 free:=h.free
theorem ZOk.consZ{K:List Nat}{Z ob:Obs}(h:ZOk K Z ob){i:Nat}{x:Ob}(c:B6 Z i=Option.none):ZOk K Z ((i,x)::ob) where
 k8:=h.k8
 sub:=fun k o b=>by
  have a:i≠k:=fun e=>by
   subst e;rw[c]at b;cases b
  rw[A8 a];exact h.sub k o b
 key:=h.key
 free:=h.free
theorem ZOk.self{K:List Nat}{Z ob:Obs}(h:ZOk K Z ob):ZOk K Z Z:=⟨h.k8,fun _ _ h=>h,h.key,h.free⟩
theorem ZOk.own{K:List Nat}{Z ob:Obs}(h:ZOk K Z ob){i:Nat}{x:Ob}(c:i≠810/\E5 K i=false)(d:∀j,E5 K j=true->x.free j=true)(b:B6 ob i=some x):ZOk K ((i,x)::Z) ob where
 k8:=h.k8
 sub:=fun k o a=>by
  by_cases e:i=k
  ·subst e;rw[B4]at a;cases a;exact b
  ·rw[A8 e]at a;exact h.sub k o a
 key:=fun k o a=>by
  by_cases e:i=k
  ·subst e;exact c
  ·rw[A8 e]at a;exact h.key k o a
 free:=fun k o a=>by
  by_cases e:i=k
  ·subst e;rw[B4]at a;cases a;exact d
  ·rw[A8 e]at a;exact h.free k o a
theorem ZOk.less{J K:List Nat}{Z ob:Obs}(h:ZOk K Z ob)(f:KOk J)(d:∀k,E5 J k=true->E5 K k=true):ZOk J Z ob where
 k8:=f
 sub:=h.sub
 key:=fun k o b=>by
  obtain⟨e,c⟩:=h.key k o b;refine⟨e,?_⟩;cases a:E5 J k
  ·rfl
  ·rw[d k a]at c;cases c
 free:=fun k o b j a=>h.free k o b j (d j a)
abbrev PObs(s:Str)(st:PSt)(Z:Obs):Obs:=(810,pU s st.at_ st.depth)::(811,dD st.nodes)::Z
structure PIn (K:List Nat) (s:Str) (st:PSt) (Z ob:Obs):Prop where
 h0:B6 ob 810=some (pU s st.at_ st.depth)
 h1:B6 ob 811=some (dD st.nodes)
 z:ZOk K Z ob
abbrev eT:TypeId:=27
abbrev postP{α:Type}(s:Str)(R:Ps α)(sv:α->List S1)(Z:Obs):List S1->Obs->Prop:=fun a ob'=>∃st' v,R=.ok (st',v)/\a=sv v/\ob'=PObs s st' Z
abbrev panP{α:Type}(R:Ps α)(Z:Obs):Int->Obs->Prop:=fun e ob'=>R=.error e/\ob'=Z
def PX{α:Type}(f:FuncId)(a:List S1)(K:List Nat)(s:Str)(st:PSt)(R:Ps α)(sv:α->List S1):Prop :=
 ∀(gf:Fr) (ob Z:Obs),PIn K s st Z ob->MetX Tryz.prog eT f a gf ob K (postP s R sv Z) (panP R Z)
structure SOk (s:Str) (st:PSt):Prop where
 len:s.length<=256
 at_:st.at_<=s.length
 nds:st.nodes.length<=st.at_+2
theorem SOk.gr{s:Str}{a b:Nat}{x y:PSt}(h:SOk s x)(g:Gr s a b x y)(hb:b<=a):SOk s y:=⟨h.len,g.len,by have:=h.nds;have:=g.cnt;have:=g.at_;omega⟩
abbrev r9:Int->List S1:=fun n=>[N8 n]
theorem PIn.start{K:List Nat}{s:Str}{st:PSt}{Z:Obs}(h:ZOk K Z Z):PIn K s st Z (PObs s st Z) :=
 ⟨rfl,rfl,(h.cons (i:=811) (.inr h.k8.h811)).cons (i:=810) (.inl rfl)⟩
theorem s6{K:List Nat}{s:Str}{st:PSt}{Z ob:Obs}(b:PIn K s st Z ob){nt:Nat}{fr l gf:Fr}(f:FrLe fr l)(e:High gf)(g:Tail gf fr):Sees Tryz.prog nt fr ob (l++B5 K gf) (PObs s st Z) :=
 B30 K f e g fun k o a=>by
  by_cases c:810=k
  ·subst c;rw[B4]at a;cases a;exact b.h0
  rw[A8 c]at a;by_cases d:811=k
  ·subst d;rw[B4]at a;cases a;exact b.h1
  rw[A8 d]at a;exact b.z.sub k o a
theorem ks_sub{K:List Nat}:∀k,E5 K k=true->E5 K k=true:=fun _ h=>h
theorem ks_lit{a:List Nat}{s:SV}(h:a.all (fun k=>s.free k)=true):∀k,E5 a k=true->s.free k=true:=fun k b=>List.all_eq_true.1 h k (hasN_iff.1 b)
theorem ks_in{a K:List Nat}(h:a.all (E5 K)=true):∀k,E5 a k=true->E5 K k=true:=fun k b=>List.all_eq_true.1 h k (hasN_iff.1 b)
theorem s7{K:List Nat}(b:KOk K):∀k,E5 K k=true->(SV.s G8).free k=true:=fun k a=>by
 show (!Nat.beq 810 k)=true;rw[nR (fun e=>by rw[<-e,b.h810]at a;cases a)];rfl
theorem ks_clo{K:List Nat}(b:KOk K){f:Nat}:∀k,E5 K k=true->(SV.s (.one (.clo f [(810,0)] []))).free k=true:=fun k a=>by
 show (!(gL k [(810,0)]||gL k []))=true;have h:810≠k:=fun e=>by rw[<-e,b.h810]at a;cases a
 simp[gL,nR h]
theorem N6{K:List Nat}{s:Str}{st:PSt}{Z b:Obs}(c:PIn K s st Z b):∀k o,B6 (PObs s st Z) k=some o->B6 b k=some o:=fun k o a=>by
 by_cases d:810=k
 ·subst d;rw[B4]at a;cases a;exact c.h0
 rw[A8 d]at a;by_cases e:811=k
 ·subst e;rw[B4]at a;cases a;exact c.h1
 rw[A8 e]at a;exact c.z.sub k o a
theorem ZOk.pin{K:List Nat}{s:Str}{st:PSt}{Z:Obs}(h:ZOk K Z Z):ZOk K Z (PObs s st Z):=(h.cons (i:=811) (.inr h.k8.h811)).cons (i:=810) (.inl rfl)
theorem ZOk.pobs{K:List Nat}{s:Str}{st:PSt}{Z:Obs}(h:ZOk K Z Z):∀k o,B6 Z k=some o->B6 (PObs s st Z) k=some o:=((h.cons (i:=811) (.inr h.k8.h811)).cons (i:=810) (.inl rfl)).sub
theorem MetX.ofMet{α:Type}{f:FuncId}{a:List S1}{gf:Fr}{ob Z:Obs}{K:List Nat}{d:List Nat}{s:Str}{st':PSt}{v:α}{sv:α->List S1}{e:List S1->Obs->Prop}(h:AL.Met Tryz.prog f a gf ob d e)(j:∀k,E5 d k=true->E5 K k=true)
  (m:∀b ob',e b ob'->b=sv v/\PIn K s st' Z ob'):MetX Tryz.prog eT f a gf ob K (postP s (.ok (st',v):Ps α) sv Z) (panP (.ok (st',v):Ps α) Z) :=
 AL.Met.toX ((AL.Met.more h j).conv fun b ob' l=>by
  obtain⟨g,i⟩:=m b ob' l
  exact⟨PObs s st' Z,⟨st',v,rfl,g,rfl⟩,N6 i⟩)
theorem PB{s:Str}{st:PSt}{e:Int}(h:dR s st=.error e):s[st.at_]?=none/\e=40:=by
 unfold dR at h;cases a:s[st.at_]? with
 | none=>rw[a]at h;cases h;exact⟨rfl,rfl⟩
 | some c=>rw[a]at h;cases h
theorem KO{K:List Nat}{s:Str}{st:PSt}(g:SOk s st):PX 225 [G8] K s st (dR s st) (fun c=>[b8 c]):=by
 intro gf ob Z e;have k:=e.z.self;have a:=PIn.start (s:=s) (st:=st) k;have f:=g.len;refine MetX.introH Tryz.func225 F2 rfl rfl rfl (fun j=>?_);refine C1 (s6 (l:=[(0,.s G8)]) e ⟨Y7 rfl,trivial⟩ j I8) ?_;refine zz 7 ?_;refine H8 (jR s st.at_ st.depth g.at_ B3 A0) A0 A0 A0 ?_;rintro _ _ ⟨rfl,rfl⟩;refine zz 12 ?_;by_cases h:st.at_<s.length
 ·have d:s[st.at_]?=some (s.getD st.at_ 0):=by rw[B46,B44 h];rfl
  rw[A4 h];refine zc 0 (fun b=>?_) fun b=>?_
  ·cases b
  refine zz 18 ?_;exact I6 (F1 rfl rfl) I8 (N6 (st:=st.skip 1) ⟨rfl,rfl,a.z.cons (.inl rfl)⟩) ⟨st.skip 1,s.getD st.at_ 0,by unfold dR;rw[d],rfl,rfl⟩
 ·have d:s[st.at_]?=none:=B56 B3;rw[A5 h];refine zc 0 (fun b=>?_) fun b=>?_
  ·skip;refine zz 2 ?_;refine O0 A0 ?_;exact H5 I8 a.z.sub ⟨by unfold dR;rw[d],rfl⟩
  ·cases b
theorem HB{K:List Nat}{s:Str}{st:PSt}(q:SOk s st):PX 226 [G8] K s st (jD s F8 st) r9:=by
 intro gf ob Z h;have d:=h.z.self;have j:=q.len;have b:=UD s st.at_ q.at_ B3;refine MetX.introH Tryz.func226 F2 rfl rfl rfl (fun t=>?_);refine C1 (s6 (l:=[(0,.s G8)]) h ⟨Y7 rfl,trivial⟩ t I8) ?_;refine zz 5 ?_;cases c:dQ (s.drop st.at_) with
 | none =>
  have u:jD s F8 st=.error 40:=by unfold jD F8;rw[c];rfl
  rw[show rP s st.at_=[D3 0,D3 0,E1 false] by unfold rP;rw[c]]at b;refine zz 9 ?_;refine D1 (K4 (b) A0 A0) A0 A0 ?_;refine zz 14 ?_;refine F7 rfl rfl rfl rfl (fun h=>by rw[h];exact C6 rfl rfl) ?_;refine F7 rfl rfl rfl rfl (fun h=>by rw[h];exact MX rfl rfl) ?_;refine zc 2 (fun a=>?_) fun a=>?_
  ·skip;refine zz 2 ?_;refine O0 A0 ?_;exact H5 I8 d.pobs ⟨u,rfl⟩
  ·cases a
 | some p =>
  obtain⟨m,k⟩:=p;have g:F8 s st.at_=some ((m:Int),st.at_+k):=by unfold F8;rw[c];rfl
  rw[show rP s st.at_=[D3 m,D3 ((st.at_+k:Nat):Int),E1 true] by unfold rP;rw[c]]at b;refine zz 9 ?_;refine D1 (K4 (b) A0 A0) A0 A0 ?_;refine zz 14 ?_;refine F7 rfl rfl rfl rfl (fun h=>by rw[h];exact C6 rfl rfl) ?_;refine F7 rfl rfl rfl rfl (fun h=>by rw[h];exact MX rfl rfl) ?_;refine zc 2 (fun a=>?_) fun a=>?_
  ·have f:(m:Int)>100:=A1 a;skip;refine zz 2 ?_;refine O0 A0 ?_;exact H5 I8 d.pobs ⟨by unfold jD;rw[g];exact A6 f,rfl⟩
  ·have f:¬(m:Int)>100:=A3 a;refine zz 15 ?_;exact I6 (F1 rfl rfl) I8 (N6 (K:=K) (st:={ st with at_:=st.at_+k }) ⟨rfl,rfl,by repeat (first | exact d | refine ZOk.cons ?_ (.inl rfl) | refine ZOk.cons ?_ (.inr d.k8.h811))⟩) ⟨{ st with at_:=st.at_+k },(m:Int),by unfold jD;rw[g];exact A7 f,rfl,rfl⟩
def pW(s:Str)(a:Int)(st:PSt)(b:Int):Ps (Int×Int):=if M9 s 125 st=false\/(0<=b/\b<a) then .error 40 else .ok (st.skip 1,(a,b))
theorem aW(b:Bool){a c:Int}:(if (!b)=true then true else if decide (0<=a)=true then decide (a<c) else false)=decide (b=false\/(0<=a/\a<c)):=by
 cases b<;>by_cases d:0<=a<;>by_cases e:a<c<;>simp[d,e]
theorem ZU{c:UInt8}(h:¬c=125):(if true=true then decide (¬(c.toNat:Int)=125) else false)=true:=by
 rw[A6 rfl];exact A4 fun e=>h (UInt8.toNat_inj.1 (by have:(125:UInt8).toNat=125:=rfl;omega))
theorem dF{p:Prop}(h:p:=by repeat (first | exact FreeKs.nil | exact FreeKs.gf ks_sub | exact FreeKs.gf (ks_in rfl) | exact FreeKs.gf (BY (ZOk.k8 (by assumption))) | exact FreeKs.gf (by assumption) | refine FreeKs.cons (fun _ _=>rfl) ?_ | refine FreeKs.cons (s7 (ZOk.k8 (by assumption))) ?_ | refine FreeKs.cons (ks_clo (ZOk.k8 (by assumption))) ?_ | refine FreeKs.cons (by assumption) ?_ | refine FreeKs.cons (ks_lit rfl) ?_)):p:=h
theorem rQ{p:Prop}(h:p:=by repeat (first | exact by assumption | refine ZOk.cons ?_ (.inl rfl) | refine ZOk.cons ?_ (.inr (ZOk.k8 (by assumption)).h811))):p:=h
theorem ZV{K:List Nat}{s:Str}{st:PSt}(L:SOk s st):PX 199 [G8] K s st (W4 s F8 st) (fun b=>[N8 b.1,N8 b.2]):=by
 intro gf ob Z O;have C:=O.z.self;have Q:=L.len;refine MetX.introH Tryz.func199 F2 rfl rfl rfl (fun M=>?_);refine C1 (s6 (l:=[(0,.s G8)]) O ⟨Y7 rfl,trivial⟩ M I8) ?_;refine zz 8 ?_;refine M2 (HB (K:=K) L _ _ Z ⟨rfl,rfl,by repeat (first | exact C | refine ZOk.cons ?_ (.inl rfl) | refine ZOk.cons ?_ (.inr C.k8.h811))⟩) dF rfl rfl rfl ?_ ?_
 ·(rintro e ob' ⟨G,rfl⟩;exact H5 I8 (fun _ _ h=>h) ⟨by unfold W4;rw[G],rfl⟩)
 rintro _ _ ⟨st1,d,G,rfl,rfl⟩;refine zz 2 ?_;obtain⟨g1,T,U⟩:=LY L.at_ G;have I:=L.gr g1 B3
 have v:W4 s F8 st=if M9 s 44 st1=true then (match s[(st1.skip 1).at_]? with
   | none=>pW s d (st1.skip 1) (-1)
   | some c=>if c=125 then pW s d (st1.skip 1) (-1) else match jD s F8 (st1.skip 1) with
    | .error e=>.error e
    | .ok (p,m)=>pW s d p m) else pW s d st1 d:=by unfold W4;rw[G];rfl
 refine zz 9 ?_;refine H8 (v7 s st1.at_ st1.depth 44 I.at_ B3 A0) A0 A0 A0 ?_;rintro _ _ ⟨rfl,rfl⟩;refine zz 1 ?_;by_cases B:s[st1.at_]?=some 44
 ·rw[A4 B,A6 B];have P:M9 s 44 st1=true:=A4 B;have R:=K6 (s:=s) (x:=st1) 1 (Z8 P);have q:=I.gr R B3;obtain⟨g,A⟩:∃g,g=st1.skip 1:=⟨_,rfl⟩
  rw[A6 P,<-A]at v;rw[<-A]at q;refine zc 0 (fun j=>?_) fun j=>?_;rotate_left
  ·cases j
  refine C1 (fr':=[(0,.s G8),(2,B7 d),(3,B7 d)]++B5 K gf) (ob':=PObs s g Z) (B13 lf (B1 M) I8 (N6 (K:=K) ⟨by rw[A];rfl,by rw[A];rfl,(C.pin).cons (.inl rfl)⟩)) ?_;refine zz 7 ?_;refine H8 (jR s g.at_ g.depth q.at_ B3 A0) A0 A0 A0 ?_;rintro _ _ ⟨rfl,rfl⟩;refine zz 14 ?_;by_cases y:g.at_<s.length/\¬s.getD g.at_ 0=125
  ·obtain⟨u,J⟩:=y;have N:s[g.at_]?=some (s.getD g.at_ 0):=by rw[B46,B44 u];rfl
   rw[N]at v;dsimp only at v;rw[A7 J]at v;refine zc 0 (fun j=>?_) fun j=>?_;rotate_left
   ·exfalso;rw[A4 u,ZU J]at j;cases j
   skip;refine C1 (fr':=[(0,.s G8),(2,B7 d)]++B5 K gf) (ob':=PObs s g Z) (B13 lf (B1 M) I8 (N6 (K:=K) ⟨rfl,rfl,by repeat (first | exact C | refine ZOk.cons ?_ (.inl rfl) | refine ZOk.cons ?_ (.inr C.k8.h811))⟩)) ?_;refine zz 2 ?_;refine M2 (HB (K:=K) q _ _ Z ⟨rfl,rfl,by repeat (first | exact C | refine ZOk.cons ?_ (.inl rfl) | refine ZOk.cons ?_ (.inr C.k8.h811))⟩) dF rfl rfl rfl ?_ ?_
   ·(rintro e ob' ⟨H,rfl⟩;exact H5 I8 (fun _ _ h=>h) ⟨by rw[v,H],rfl⟩)
   rintro _ _ ⟨p,m,H,rfl,rfl⟩;refine zz 2 ?_;obtain⟨S,m1,V⟩:=LY q.at_ H;have q:=q.gr S B3;have D:W4 s F8 st=pW s d p m:=by rw[v,H]
   refine zz 4 ?_;refine H8 (v7 s p.at_ p.depth 125 q.at_ B3 A0) A0 A0 A0 ?_;rintro _ _ ⟨rfl,rfl⟩;refine zz 11 ?_;by_cases f:s[p.at_]?=some 125
   ·rw[A4 f,A6 f];have E:M9 s 125 p=true:=A4 f;refine zc 0 (fun j=>?_) fun j=>?_
    ·have w:0<=m/\m<d:=by
      rw[aW true]at j;rcases A1 j with h | h
      ·cases h
      ·exact h
     skip;refine zz 2 ?_;refine O0 A0 ?_;exact H5 I8 (ZOk.sub (K:=K) rQ) ⟨by rw[D,pW,A6 (.inr w)],rfl⟩
    ·have F:¬(M9 s 125 p=false\/(0<=m/\m<d)):=by
      rw[aW true]at j;rw[E];exact A3 j
     refine zz 9 ?_;exact I6 (sY rfl rfl rfl) I8 (N6 (K:=K) (st:=p.skip 1) ⟨rfl,rfl,by repeat (first | exact C | refine ZOk.cons ?_ (.inl rfl) | refine ZOk.cons ?_ (.inr C.k8.h811))⟩) ⟨p.skip 1,(d,m),by rw[D,pW,A7 F],rfl,rfl⟩
   ·rw[A5 f,A7 f];have E:M9 s 125 p=false:=A5 f;refine zc 0 (fun j=>?_) fun j=>?_
    ·skip;refine zz 2 ?_;refine O0 A0 ?_;exact H5 I8 (ZOk.sub (K:=K) rQ) ⟨by rw[D,pW,A6 (.inl E)],rfl⟩
    ·rw[aW false]at j;exact absurd (.inl rfl) (A3 j)
  ·have D:W4 s F8 st=pW s d g (-1):=by
    rw[v];by_cases u:g.at_<s.length
    ·have N:s[g.at_]?=some (s.getD g.at_ 0):=by rw[B46,B44 u];rfl
     rw[N];exact A6 (Decidable.not_not.1 fun h=>y ⟨u,h⟩)
    ·rw[B56 B3]
   refine zc 0 (fun j=>?_) fun j=>?_
   ·exfalso;by_cases u:g.at_<s.length
    ·have f:s.getD g.at_ 0=125:=Decidable.not_not.1 fun h=>y ⟨u,h⟩;rw[A4 u,f]at j;cases j
    ·rw[A5 u]at j;cases j
   refine zz 5 ?_;refine H8 (v7 s g.at_ g.depth 125 q.at_ B3 A0) A0 A0 A0 ?_;rintro _ _ ⟨rfl,rfl⟩;refine zz 11 ?_;by_cases f:s[g.at_]?=some 125
   ·rw[A4 f,A6 f];have E:M9 s 125 g=true:=A4 f;refine zc 0 (fun j=>?_) fun j=>?_
    ·have w:0<=(-1:Int)/\(-1:Int)<d:=by
      rw[aW true]at j;rcases A1 j with h | h
      ·cases h
      ·exact h
     skip;refine zz 2 ?_;refine O0 A0 ?_;exact H5 I8 (ZOk.sub (K:=K) rQ) ⟨by rw[D,pW,A6 (.inr w)],rfl⟩
    ·have F:¬(M9 s 125 g=false\/(0<=(-1:Int)/\(-1:Int)<d)):=by
      rw[aW true]at j;rw[E];exact A3 j
     refine zz 9 ?_;exact I6 (sY rfl rfl rfl) I8 (N6 (K:=K) (st:=g.skip 1) ⟨rfl,rfl,by repeat (first | exact C | refine ZOk.cons ?_ (.inl rfl) | refine ZOk.cons ?_ (.inr C.k8.h811))⟩) ⟨g.skip 1,(d,(-1:Int)),by rw[D,pW,A7 F],rfl,rfl⟩
   ·rw[A5 f,A7 f];have E:M9 s 125 g=false:=A5 f;refine zc 0 (fun j=>?_) fun j=>?_
    ·skip;refine zz 2 ?_;refine O0 A0 ?_;exact H5 I8 (ZOk.sub (K:=K) rQ) ⟨by rw[D,pW,A6 (.inl E)],rfl⟩
    ·rw[aW false]at j;exact absurd (.inl rfl) (A3 j)
 ·rw[A5 B,A7 B];have D:W4 s F8 st=pW s d st1 d:=by rw[v,A7 (by unfold M9;rw[A5 B];decide)]
  have q:=I;refine zc 0 (fun j=>?_) fun j=>?_
  ·cases j
  refine zz 5 ?_;refine H8 (v7 s st1.at_ st1.depth 125 q.at_ B3 A0) A0 A0 A0 ?_;rintro _ _ ⟨rfl,rfl⟩;refine zz 11 ?_;by_cases f:s[st1.at_]?=some 125
  ·rw[A4 f,A6 f];have E:M9 s 125 st1=true:=A4 f;refine zc 0 (fun j=>?_) fun j=>?_
   ·have w:0<=d/\d<d:=by
     rw[aW true]at j;rcases A1 j with h | h
     ·cases h
     ·exact h
    skip;refine zz 2 ?_;refine O0 A0 ?_;exact H5 I8 (ZOk.sub (K:=K) rQ) ⟨by rw[D,pW,A6 (.inr w)],rfl⟩
   ·have F:¬(M9 s 125 st1=false\/(0<=d/\d<d)):=by
     rw[aW true]at j;rw[E];exact A3 j
    refine zz 9 ?_;exact I6 (sY rfl rfl rfl) I8 (N6 (K:=K) (st:=st1.skip 1) ⟨rfl,rfl,by repeat (first | exact C | refine ZOk.cons ?_ (.inl rfl) | refine ZOk.cons ?_ (.inr C.k8.h811))⟩) ⟨st1.skip 1,(d,d),by rw[D,pW,A7 F],rfl,rfl⟩
  ·rw[A5 f,A7 f];have E:M9 s 125 st1=false:=A5 f;refine zc 0 (fun j=>?_) fun j=>?_
   ·skip;refine zz 2 ?_;refine O0 A0 ?_;exact H5 I8 (ZOk.sub (K:=K) rQ) ⟨by rw[D,pW,A6 (.inl E)],rfl⟩
   ·rw[aW false]at j;exact absurd (.inl rfl) (A3 j)
theorem BX{K:List Nat}{s:Str}{st:PSt}(w:SOk s st):PX 179 [G8] K s st (V5 s F8 st) (fun b=>match b with
  | none=>[N8 0,N8 0,mG false]
  | some q=>[N8 q.1,N8 q.2,mG true]):=by
 intro gf ob Z D;have f:=D.z.self;have F:=w.len;refine MetX.introH Tryz.func179 F2 rfl rfl rfl (fun C=>?_);refine C1 (s6 (l:=[(0,.s G8)]) D ⟨Y7 rfl,trivial⟩ C I8) ?_;refine zz 11 ?_;refine H8 (v7 s st.at_ st.depth 42 w.at_ B3 A0) A0 A0 A0 ?_;rintro _ _ ⟨rfl,rfl⟩;refine zz 2 ?_;by_cases g:s[st.at_]?=some 42
 ·rw[A4 g,A6 g];have t:M9 s 42 st=true:=A4 g;refine zc 0 (fun a=>?_) fun a=>?_;rotate_left
  ·cases a
  refine zz 7 ?_;exact I6 (NC rfl rfl rfl rfl) I8 (N6 (K:=K) (st:=st.skip 1) ⟨rfl,rfl,by repeat (first | exact f | refine ZOk.cons ?_ (.inl rfl) | refine ZOk.cons ?_ (.inr f.k8.h811))⟩) ⟨st.skip 1,some (0,-1),by rw[V5,A6 t],rfl,rfl⟩
 rw[A5 g,A7 g];have d:¬M9 s 42 st=true:=fun h=>g (A1 h);refine zc 0 (fun a=>?_) fun a=>?_
 ·cases a
 refine zz 3 ?_;refine H8 (v7 s st.at_ st.depth 43 w.at_ B3 A0) A0 A0 A0 ?_;rintro _ _ ⟨rfl,rfl⟩;refine zz 2 ?_;by_cases j:s[st.at_]?=some 43
 ·rw[A4 j,A6 j];have t:M9 s 43 st=true:=A4 j;refine zc 0 (fun a=>?_) fun a=>?_;rotate_left
  ·cases a
  refine zz 7 ?_;exact I6 (NC rfl rfl rfl rfl) I8 (N6 (K:=K) (st:=st.skip 1) ⟨rfl,rfl,by repeat (first | exact f | refine ZOk.cons ?_ (.inl rfl) | refine ZOk.cons ?_ (.inr f.k8.h811))⟩) ⟨st.skip 1,some (1,-1),by rw[V5,A7 d,A6 t],rfl,rfl⟩
 rw[A5 j,A7 j];have p:¬M9 s 43 st=true:=fun h=>j (A1 h);refine zc 0 (fun a=>?_) fun a=>?_
 ·cases a
 refine zz 3 ?_;refine H8 (v7 s st.at_ st.depth 63 w.at_ B3 A0) A0 A0 A0 ?_;rintro _ _ ⟨rfl,rfl⟩;refine zz 2 ?_;by_cases m:s[st.at_]?=some 63
 ·rw[A4 m,A6 m];have t:M9 s 63 st=true:=A4 m;refine zc 0 (fun a=>?_) fun a=>?_;rotate_left
  ·cases a
  refine zz 7 ?_;exact I6 (NC rfl rfl rfl rfl) I8 (N6 (K:=K) (st:=st.skip 1) ⟨rfl,rfl,by repeat (first | exact f | refine ZOk.cons ?_ (.inl rfl) | refine ZOk.cons ?_ (.inr f.k8.h811))⟩) ⟨st.skip 1,some (0,1),by rw[V5,A7 d,A7 p,A6 t],rfl,rfl⟩
 rw[A5 m,A7 m];have u:¬M9 s 63 st=true:=fun h=>m (A1 h);refine zc 0 (fun a=>?_) fun a=>?_
 ·cases a
 refine zz 3 ?_;refine H8 (v7 s st.at_ st.depth 123 w.at_ B3 A0) A0 A0 A0 ?_;rintro _ _ ⟨rfl,rfl⟩;refine zz 2 ?_;by_cases c:s[st.at_]?=some 123
 ·rw[A4 c,A6 c];have t:M9 s 123 st=true:=A4 c;have B:=w.gr (K6 (s:=s) (x:=st) 1 (Z8 t)) B3
  have E:V5 s F8 st=match W4 s F8 (st.skip 1) with
    | .error e=>.error e
    | .ok (st',b)=>.ok (st',some b):=by rw[V5,A7 d,A7 p,A7 u,A6 t];rfl
  refine zc 0 (fun a=>?_) fun a=>?_;rotate_left
  ·cases a
  refine k2 ?_;refine C1 (fr':=[(0,.s G8)]++B5 K gf) (ob':=PObs s (st.skip 1) Z) (B13 ⟨Y7 rfl,trivial⟩ (B1 C) I8 (N6 (K:=K) (st:=st.skip 1) ⟨rfl,rfl,by repeat (first | exact f | refine ZOk.cons ?_ (.inl rfl) | refine ZOk.cons ?_ (.inr f.k8.h811))⟩)) ?_;refine zz 2 ?_;refine M2 (ZV (K:=K) B _ _ Z ⟨rfl,rfl,by repeat (first | exact f | refine ZOk.cons ?_ (.inl rfl) | refine ZOk.cons ?_ (.inr f.k8.h811))⟩) dF rfl rfl rfl ?_ ?_
  ·(rintro e ob' ⟨A,rfl⟩;exact H5 I8 (fun _ _ h=>h) ⟨by rw[E,A],rfl⟩)
  rintro _ _ ⟨y,b,A,rfl,rfl⟩;refine zz 6 ?_;refine zz 9 ?_;exact I6 (NC rfl rfl rfl rfl) I8 (N6 (K:=K) (st:=y) ⟨rfl,rfl,by repeat (first | exact f | refine ZOk.cons ?_ (.inl rfl) | refine ZOk.cons ?_ (.inr f.k8.h811))⟩) ⟨y,some b,by rw[E,A],rfl,rfl⟩
 rw[A5 c,A7 c];have v:¬M9 s 123 st=true:=fun h=>c (A1 h);refine zc 0 (fun a=>?_) fun a=>?_
 ·cases a
 refine zz 8 ?_;exact I6 (NC rfl rfl rfl rfl) I8 (N6 (K:=K) (st:=st) ⟨rfl,rfl,by repeat (first | exact f | refine ZOk.cons ?_ (.inl rfl) | refine ZOk.cons ?_ (.inr f.k8.h811))⟩) ⟨st,none,by rw[V5,A7 d,A7 p,A7 u,A7 v],rfl,rfl⟩
theorem BY{K:List Nat}(h:KOk K):∀k,E5 [811] k=true->E5 K k=true:=fun k a=>by
 have:=hasN_iff.1 a;rw[List.mem_singleton.1 this];exact h.h811
theorem ZOk.fgt{K:List Nat}{Z ob:Obs}(h:ZOk K Z ob){j:Nat}(b:E5 K j=true):ZOk K Z (Obs.forget j ob) where
 k8:=h.k8
 sub:=fun k o a=>by
  rw[J3,h.sub k o a];show some (o.forget j)=some o;rw[Ob.forget_free (h.free k o a j b)]
 key:=h.key
 free:=h.free
theorem add_pm{K:List Nat}{s:Str}{st:PSt}(b:AL.Node)(e:st.nodes.length<=1000){gf:Fr}{ob Z:Obs}(a:PIn K s st Z ob) :
  AL.Met Tryz.prog 153 [G8,(aG b).s1] gf ob K (fun d ob'=>d=[N8 (U8 b st).2]/\ob'=PObs s (U8 b st).1 Z) :=
 (AL.Met.more (tL s st.at_ st.depth st.nodes b e a.h0 a.h1) (BY a.z.k8)).conv fun d ob' f=>by
  obtain⟨rfl,rfl⟩:=f;exact⟨_,⟨rfl,rfl⟩,N6 ⟨rfl,rfl,((a.z.fgt a.z.k8.h811).cons (.inr a.z.k8.h811)).cons (.inl rfl)⟩⟩
theorem KP{K:List Nat}{s:Str}{st:PSt}(z:Set4)(d:st.nodes.length<=1000){gf:Fr}{ob Z:Obs}(a:PIn K s st Z ob) :
  AL.Met Tryz.prog 223 [G8,(Q5 z).s1] gf ob K (fun b ob'=>b=[N8 (fZ z st).2]/\ob'=PObs s (fZ z st).1 Z) :=
 (AL.Met.more (A65 s st.at_ st.depth st.nodes z d a.h0 a.h1) (BY a.z.k8)).conv fun b ob' e=>by
  obtain⟨rfl,rfl⟩:=e;exact⟨_,⟨rfl,rfl⟩,N6 ⟨rfl,rfl,((a.z.fgt a.z.k8.h811).cons (.inr a.z.k8.h811)).cons (.inl rfl)⟩⟩
theorem BZ{K:List Nat}{s:Str}{st:PSt}(a:Int)(kids:List Int)(g:kids.length<=100000)(j:st.nodes.length<=1000){gf:Fr}{ob Z:Obs}(b:PIn K s st Z ob) :
  AL.Met Tryz.prog 106 [G8,N8 a,.one (.p (.list Int 1 D2 kids))] gf ob K (fun f ob'=>f=[N8 (p7 a kids st).2]/\ob'=PObs s (p7 a kids st).1 Z):=by
 match kids,g with
 | [],_ =>
  exact (AL.Met.more (UB s st.at_ st.depth st.nodes a j b.h0 b.h1) (BY b.z.k8)).conv fun f ob' d=>by
   obtain⟨rfl,rfl⟩:=d;exact⟨_,⟨rfl,rfl⟩,N6 ⟨rfl,rfl,((b.z.fgt b.z.k8.h811).cons (.inr b.z.k8.h811)).cons (.inl rfl)⟩⟩
 | [k],_ =>
  exact (AL.Met.more (TK a k) (fun _ h=>by cases h)).conv fun f ob' d=>by
   obtain⟨rfl,rfl⟩:=d;exact⟨_,⟨rfl,rfl⟩,N6 b⟩
 | k::l::r,g =>
  exact (AL.Met.more (TJ s st.at_ st.depth st.nodes a (k::l::r) dV j b.h0 b.h1) (BY b.z.k8)).conv fun f ob' d=>by
   obtain⟨rfl,rfl⟩:=d;exact⟨_,⟨rfl,rfl⟩,N6 ⟨rfl,rfl,((b.z.fgt b.z.k8.h811).cons (.inr b.z.k8.h811)).cons (.inl rfl)⟩⟩
theorem ZW{K:List Nat}{s:Str}{st:PSt}(g:SOk s st):PX 198 [G8] K s st (R4 s st) r9:=by
 intro gf ob Z k;have j:=k.z.self;have m:=g.len;refine MetX.introH Tryz.func198 F2 rfl rfl rfl (fun o=>?_);refine C1 (s6 (l:=[(0,.s G8)]) k ⟨Y7 rfl,trivial⟩ o I8) ?_;refine zz 9 ?_;refine M2 (KO (K:=K) g _ _ Z ⟨rfl,rfl,by repeat (first | exact j | refine ZOk.cons ?_ (.inl rfl) | refine ZOk.cons ?_ (.inr j.k8.h811))⟩) dF rfl rfl rfl ?_ ?_
 ·(rintro e ob' ⟨f,rfl⟩;exact H5 I8 (fun _ _ h=>h) ⟨by unfold R4;rw[f],rfl⟩)
 rintro _ _ ⟨b,c,f,rfl,rfl⟩;refine E3 (tQ set0 j1 c) ?_;refine S0 (KP (K:=K) (s:=s) (st:=b) (Z:=Z) (set0.with_ c.toNat) (by have p:=(g.gr (pP f) B3).nds;have q:=(g.gr (pP f) B3).at_;omega) ⟨rfl,rfl,by repeat (first | exact j | refine ZOk.cons ?_ (.inl rfl) | refine ZOk.cons ?_ (.inr j.k8.h811))⟩) dF rfl rfl rfl ?_;rintro _ _ ⟨rfl,rfl⟩;refine zz 2 ?_;refine zz 1 ?_;exact I6 (F1 rfl rfl) I8 (fun _ _ h=>h) ⟨(fZ (set0.with_ c.toNat) b).1,(fZ (set0.with_ c.toNat) b).2,by unfold R4;rw[f],rfl,rfl⟩
theorem gY{x:Int}(h:0<=x/\x<18446744073709551616):IntKind.u64.wrap ((BitVec.ofInt IntKind.u64.bits IntKind.u64.max ^^^ BitVec.ofInt IntKind.u64.bits x).toNat:Int)=18446744073709551615-x:=by
 have b:BitVec.ofInt 64 IntKind.u64.max=BitVec.allOnes 64:=by decide
 have c:(BitVec.ofInt 64 x).toNat=x.toNat:=by
  rw[BitVec.toNat_ofInt];simp;omega
 show IntKind.u64.wrap (((BitVec.ofInt 64 IntKind.u64.max ^^^ BitVec.ofInt 64 x:BitVec 64).toNat:Nat):Int)=_;rw[b,BitVec.allOnes_xor,BitVec.toNat_not,c];simp only[IntKind.wrap,IntKind.signed,IntKind.bits];simp;omega
theorem O2(z:Set4)(k:M8 z)(a b:Nat)(x y:Int)(g:x=a)(j:y=b)(f:a<=b)(hb:b<256):FnOk Tryz.prog 239 [Q5 z,.one (.v (.int .u8 x)),.one (.v (.int .u8 y))] (fun rs=>rs=[Q5 (z.through a b)]):=by
 have c:(UInt8.ofNat a).toNat=a:=by rw[UInt8.toNat_ofNat'];omega
 have d:(UInt8.ofNat b).toNat=b:=by rw[UInt8.toNat_ofNat'];omega
 have h:=BW z k (UInt8.ofNat a) (UInt8.ofNat b) B3;rw[c,d]at h;subst g j;have e:pByte (UInt8.ofNat a)=.one (.v (.int .u8 (a:Int)))/\pByte (UInt8.ofNat b)=.one (.v (.int .u8 (b:Int))):=by
  constructor
  ·show PV.one (.v (.int .u8 ((UInt8.ofNat a).toNat:Int)))=_;rw[c]
  ·show PV.one (.v (.int .u8 ((UInt8.ofNat b).toNat:Int)))=_;rw[d]
 rw[e.1,e.2]at h;exact h
attribute [local irreducible] AL.Set4.through AL.Set4.with_
abbrev CA(a b c d:Int):Ob:=.box [.p (.v (.int .u64 a)),.p (.v (.int .u64 b)),.p (.v (.int .u64 c)),.p (.v (.int .u64 d))]
def complT(z:Set4):Nat->Ob
 | 0=>CA z.a z.b z.c z.d
 | 1=>CA z.compl.a z.b z.c z.d
 | 2=>CA z.compl.a z.compl.b z.c z.d
 | 3=>CA z.compl.a z.compl.b z.compl.c z.d
 | _=>CA z.compl.a z.compl.b z.compl.c z.compl.d
theorem qQ(z:Set4)(g:M8 z):FnOk Tryz.prog 222 [Q5 z] (fun rs=>rs=[Q5 z.compl]):=by
 obtain⟨j,k,z3,z4⟩:=g;refine FnOk.intro Tryz.func222 F2 A0 A0 A0 A0 (zz 2 ?_);refine C4 (n8 1 A0 A0 A0) A0 (C4 (H9 2 A0) A0 (zz 7 ?_));refine C2 (X:=Nat) (fun i=>([(1,.s (.one (.ref 1 0))),(2,.s (.one (.ref 2 0))),(4,B7 i)],[(1,complT z i),(2,CA 0 0 0 0)])) (fun i=>i<=4) (fun i=>4-i) 0 (Nat.zero_le _) (Sees.of lf lo) ?_;intro i c;dsimp only at c ⊢;refine zc 5 (fun a=>?_) fun a=>?_
 ·have d:i<4:=by have:=A1 a;omega
  rcases (show i=0\/i=1\/i=2\/i=3 by omega) with h | h | h | h<;>subst h
  ·refine zz 17 ?_;rw[gY j];refine zz 4 ?_;exact⟨1,by omega,by omega,Sees.of lf lo⟩
  ·refine zz 17 ?_;rw[gY k];refine zz 4 ?_;exact⟨2,by omega,by omega,Sees.of lf lo⟩
  ·refine zz 17 ?_;rw[gY z3];refine zz 4 ?_;exact⟨3,by omega,by omega,Sees.of lf lo⟩
  ·refine zz 17 ?_;rw[gY z4];refine zz 4 ?_;exact⟨4,by omega,by omega,Sees.of lf lo⟩
 ·have b:i=4:=by have:=A3 a;omega
  subst b;refine zz 7 ?_;exact B2 (rs:=[Q5 z.compl]) (retc rfl rfl rfl rfl rfl) rfl
theorem sQ{p:Prop}(h:p:=by assumption):p:=h
theorem A75(z t:Set4)(b:M8 z)(name:Str)(h:Z5 z name=some t):FnOk Tryz.prog 238 [Q5 z,F3 name] (fun rs=>rs=[Q5 t]):=by
 unfold Z5 at h;refine FnOk.intro Tryz.func238 F2 A0 A0 A0 A0 (zz 2 ?_);refine C4 (n8 2 A0 A0 A0) A0 (C4 (H9 4 A0) A0 ?_);refine zc 12 (fun e=>?_) fun e=>?_
 ·have c:name=[97,108,112,104,97]:=A1 sQ;rw[A6 c]at h;cases h;refine zz 3 ?_;refine E3 (O2 (z) (b) 97 122 97 122 A0 A0 F2 F2) (E3 (O2 ((z).through 97 122) (L8 (b) 97 122) 65 90 65 90 A0 A0 F2 F2) (zz 3 ?_));exact B2 (rs:=[Q5 (((z).through 97 122).through 65 90)]) (retc rfl rfl rfl rfl rfl) rfl
 have a:¬name=[97,108,112,104,97]:=A3 sQ;refine zc 5 (fun e=>?_) fun e=>?_
 ·have c:name=[100,105,103,105,116]:=A1 sQ;rw[A7 a,A6 c]at h;cases h;refine zz 3 ?_;refine E3 (O2 (z) (b) 48 57 48 57 A0 A0 F2 F2) (zz 3 ?_);exact B2 (rs:=[Q5 ((z).through 48 57)]) (retc rfl rfl rfl rfl rfl) rfl
 have d:¬name=[100,105,103,105,116]:=A3 sQ;refine zc 5 (fun e=>?_) fun e=>?_
 ·have c:name=[97,108,110,117,109]:=A1 sQ;rw[A7 a,A7 d,A6 c]at h;cases h;refine zz 3 ?_;refine E3 (O2 (z) (b) 97 122 97 122 A0 A0 F2 F2) (E3 (O2 ((z).through 97 122) (L8 (b) 97 122) 65 90 65 90 A0 A0 F2 F2) (E3 (O2 (((z).through 97 122).through 65 90) (L8 (L8 (b) 97 122) 65 90) 48 57 48 57 A0 A0 F2 F2) (zz 3 ?_)));exact B2 (rs:=[Q5 ((((z).through 97 122).through 65 90).through 48 57)]) (retc rfl rfl rfl rfl rfl) rfl
 have f:¬name=[97,108,110,117,109]:=A3 sQ;refine zc 5 (fun e=>?_) fun e=>?_
 ·have c:name=[117,112,112,101,114]:=A1 sQ;rw[A7 a,A7 d,A7 f,A6 c]at h;cases h;refine zz 3 ?_;refine E3 (O2 (z) (b) 65 90 65 90 A0 A0 F2 F2) (zz 3 ?_);exact B2 (rs:=[Q5 ((z).through 65 90)]) (retc rfl rfl rfl rfl rfl) rfl
 have j:¬name=[117,112,112,101,114]:=A3 sQ;refine zc 5 (fun e=>?_) fun e=>?_
 ·have c:name=[108,111,119,101,114]:=A1 sQ;rw[A7 a,A7 d,A7 f,A7 j,A6 c]at h;cases h;refine zz 3 ?_;refine E3 (O2 (z) (b) 97 122 97 122 A0 A0 F2 F2) (zz 3 ?_);exact B2 (rs:=[Q5 ((z).through 97 122)]) (retc rfl rfl rfl rfl rfl) rfl
 have k:¬name=[108,111,119,101,114]:=A3 sQ;refine zc 5 (fun e=>?_) fun e=>?_
 ·have c:name=[115,112,97,99,101]:=A1 sQ;rw[A7 a,A7 d,A7 f,A7 j,A7 k,A6 c]at h;cases h;refine zz 3 ?_;refine E3 (O2 (z) (b) 9 13 9 13 A0 A0 F2 F2) (E3 (tQ ((z).through 9 13) (L8 (b) 9 13) 32) (zz 3 ?_));exact B2 (rs:=[Q5 (((z).through 9 13).with_ 32)]) (retc rfl rfl rfl rfl rfl) rfl
 have l:¬name=[115,112,97,99,101]:=A3 sQ;refine zc 5 (fun e=>?_) fun e=>?_
 ·have c:name=[112,117,110,99,116]:=A1 sQ;rw[A7 a,A7 d,A7 f,A7 j,A7 k,A7 l,A6 c]at h;cases h;refine zz 3 ?_;refine E3 (O2 (z) (b) 33 47 33 47 A0 A0 F2 F2) (E3 (O2 ((z).through 33 47) (L8 (b) 33 47) 58 64 58 64 A0 A0 F2 F2) (E3 (O2 (((z).through 33 47).through 58 64) (L8 (L8 (b) 33 47) 58 64) 91 96 91 96 A0 A0 F2 F2) (E3 (O2 ((((z).through 33 47).through 58 64).through 91 96) (L8 (L8 (L8 (b) 33 47) 58 64) 91 96) 123 126 123 126 A0 A0 F2 F2) (zz 3 ?_))));exact B2 (rs:=[Q5 (((((z).through 33 47).through 58 64).through 91 96).through 123 126)]) (retc rfl rfl rfl rfl rfl) rfl
 have m:¬name=[112,117,110,99,116]:=A3 sQ;refine zz 1 ?_;rw[A7 a,A7 d,A7 f,A7 j,A7 k,A7 l,A7 m]at h;cases h
theorem ZX{K:List Nat}(a:E5 K 872=true){s:Str}{st:PSt}(z:Set4)(name:Str)(h:Z5 z name=none):PX 238 [(Q5 z).s1,(F3 name).s1] K s st (.error 40:Ps Int) r9:=by
 intro gf ob Z A;have B:=A.z.self;have q:B6 (PObs s st Z) 872=none:=B.none (.inr a);unfold Z5 at h;refine MetX.introH Tryz.func238 F2 rfl rfl rfl (fun y=>?_);refine C1 (s6 (l:=[(0,.s (Q5 z).s1),(1,.s (F3 name).s1)]) A lf y I8) ?_;refine zz 3 ?_;refine C4 (eP 872 q F2) A0 (zz 3 ?_);refine C1 (fr':=[(1,.s (F3 name).s1)]++B5 K gf) (ob':=Z) (B13 ⟨Y7 rfl,trivial⟩ (B1 y) (by repeat (first | exact X0 | refine X1 rfl ?_ | refine oT _ a ?_)) ((((B.pin (s:=s) (st:=st)).fgt a).cons (i:=872) (.inr a)).sub)) ?_;refine zc 9 (fun k=>?_) fun k=>?_
 ·have d:name=[97,108,112,104,97]:=A1 sQ;rw[A6 d]at h;cases h
 have j:¬name=[97,108,112,104,97]:=A3 sQ;refine zc 5 (fun k=>?_) fun k=>?_
 ·have d:name=[100,105,103,105,116]:=A1 sQ;rw[A7 j,A6 d]at h;cases h
 have m:¬name=[100,105,103,105,116]:=A3 sQ;refine zc 5 (fun k=>?_) fun k=>?_
 ·have d:name=[97,108,110,117,109]:=A1 sQ;rw[A7 j,A7 m,A6 d]at h;cases h
 have p:¬name=[97,108,110,117,109]:=A3 sQ;refine zc 5 (fun k=>?_) fun k=>?_
 ·have d:name=[117,112,112,101,114]:=A1 sQ;rw[A7 j,A7 m,A7 p,A6 d]at h;cases h
 have v:¬name=[117,112,112,101,114]:=A3 sQ;refine zc 5 (fun k=>?_) fun k=>?_
 ·have d:name=[108,111,119,101,114]:=A1 sQ;rw[A7 j,A7 m,A7 p,A7 v,A6 d]at h;cases h
 have w:¬name=[108,111,119,101,114]:=A3 sQ;refine zc 5 (fun k=>?_) fun k=>?_
 ·have d:name=[115,112,97,99,101]:=A1 sQ;rw[A7 j,A7 m,A7 p,A7 v,A7 w,A6 d]at h;cases h
 have x:¬name=[115,112,97,99,101]:=A3 sQ;refine zc 5 (fun k=>?_) fun k=>?_
 ·have d:name=[112,117,110,99,116]:=A1 sQ;rw[A7 j,A7 m,A7 p,A7 v,A7 w,A7 x,A6 d]at h;cases h
 have C:¬name=[112,117,110,99,116]:=A3 sQ;refine zz 3 ?_;refine O0 A0 ?_;exact H5 I8 (fun _ _ h=>h) ⟨rfl,rfl⟩
theorem any_px{K:List Nat}{s:Str}{st:PSt}(b:SOk s st):PX 196 [G8] K s st (.ok (zD st):Ps Int) r9:=by
 intro gf ob Z c;have e:=c.z.self;have d:=b.len;have g:=b.at_;have j:=b.nds;have a:=qQ set0 j1;refine MetX.introH Tryz.func196 F2 rfl rfl rfl (fun f=>?_);refine C1 (s6 (l:=[(0,.s G8)]) c ⟨Y7 rfl,trivial⟩ f I8) ?_;refine zz 19 ?_;refine E3 (a) ?_;refine S0 (KP (K:=K) (s:=s) (st:=st.skip 1) (Z:=Z) set0.compl (by show st.nodes.length<=1000;omega) ⟨rfl,rfl,by repeat (first | exact e | refine ZOk.cons ?_ (.inl rfl) | refine ZOk.cons ?_ (.inr e.k8.h811))⟩) dF rfl rfl rfl ?_;rintro _ _ ⟨rfl,rfl⟩;refine zz 2 ?_;refine zz 1 ?_;exact I6 (F1 rfl rfl) I8 (fun _ _ h=>h) ⟨(zD st).1,(zD st).2,rfl,rfl,rfl⟩
theorem ZY{K:List Nat}{s:Str}{st:PSt}(p:SOk s st)(k:st.at_+1<=s.length):PX 197 [G8] K s st (cN s st) r9:=by
 intro gf ob Z m;have j:=m.z.self;have o:=p.len;have b:=p.gr (K6 (s:=s) (x:=st) 1 k) B3;refine MetX.introH Tryz.func197 F2 rfl rfl rfl (fun q=>?_);refine C1 (s6 (l:=[(0,.s G8)]) m ⟨Y7 rfl,trivial⟩ q I8) ?_;refine zz 20 ?_;refine M2 (KO (K:=K) b _ _ Z ⟨rfl,rfl,by repeat (first | exact j | refine ZOk.cons ?_ (.inl rfl) | refine ZOk.cons ?_ (.inr j.k8.h811))⟩) dF rfl rfl rfl ?_ ?_
 ·(rintro e ob' ⟨g,rfl⟩;exact H5 I8 (fun _ _ h=>h) ⟨by unfold cN R4;rw[g],rfl⟩)
 rintro _ _ ⟨f,c,g,rfl,rfl⟩;refine E3 (tQ set0 j1 c) ?_;refine S0 (KP (K:=K) (s:=s) (st:=f) (Z:=Z) (set0.with_ c.toNat) (by have u:=(b.gr (pP g) B3).nds;have v:=(b.gr (pP g) B3).at_;omega) ⟨rfl,rfl,by repeat (first | exact j | refine ZOk.cons ?_ (.inl rfl) | refine ZOk.cons ?_ (.inr j.k8.h811))⟩) dF rfl rfl rfl ?_;rintro _ _ ⟨rfl,rfl⟩;refine zz 2 ?_;refine zz 1 ?_;exact I6 (F1 rfl rfl) I8 (fun _ _ h=>h) ⟨(fZ (set0.with_ c.toNat) f).1,(fZ (set0.with_ c.toNat) f).2,by unfold cN R4;rw[g],rfl,rfl⟩
theorem CB(s:Str)(m:s.length<=1000):FnOk Tryz.prog 245 [F3 s,F3 [58,93]] (fun rs=>rs=if Lib.index s [58,93]<0 then [F3 s,F3 [],E1 false] else [F3 (s.take (Lib.index s [58,93]).toNat),F3 (s.drop ((Lib.index s [58,93]).toNat+2)),E1 true]):=by
 have d:=KN s [58,93] B3;have f:=fun h=>Lib.index_room s [58,93] h;obtain⟨i,k⟩:∃i,i=Lib.index s [58,93]:=⟨_,rfl⟩
 rw[<-k]at d f ⊢;refine FnOk.intro Tryz.func245 F2 A0 A0 A0 A0 (zz 11 ?_);refine E3 (d) ?_;refine zc 7 (fun b=>?_) fun b=>?_
 ·have c:i>=0:=A1 b;have j:=f c;rw[show (([58,93]:Str).length:Int)=2 from rfl]at j;have e:(i+((([58,93]:Str).length:Nat):Int)).toNat=i.toNat+2:=by rw[show ((([58,93]:Str).length:Nat):Int)=2 from rfl];omega
  refine zz 4 ?_;refine D1 (JD A0 A0 B3 B3) A0 A0 (zz 4 ?_);refine D1 (Y6 A0 A0 MR) A0 A0 (D1 (kL A0 A0 MR MR) A0 A0 (zz 5 ?_));refine B2 (zW A0 A0 A0 A0 A0 A0 A0) ?_;rw[A7 B3,e]
 ·have c:¬i>=0:=A3 b;refine zz 9 ?_;exact B2 (rs:=[F3 s,F3 [],E1 false]) (zW rfl rfl rfl rfl rfl rfl rfl) (by rw[A6 B3])
theorem cut_no(s:Str)(b:s.length<=1000)(h:Lib.index s [58,93]<0):FnOk Tryz.prog 237 [F3 s,F3 [58,93]] (fun rs=>rs=[F3 s,F3 [],E1 false]):=by
 have a:=CB s b;rw[A6 h]at a;refine FnOk.intro Tryz.func237 F2 A0 A0 A0 A0 (zz 10 ?_);refine E3 (a) (zz 8 ?_);exact B2 (rs:=[F3 s,F3 [],E1 false]) (zW rfl rfl rfl rfl rfl rfl rfl) rfl
theorem cut_yes(s:Str)(c:s.length<=1000)(h:¬Lib.index s [58,93]<0):FnOk Tryz.prog 237 [F3 s,F3 [58,93]] (fun rs=>rs=[F3 (s.take (Lib.index s [58,93]).toNat),F3 (s.drop ((Lib.index s [58,93]).toNat+2)),E1 true]):=by
 have b:=CB s c;rw[A7 h]at b;refine FnOk.intro Tryz.func237 F2 A0 A0 A0 A0 (zz 10 ?_);refine E3 (b) (zz 8 ?_);exact B2 (rs:=[F3 (s.take (Lib.index s [58,93]).toNat),F3 (s.drop ((Lib.index s [58,93]).toNat+2)),E1 true]) (zW rfl rfl rfl rfl rfl rfl rfl) rfl
abbrev setE(t:Set4):S1:=.one (.eref Unit 4 (fun _ j=>[Cell.v (.int .u64 t.a),Cell.v (.int .u64 t.b),Cell.v (.int .u64 t.c),Cell.v (.int .u64 t.d)].getD j (.v undef)) () 0)
theorem UG(s:Str):UE s [91,58]=if x5 91 58 s=true then [F3 (s.drop 2),E1 true] else [F3 s,E1 false]:=by
 have e:(s.take ([91,58]:Str).length=[91,58])↔x5 91 58 s=true:=by
  unfold x5;rw[decide_eq_true_eq]
  match s with
  | []=>simp
  | [a]=>simp
  | a::b::r=>simp
 unfold UE;by_cases h:x5 91 58 s=true
 ·rw[A6 (e.2 h),A6 h];rfl
 ·rw[A7 (fun g=>h (e.1 g)),A7 h]
theorem xQ{p:Prop}(h:p:=by repeat (first | exact X0 | refine X1 rfl ?_ | refine oT _ (by assumption) ?_)):p:=h
theorem b6y{p:Prop}(h:p:=by (show (_:Int)<=_;first | omega | (dsimp only[PSt.skip];omega))):p:=h
theorem zL{K:List Nat}(m:E5 K 870=true)(X:E5 K 872=true){s:Str}{st:PSt}(t:Set4)(R:M8 t)(hs:SOk s st):PX 221 [G8,(Q5 t).s1] K s st (c9 s t st) (fun W=>[(Q5 W).s1]):=by
 intro gf ob Z hI;have y:=hI.z.self;have al:=hs.len;have an:=hs.at_;have O:B6 (PObs s st Z) 870=none:=y.none (.inr m);obtain⟨rest,p⟩:∃rest,rest=s.drop st.at_:=⟨_,rfl⟩
 have au:rest.length=s.length-st.at_:=by rw[p,B53]
 have A:=KM (s.drop ((st.at_:Nat):Int).toNat) [91,58];rw[B45,<-p,UG]at A
 have d:c9 s t st=if x5 91 58 rest=true then (if Lib.index (rest.drop 2) [58,93]<0 then .error 40 else match Z5 t ((rest.drop 2).take (Lib.index (rest.drop 2) [58,93]).toNat) with
   | none=>.error 40
   | some W=>.ok (st.skip (4+(Lib.index (rest.drop 2) [58,93]).toNat),W)) else match s[st.at_]? with
   | none=>.error 40
   | some c=>if (s.drop (st.at_+1)).length<2\/(s.drop (st.at_+1))[0]?≠some 45\/(s.drop (st.at_+1))[1]?=some 93 then .ok (st.skip 1,t.with_ c.toNat)
    else if ((s.drop (st.at_+1)).getD 1 0).toNat<c.toNat then .error 40
    else .ok (st.skip 3,t.through c.toNat ((s.drop (st.at_+1)).getD 1 0).toNat):=by unfold c9;rw[<-p];rfl
 refine MetX.introH Tryz.func221 F2 rfl rfl rfl (fun hH=>?_);refine C1 (s6 (l:=[(0,.s G8),(1,.s (Q5 t).s1)]) hI lf hH I8) ?_;refine zz 3 ?_;refine C4 (eP 870 O F2) A0 (zz 3 ?_)
 refine C1 (fr':=[(0,.s G8),(3,.s (setE t)),(4,.s (.one (.ref 870 0)))]++B5 K gf) (ob':=(870,CA 0 0 0 0)::PObs s st Z) (B13 lf (B1 hH) xQ (C8 (L:=[(870,_),(810,_),(811,_)]) ⟨rfl,rfl,rfl,trivial⟩ (fun j x hj T=>by
  have h1:=y.key j x T;rw[A8 (fun e=>by rw[<-e,m]at h1;cases h1.2)]
  exact (y.pin.fgt m).sub j x T))) ?_
 by_cases Q:x5 91 58 rest=true
 ·rw[A6 Q]at A d;obtain⟨r,V⟩:∃r,r=rest.drop 2:=⟨_,rfl⟩
  have ad:r.length=rest.length-2:=by rw[V,B53]
  rw[<-V]at A d;have E:FnOk Tryz.prog 236 [F3 (s.drop ((st.at_:Nat):Int).toNat),F3 [91,58]] (fun rs=>rs=[F3 r,E1 true]):=by rw[B45,<-p];exact A
  have ao:2<=rest.length:=by
   have:=(List.getElem?_eq_some_iff.1 (A1 Q).2).1;omega
  refine zz 9 ?_;refine D1 (kL A0 A0 B3 B3) A0 A0 (D1 (K4 (E) A0 A0) A0 A0 ?_);refine zc 10 (fun q=>?_) fun q=>?_;rotate_left
  ·cases q
  refine k2 ?_;by_cases T:Lib.index r [58,93]<0
  ·rw[A6 T]at d;refine zz 2 ?_;refine E3 (cut_no r B3 T) ?_;refine zc 14 (fun q=>?_) fun q=>?_
   ·skip;refine zz 2 ?_;refine O0 A0 ?_;exact H5 I8 (ZOk.sub (K:=K) ((y.pin).cons (.inr m))) ⟨d,rfl⟩
   ·cases q
  ·rw[A7 T]at d;have P:=Lib.index_room r [58,93] B3;rw[show (([58,93]:Str).length:Int)=2 from rfl]at P;obtain⟨k,hk⟩:∃k:Nat,k=(Lib.index r [58,93]).toNat:=⟨_,rfl⟩
   have ab:=cut_yes r B3 T;rw[<-hk]at d ab;have ar:(r.take k).length=k:=by rw[B54];omega
   refine zz 2 ?_;refine E3 (ab) ?_;refine zc 14 (fun q=>?_) fun q=>?_
   ·cases q
   refine zz 16 ?_;rw[show ((st.at_:Int)+(2+((r.take k).length:Int)+2))=((st.at_+(4+k):Nat):Int) by omega];refine zz 1 ?_;have af:ZOk K Z ((870,CA 0 0 0 0)::PObs s st Z):=y.pin.cons (.inr m);cases J:Z5 t (r.take k) with
   | none =>
    rw[J]at d;refine C1 (fr':=[(3,.s (setE t)),(7,Q6 (r.take k))]++B5 K gf) (ob':=PObs s (st.skip (4+k)) Z) (B13 lf (B1 hH) I8 (N6 (K:=K) ⟨rfl,rfl,af.cons (.inl rfl)⟩)) ?_;refine zz 3 ?_;refine M2 (ZX (K:=K) X t (r.take k) J _ _ Z ⟨rfl,rfl,by repeat (first | exact y | refine ZOk.cons ?_ (.inl rfl) | refine ZOk.cons ?_ (.inr y.k8.h811))⟩) dF rfl rfl rfl ?_ ?_
    ·(rintro e ob' ⟨B,rfl⟩;cases B;exact H5 I8 (fun _ _ h=>h) ⟨d,rfl⟩)
    rintro _ _ ⟨_,_,B,_,_⟩;cases B
   | some W =>
    rw[J]at d;refine zz 3 ?_;refine E3 (A75 t W R (r.take k) J) (zz 3 ?_);exact I6 (UF rfl rfl rfl rfl) I8 (N6 (K:=K) (st:=st.skip (4+k)) ⟨rfl,rfl,(af.cons (.inl rfl)).cons (.inr m)⟩) ⟨st.skip (4+k),W,d,rfl,rfl⟩
 ·rw[A7 Q]at A d;have E:FnOk Tryz.prog 236 [F3 (s.drop ((st.at_:Nat):Int).toNat),F3 [91,58]] (fun rs=>rs=[F3 rest,E1 false]):=by rw[B45,<-p];exact A
  refine zz 9 ?_;refine D1 (kL A0 A0 B3 B3) A0 A0 (D1 (K4 (E) A0 A0) A0 A0 ?_);refine zc 10 (fun q=>?_) fun q=>?_
  ·cases q
  refine zz 2 ?_;have ai:KOk [811]:=⟨rfl,rfl⟩
  have aj:B6 Z 870=none:=y.none (.inr m);have w:=y;obtain⟨Z0,v⟩:∃Z0:Obs,Z0=(870,CA 0 0 0 0)::Z:=⟨_,rfl⟩
  have ak:ZOk [811] Z0 Z0:=by
   rw[v];exact ZOk.own ((y.less ai (BY y.k8)).consZ aj) ⟨by decide,rfl⟩ (fun j hj=>rfl) (B4 _ _ _)
  have ac:∀(x:Ob) (st1:PSt),ZOk K Z ((870,x)::PObs s st1 Z0):=fun x st1=>by
   rw[v];exact ((((w.cons (i:=870) (.inr m)).cons (i:=811) (.inr w.k8.h811)).cons (i:=810) (.inl rfl)).cons (i:=870) (.inr m))
  have M:∀(st1:PSt),ZOk K Z (PObs s st1 Z0):=fun st1=>by
   rw[v];exact (((w.cons (i:=870) (.inr m)).cons (i:=811) (.inr w.k8.h811)).cons (i:=810) (.inl rfl))
  refine C1 (fr':=[(0,.s G8),(3,.s (setE t)),(4,.s (.one (.ref 870 0)))]++B5 K gf) (ob':=PObs s st Z0) (B13 lf (B1 hH) I8 (by
   rw[v]
   exact C8 (L:=[(810,_),(811,_),(870,_)]) ⟨rfl,rfl,rfl,trivial⟩ MS)) ?_
  have y:=ak;refine zz 2 ?_;refine M2 (KO (K:=[811]) hs _ _ Z0 ⟨rfl,rfl,by repeat (first | exact y | refine ZOk.cons ?_ (.inl rfl) | refine ZOk.cons ?_ (.inr y.k8.h811))⟩) dF rfl rfl rfl ?_ ?_
  ·(rintro e ob' ⟨B,rfl⟩;exact H5 I8 (ZOk.sub (K:=K) (by rw[v];exact w.cons (i:=870) (.inr m))) ⟨by rw[d,(PB B).1,(PB B).2],rfl⟩)
  rintro _ _ ⟨st1,c,B,rfl,rfl⟩;refine zz 2 ?_;obtain⟨hv,rfl⟩:s[st.at_]?=some c/\st1=st.skip 1:=by
   unfold dR at B;cases hv:s[st.at_]? with
   | none=>rw[hv]at B;cases B
   | some c2=>rw[hv]at B;cases B;exact⟨rfl,rfl⟩
  rw[hv]at d;dsimp only at d;have aq:=(List.getElem?_eq_some_iff.1 hv).1;obtain⟨r,V⟩:∃r,r=s.drop (st.at_+1):=⟨_,rfl⟩
  have ad:r.length=s.length-(st.at_+1):=by rw[V,B53]
  rw[<-V]at d;have ae:2<=r.length->r[((0:Int)).toNat]?=some (r.getD 0 0):=fun h=>by rw[B46];show r[0]?=_;rw[B44 B3];rfl
  have S:2<=r.length->r[((1:Int)).toNat]?=some (r.getD 1 0):=fun h=>by rw[B46];show r[1]?=_;rw[B44 B3];rfl
  refine zz 10 ?_;refine D1 (kL A0 A0 b6y b6y) A0 A0 (zz 2 ?_);rw[show (((st.skip 1).at_:Nat):Int).toNat=st.at_+1 from rfl,<-V];refine zz 8 ?_;refine F7 A0 A0 A0 A0 (fun hg=>by have hq:=hg;(try simp at hq);rw[hg];exact G9 A0 A0 B3 (ae B3)) ?_;refine zz 4 ?_;refine F7 A0 A0 A0 A0 (fun hg=>by have hq:=hg;(try simp at hq);rw[hg];exact G9 A0 A0 B3 (S B3)) ?_;refine zz 3 ?_;simp only[or_pick];obtain⟨U,Y⟩:∃U,U=r.getD 0 0:=⟨_,rfl⟩
  obtain⟨G,H⟩:∃G,G=r.getD 1 0:=⟨_,rfl⟩
  rw[<-Y,<-H];rw[<-H]at d;have C:(((r.length:Int)<2\/¬(U.toNat:Int)=45)\/(G.toNat:Int)=93)↔(r.length<2\/r[0]?≠some 45\/r[1]?=some 93):=by
   have ag:(U.toNat:Int)=45↔U=45:=⟨fun h=>UInt8.toNat_inj.1 (by have:(45:UInt8).toNat=45:=rfl;omega),fun h=>by rw[h];rfl⟩
   have ah:(G.toNat:Int)=93↔G=93:=⟨fun h=>UInt8.toNat_inj.1 (by have:(93:UInt8).toNat=93:=rfl;omega),fun h=>by rw[h];rfl⟩
   rw[ag,ah];by_cases h2:r.length<2
   ·constructor
    ·intro _;exact .inl h2
    ·intro _;exact .inl (.inl B3)
   ·have a0:=ae B3;have a1:=S B3;rw[<-Y]at a0;rw[<-H]at a1;have a0:r[0]?=some U:=a0;have a1:r[1]?=some G:=a1;rw[a0,a1];simp only[ne_eq,Option.some.injEq];constructor
    ·rintro ((h | h) | h)
     ·omega
     ·exact .inr (.inl h)
     ·exact .inr (.inr h)
    ·rintro (h | h | h)
     ·omega
     ·exact .inl (.inr h)
     ·exact .inr h
  refine zc 0 (fun q=>?_) fun q=>?_
  ·have I:=C.1 (A1 q);rw[A6 I]at d;refine zz 4 ?_;refine E3 (tQ t R c) (V1 (K0 TySz.out A0 (by rw[v];rfl) A0 A0 A0 A0) ?_);refine zz 2 ?_;exact I6 (UF rfl rfl rfl rfl) I8 (N6 (K:=K) (st:=st.skip 1) ⟨rfl,rfl,ac _ _⟩) ⟨st.skip 1,t.with_ c.toNat,d,rfl,rfl⟩
  have I:¬(r.length<2\/r[0]?≠some 45\/r[1]?=some 93):=fun h=>A3 q (C.2 h);rw[A7 I]at d;have h2:2<=r.length:=by
   apply Nat.le_of_not_lt;exact fun h=>I (.inl h)
  have F:=S h2;rw[<-H]at F;refine zz 5 ?_;refine B0 (G9 A0 A0 B3 F) A0 ?_;refine zc 3 (fun q=>?_) fun q=>?_
  ·have am:(G.toNat:Int)<c.toNat:=A1 q;rw[A6 B3]at d;skip;refine zz 2 ?_;refine O0 A0 ?_;exact H5 I8 (M _).sub ⟨d,rfl⟩
  have ap:¬(G.toNat:Int)<c.toNat:=A3 q;rw[A7 B3]at d;refine zz 7 ?_;refine B0 (Y6 A0 A0 (by (dsimp only[PSt.skip];omega))) A0 ?_;refine zz 9 ?_;refine D1 (G9 A0 A0 B3 F) A0 A0 (D1 (K4 (BW t R c G B3) A0 A0) A0 A0 (FY (K0 TySz.out A0 (by rw[v];rfl) A0 A0 A0 A0) A0 ?_));refine zz 2 ?_;exact I6 (UF rfl rfl rfl rfl) I8 (N6 (K:=K) (st:=st.skip 3) ⟨rfl,rfl,by rw[v];exact (((((w.cons (i:=870) (.inr m)).cons (i:=811) (.inr w.k8.h811)).cons (i:=810) (.inl rfl)).cons (i:=810) (.inl rfl)).cons (i:=870) (.inr m))⟩) ⟨st.skip 3,t.through c.toNat G.toNat,d,rfl,rfl⟩
abbrev lG(t:Set4):Ob:=CA t.a t.b t.c t.d
theorem A76{K:List Nat}(ab:E5 K 870=true)(d:E5 K 871=true)(ac:E5 K 872=true){s:Str}{st:PSt}(hs:SOk s st)(af:st.at_+1<=s.length):PX 195 [G8] K s st (l5 s (s.length+2) st) r9:=by
 intro gf ob Z hI;have v:=hI.z.self;have V:=v;have aq:=hs.len;have av:=hs.at_;have ae:KOk [811,872,870]:=⟨rfl,rfl⟩
 have T:∀k,E5 [811,872,870] k=true->E5 K k=true:=fun k hk=>by
  have h:=hasN_iff.1 hk;simp only[B66,B84,or_false]at h;rcases h with rfl | rfl | rfl
  ·exact v.k8.h811
  ·exact ac
  ·exact ab
 have U:B6 Z 871=none:=v.none (.inr d);obtain⟨Z1,a⟩:∃Z1:Ob->Obs,Z1=fun x=>(871,x)::Z:=⟨_,rfl⟩
 have ah:∀t:Set4,ZOk [811,872,870] (Z1 (lG t)) (Z1 (lG t)):=fun t=>by
  rw[a];exact ZOk.own ((v.less ae T).consZ U) ⟨by decide,rfl⟩ (fun j hj=>rfl) (B4 _ _ _)
 have ai:∀(x:Ob),ZOk K Z (Z1 x):=fun x=>by rw[a];exact V.cons (i:=871) (.inr d)
 have W:∀(x:Ob) (st1:PSt),ZOk K Z (PObs s st1 (Z1 x)):=fun x st1=>(((ai x).cons (i:=811) (.inr V.k8.h811)).cons (i:=810) (.inl rfl))
 have an:ZOk [811,872,870] Z Z:=v.less ae T;have g1:=K6 (s:=s) (x:=st) 1 af;have ak:=hs.gr g1 B3;have g2:=oI (s:=s) (x:=st.skip 1) 94 g1.len;have I:=ak.gr g2 B3;obtain⟨y,H⟩:∃y,y=M9 s 94 (st.skip 1):=⟨_,rfl⟩
 obtain⟨A,D⟩:∃A,A=eM s 94 (st.skip 1):=⟨_,rfl⟩
 have q:l5 s (s.length+2) st=match c9 s set0 A with
   | .error e=>.error e
   | .ok (N,t)=>match j9 s (s.length+2) t N with
    | .error e=>.error e
    | .ok (st4,t')=>.ok (fZ (if y=true then t'.compl else t') st4):=by rw[D,H];rfl
 have e2:(if s[st.at_+1]?=some 94 then st.at_+1+1 else st.at_+1)=A.at_/\st.depth=A.depth/\st.nodes=A.nodes/\decide (s[st.at_+1]?=some 94)=y:=by
  by_cases h:s[st.at_+1]?=some 94
  ·have P:M9 s 94 (st.skip 1)=true:=A4 h;have he:eM s 94 (st.skip 1)=(st.skip 1).skip 1:=by unfold eM;rw[A6 P]
   rw[D,he,H,P,A6 h];exact⟨rfl,rfl,rfl,A4 h⟩
  ·have P:M9 s 94 (st.skip 1)=false:=A5 h;have he:eM s 94 (st.skip 1)=st.skip 1:=by unfold eM;rw[A7 (by rw[P];decide)]
   rw[D,he,H,P,A7 h];exact⟨rfl,rfl,rfl,A5 h⟩
 rw[<-D]at I g2;refine MetX.introH Tryz.func195 F2 rfl rfl rfl (fun Y=>?_);refine C1 (s6 (l:=[(0,.s G8)]) hI ⟨Y7 rfl,trivial⟩ Y I8) ?_;refine zz 18 ?_;refine H8 (v7 s (st.at_+1) st.depth 94 af B3 A0) A0 A0 A0 ?_;rintro _ _ ⟨rfl,rfl⟩;refine zz 2 ?_;rw[e2.1,e2.2.2.2];refine zz 1 ?_;refine C1 (fr':=[(0,.s G8),(3,K9 y)]++B5 K gf) (ob':=PObs s A Z) (B13 lf (B1 Y) I8 (N6 (K:=K) ⟨by rw[B4,e2.2.1],by rw[<-e2.2.2.1];rfl,((v.pin).cons (.inl rfl)).cons (.inl rfl)⟩)) ?_;have ax:=v;have v:ZOk [811,872,870] Z Z:=an;have ar:B6 (PObs s A Z) 871=none:=U;cases S:c9 s set0 A with
 | error e0 =>
  rw[S]at q;refine zz 3 ?_;refine M2 (zL (K:=[811,872,870]) rfl rfl set0 j1 I _ _ Z ⟨rfl,rfl,by repeat (first | exact v | refine ZOk.cons ?_ (.inl rfl) | refine ZOk.cons ?_ (.inr v.k8.h811))⟩) dF rfl rfl rfl ?_ ?_
  ·(rintro e ob' ⟨G,rfl⟩;rw[S]at G;cases G;exact H5 I8 (fun _ _ h=>h) ⟨q,rfl⟩)
  rintro _ _ ⟨_,_,G,_,_⟩;rw[S]at G;cases G
 | ok p =>
  obtain⟨N,t⟩:=p;rw[S]at q;dsimp only at q;have g3:=lY I.at_ S;have al:=I.gr g3 B3;have am:=IQ j1 S;obtain⟨RI,ad⟩:∃RI,RI=j9 s (s.length+2) t N:=⟨_,rfl⟩
  rw[<-ad]at q;refine zz 3 ?_;refine M2 (zL (K:=[811,872,870]) rfl rfl set0 j1 I _ _ Z ⟨rfl,rfl,by repeat (first | exact v | refine ZOk.cons ?_ (.inl rfl) | refine ZOk.cons ?_ (.inr v.k8.h811))⟩) dF rfl rfl rfl ?_ ?_
  ·(rintro e ob' ⟨G,rfl⟩;rw[S]at G;cases G)
  rintro _ _ ⟨aj,t',G,rfl,rfl⟩;refine C4 (eP 871 U F2) A0 (zz 2 ?_);obtain⟨rfl,rfl⟩:N=aj/\t=t':=by rw[S]at G;cases G;exact⟨rfl,rfl⟩
  refine zz 2 ?_;refine C2 (X:=Nat×Set4×PSt) (fun x=>([(0,.s G8),(3,K9 y),(4,.s (.one (.ref 871 0)))]++B5 K gf,PObs s x.2.2 (Z1 (lG x.2.1)))) (fun x=>SOk s x.2.2/\M8 x.2.1/\s.length-x.2.2.at_<x.1/\RI=j9 s x.1 x.2.1 x.2.2) (fun x=>x.1) (s.length+2,t,N) ⟨al,am,by dsimp only;omega,ad⟩ ?_ ?_
  ·dsimp only;refine B13 lf (B1 Y) (by repeat (first | exact X0 | refine X1 rfl ?_ | refine oT _ d ?_)) ?_;rw[a];exact C8 (L:=[(810,_),(811,_),(871,_)]) ⟨rfl,rfl,rfl,trivial⟩ (fun j x hj hx=>(((V.pin.fgt d).cons (i:=871) (.inr d)).cons (i:=871) (.inr d)).sub j x hx)
  rintro⟨f,O,E⟩ ⟨C,J,hf,w⟩;dsimp only at C J hf w ⊢;obtain⟨f,rfl⟩:∃g,f=g+1:=⟨f-1,by omega⟩
  rw[j9]at w;have v:=ah O;refine zz 4 ?_;refine H8 (v7 s E.at_ E.depth 93 C.at_ B3 A0) A0 A0 A0 ?_;rintro _ _ ⟨rfl,rfl⟩;refine zz 2 ?_;by_cases F:s[E.at_]?=some 93
  ·have P:M9 s 93 E=true:=A4 F;have ag:=C.gr (K6 (s:=s) (x:=E) 1 (Z8 P)) B3;have aw:=ag.nds;have au:=ag.at_;rw[A6 P]at w;rw[w]at q;dsimp only at q;rw[A4 F,A6 F];refine zc 0 (fun Q=>?_) fun Q=>?_
   ·cases Q
   refine zz 3 ?_;obtain⟨R,M⟩:∃R,R=if y=true then O.compl else O:=⟨_,rfl⟩
   rw[<-M]at q;refine zz 3 ?_;refine S7 ([(0,.s G8),(4,.s (.one (.ref 871 0)))]++B5 K gf) (PObs s (E.skip 1) (Z1 (lG R))) ?_ ?_
   ·skip;refine zc 0 (fun Q=>?_) fun Q=>?_
    ·have hb:y=true:=Q;rw[A6 hb]at M;subst M;skip;refine zz 1 ?_;refine B0 (cS A0 (by rw[a];rfl) A0) A0 ?_;refine E3 (qQ O J) (V1 (K0 TySz.out A0 (by rw[a];rfl) A0 A0 A0 A0) ?_);refine zz 1 ?_;refine B13 lf (B1 Y) I8 ?_;rw[a]
     exact C8 (L:=[(810,_),(811,_),(871,_)]) ⟨rfl,rfl,rfl,trivial⟩ (fun j x hj hx=>by
      have:=W (lG O) E;rw[a]at this
      exact ((this.cons (i:=810) (.inl rfl)).cons (i:=871) (.inr d)).sub j x hx)
    ·have hb:y=false:=Q;rw[A7 (by rw[hb];decide)]at M;subst M;refine zz 1 ?_;exact B13 lf (B1 Y) I8 (N6 (K:=[811,872,870]) (st:=E.skip 1) ⟨rfl,rfl,by repeat (first | exact v | refine ZOk.cons ?_ (.inl rfl) | refine ZOk.cons ?_ (.inr v.k8.h811))⟩)
   refine k2 ?_;have v:=ah R;refine zz 2 ?_;refine B0 (cS A0 (by rw[a];rfl) A0) A0 ?_;refine S0 (KP (K:=[811,872,870]) (s:=s) (st:=E.skip 1) (Z:=Z1 (lG R)) R B3 ⟨rfl,rfl,by repeat (first | exact v | refine ZOk.cons ?_ (.inl rfl) | refine ZOk.cons ?_ (.inr v.k8.h811))⟩) dF rfl rfl rfl ?_;rintro _ _ ⟨rfl,rfl⟩;refine zz 2 ?_;refine zz 1 ?_;exact I6 (F1 rfl rfl) I8 (N6 (K:=K) (st:=(fZ R (E.skip 1)).1) ⟨rfl,rfl,W _ _⟩) ⟨(fZ R (E.skip 1)).1,(fZ R (E.skip 1)).2,q,rfl,rfl⟩
  ·have P:M9 s 93 E=false:=A5 F;rw[A7 (by rw[P];decide)]at w;rw[A5 F,A7 F];refine zc 0 (fun Q=>?_) fun Q=>?_;rotate_left
   ·cases Q
   refine zz 2 ?_;cases B:c9 s O E with
   | error e0 =>
    rw[B]at w;rw[w]at q;refine zz 2 ?_;refine B0 (cS A0 (by rw[a];rfl) A0) A0 ?_;refine M2 (zL (K:=[811,872,870]) rfl rfl O J C _ _ (Z1 (lG O)) ⟨rfl,rfl,by repeat (first | exact v | refine ZOk.cons ?_ (.inl rfl) | refine ZOk.cons ?_ (.inr v.k8.h811))⟩) dF rfl rfl rfl ?_ ?_
    ·(rintro e ob' ⟨m,rfl⟩;rw[B]at m;cases m;exact H5 I8 (ai _).sub ⟨q,rfl⟩)
    rintro _ _ ⟨_,_,m,_,_⟩;rw[B]at m;cases m
   | ok p2 =>
    obtain⟨sd,td⟩:=p2;rw[B]at w;dsimp only at w;have gd:=lY C.at_ B;have gc:=gd.cnt;have ga:=gd.len;have gb:=gd.at_;have gm:=gd.more;refine zz 2 ?_;refine B0 (cS A0 (by rw[a];rfl) A0) A0 ?_;refine M2 (zL (K:=[811,872,870]) rfl rfl O J C _ _ (Z1 (lG O)) ⟨rfl,rfl,by repeat (first | exact v | refine ZOk.cons ?_ (.inl rfl) | refine ZOk.cons ?_ (.inr v.k8.h811))⟩) dF rfl rfl rfl ?_ ?_
    ·(rintro e ob' ⟨m,rfl⟩;rw[B]at m;cases m)
    rintro _ _ ⟨ao,ap,m,rfl,rfl⟩;refine V1 (K0 TySz.out A0 (by rw[a];rfl) A0 A0 A0 A0) ?_;refine zz 1 ?_;obtain⟨rfl,rfl⟩:sd=ao/\td=ap:=by rw[B]at m;cases m;exact⟨rfl,rfl⟩
    refine zz 0 ?_;refine⟨(f,td,sd),⟨C.gr gd B3,IQ J B,?_,w⟩,Nat.lt_succ_self f,?_⟩
    ·dsimp only;omega
    ·dsimp only;refine B13 lf (B1 Y) I8 ?_;rw[a]
     exact C8 (L:=[(810,_),(811,_),(871,_)]) ⟨rfl,rfl,rfl,trivial⟩ (fun j x hj hx=>by
      have:=W (lG O) sd;rw[a]at this
      exact (this.cons (i:=871) (x:=lG td) (.inr d)).sub j x hx)
theorem HC{K:List Nat}{s:Str}{st:PSt}(y:SOk s st)(C:st.at_+1<=s.length)(a:Int):PX 177 [G8,N8 a] K s st (U2 s a st) r9:=by
 intro gf ob Z v;have j:=v.z.self;have x:=y.len;have D:=y.nds;obtain⟨st1,b⟩:∃st1,st1=(U8 ⟨a,set0,0,0,[]⟩ (st.skip 1)).1:=⟨_,rfl⟩
 have m:U2 s a st=match s[st.at_+1]? with
  | some c=>if c∈([42,43,63,123]:Str) then .error 40 else .ok (st1,((st.skip 1).nodes.length:Int))
  | none=>.ok (st1,((st.skip 1).nodes.length:Int)):=by rw[b];rfl
 have q:st1.at_=st.at_+1:=by rw[b];rfl
 refine MetX.introH Tryz.func177 F2 rfl rfl rfl (fun B=>?_);refine C1 (s6 (l:=[(0,.s G8),(1,.s (N8 a))]) v lf B I8) ?_;refine zz 20 ?_;refine fF ((B16 Int 1 D2 17 7 A0 A0)) ?_;refine S0 (add_pm (K:=K) (s:=s) (st:=st.skip 1) (Z:=Z) ⟨a,set0,0,0,[]⟩ (show st.nodes.length<=1000 by omega) ⟨rfl,rfl,by repeat (first | exact j | refine ZOk.cons ?_ (.inl rfl) | refine ZOk.cons ?_ (.inr j.k8.h811))⟩) dF rfl rfl rfl ?_;rintro _ _ ⟨rfl,rfl⟩;refine zz 2 ?_;rw[<-b];refine zz 2 ?_;by_cases u:st.at_+1<s.length
 ·have A:s[st.at_+1]?=some (s.getD (st.at_+1) 0):=by rw[B46,B44 u];rfl
  obtain⟨c,w⟩:∃c,c=s.getD (st.at_+1) 0:=⟨_,rfl⟩
  rw[<-w]at A;rw[A]at m;dsimp only at m;refine zz 2 ?_;refine H8 (jR s st1.at_ st1.depth B3 B3 A0) A0 A0 A0 ?_;rintro _ _ ⟨rfl,rfl⟩;refine zz 6 ?_;rw[q,A4 u,<-w];refine zz 7 ?_;refine E3 (JX [42,43,63,123] c) (zz 2 ?_);refine B0 (L6 A0 (rfl) A0) A0 ?_;refine zc 1 (fun p=>?_) fun p=>?_
  ·have f:=(iZ c _).1 (A1 p);skip;refine zz 2 ?_;refine O0 A0 ?_;exact H5 I8 j.pobs ⟨by rw[m];exact A6 f,rfl⟩
  have f:¬c∈([42,43,63,123]:Str):=fun e=>A3 p ((iZ c _).2 e);refine zz 7 ?_;exact I6 (F1 rfl rfl) I8 (N6 (K:=K) (st:=st1) ⟨rfl,rfl,by repeat (first | exact j | refine ZOk.cons ?_ (.inl rfl) | refine ZOk.cons ?_ (.inr j.k8.h811))⟩) ⟨st1,_,by rw[m];exact A7 f,rfl,rfl⟩
 rw[B56 (show s.length<=st.at_+1 by omega)]at m;refine zz 2 ?_;refine H8 (jR s st1.at_ st1.depth B3 B3 A0) A0 A0 A0 ?_;rintro _ _ ⟨rfl,rfl⟩;refine zz 6 ?_;rw[q,A5 u];refine zz 7 ?_;refine B0 (V3 A0 (rfl) A0) A0 ?_;refine zc 1 (fun p=>?_) fun p=>?_
 ·cases p
 refine zz 7 ?_;exact I6 (F1 rfl rfl) I8 (N6 (K:=K) (st:=st1) ⟨rfl,rfl,by repeat (first | exact j | refine ZOk.cons ?_ (.inl rfl) | refine ZOk.cons ?_ (.inr j.k8.h811))⟩) ⟨st1,_,m,rfl,rfl⟩
def HD(c:UInt8):FuncId:=if c=40 then 194 else if c=91 then 195 else if c=46 then 196 else if c=92 then 197 else 198
def stepP(st:PSt)(c:UInt8):Ps FuncId:=if c∈([42,43,63,123]:Str) then .error 40 else .ok (st,HD c)
abbrev cloR:FuncId->List S1:=fun f=>[.one (.clo f [(810,0)] [])]
theorem XN{K:List Nat}{s:Str}{st:PSt}(c:UInt8):PX 178 [G8,b8 c] K s st (stepP st c) cloR:=by
 intro gf ob Z w;have f:=w.z.self;have g:∀k:UInt8,(c.toNat:Int)=k.toNat->c=k:=fun k e=>UInt8.toNat_inj.1 B3;have d:∀k:UInt8,¬((c.toNat:Int)=k.toNat)->¬c=k:=fun k h e=>h (by rw[e]);refine MetX.introH Tryz.func178 F2 rfl rfl rfl (fun x=>?_);refine C1 (s6 (l:=[(0,.s G8),(1,.s (b8 c))]) w lf x I8) ?_;refine zc 15 (fun a=>?_) fun a=>?_
 ·have b:=g 40 (A1 a);refine zz 7 ?_;exact I6 (F1 rfl rfl) I8 (N6 (K:=K) (st:=st) ⟨rfl,rfl,by repeat (first | exact f | refine ZOk.cons ?_ (.inl rfl) | refine ZOk.cons ?_ (.inr f.k8.h811))⟩) ⟨st,_,by rw[b];rfl,rfl,rfl⟩
 have m:=d 40 (A3 a);refine zc 5 (fun a=>?_) fun a=>?_
 ·have b:=g 91 (A1 a);refine zz 7 ?_;exact I6 (F1 rfl rfl) I8 (N6 (K:=K) (st:=st) ⟨rfl,rfl,by repeat (first | exact f | refine ZOk.cons ?_ (.inl rfl) | refine ZOk.cons ?_ (.inr f.k8.h811))⟩) ⟨st,_,by rw[b];rfl,rfl,rfl⟩
 have u:=d 91 (A3 a);refine zc 5 (fun a=>?_) fun a=>?_
 ·have b:=g 46 (A1 a);refine zz 7 ?_;exact I6 (F1 rfl rfl) I8 (N6 (K:=K) (st:=st) ⟨rfl,rfl,by repeat (first | exact f | refine ZOk.cons ?_ (.inl rfl) | refine ZOk.cons ?_ (.inr f.k8.h811))⟩) ⟨st,_,by rw[b];rfl,rfl,rfl⟩
 have q:=d 46 (A3 a);refine zc 5 (fun a=>?_) fun a=>?_
 ·have b:=g 92 (A1 a);refine zz 7 ?_;exact I6 (F1 rfl rfl) I8 (N6 (K:=K) (st:=st) ⟨rfl,rfl,by repeat (first | exact f | refine ZOk.cons ?_ (.inl rfl) | refine ZOk.cons ?_ (.inr f.k8.h811))⟩) ⟨st,_,by rw[b];rfl,rfl,rfl⟩
 have v:=d 92 (A3 a);refine zc 6 (fun a=>?_) fun a=>?_
 ·have b:=g 42 (A1 a);refine zc 1 (fun a=>?_) fun a=>?_
  ·skip;refine zz 2 ?_;refine O0 A0 ?_;exact H5 I8 f.pobs ⟨by rw[b];rfl,rfl⟩
  ·rw[b]at a;cases a
 have o:=d 42 (A3 a);refine zc 5 (fun a=>?_) fun a=>?_
 ·have b:=g 43 (A1 a);refine zc 1 (fun a=>?_) fun a=>?_
  ·skip;refine zz 2 ?_;refine O0 A0 ?_;exact H5 I8 f.pobs ⟨by rw[b];rfl,rfl⟩
  ·rw[b]at a;cases a
 have p:=d 43 (A3 a);refine zc 5 (fun a=>?_) fun a=>?_
 ·have b:=g 63 (A1 a);refine zc 1 (fun a=>?_) fun a=>?_
  ·skip;refine zz 2 ?_;refine O0 A0 ?_;exact H5 I8 f.pobs ⟨by rw[b];rfl,rfl⟩
  ·rw[b]at a;cases a
 have t:=d 63 (A3 a);skip;refine zc 4 (fun a=>?_) fun a=>?_
 ·have b:=g 123 (A1 a);skip;refine zz 2 ?_;refine O0 A0 ?_;exact H5 I8 f.pobs ⟨by rw[b];rfl,rfl⟩
 have j:=d 123 (A3 a);refine zz 8 ?_;refine I6 (F1 rfl rfl) I8 (N6 (K:=K) (st:=st) ⟨rfl,rfl,by repeat (first | exact f | refine ZOk.cons ?_ (.inl rfl) | refine ZOk.cons ?_ (.inr f.k8.h811))⟩) ⟨st,_,?_,rfl,rfl⟩;unfold stepP HD;rw[A7 (by simp only[B66,B84,or_false,o,p,t,j,not_false_eq_true]),A7 m,A7 u,A7 q,A7 v]
def CC(s:Str)(f:Nat)(st:PSt)(c:UInt8):Ps Int:=if c=40 then S5 s F8 f st else if c=91 then l5 s (s.length+2) st else if c=46 then .ok (zD st) else if c=92 then cN s st else R4 s st
theorem atom_gr{s:Str}{f:Nat}{st:PSt}{c:UInt8}(b:st.at_+1<=s.length){z:PSt}{k:Int}(h:CC s f st c=.ok (z,k)):Gr s 0 0 st z/\sK z k:=by
 unfold CC at h;split at h
 ·exact (V6 f).paren b h
 split at h
 ·exact uZ b h
 split at h
 ·have d:=VX (s:=s) (x:=st) b;rw[Except.ok.inj h]at d;exact d
 split at h
 ·exact pQ b h
 ·exact kC h
theorem atom_px{K:List Nat}(a:E5 K 870=true)(b:E5 K 871=true)(d:E5 K 872=true){s:Str}{st:PSt}(i:SOk s st)(e:st.at_+1<=s.length){f:Nat}{c:UInt8}
  (g:c=40->PX 194 [G8] K s st (S5 s F8 f st) r9):PX (HD c) [G8] K s st (CC s f st c) r9:=by
 unfold HD CC;split
 ·rename_i h;exact g h
 split
 ·exact A76 a b d i e
 split
 ·exact any_px i
 split
 ·exact ZY i e
 ·exact ZW i
theorem PC{K:List Nat}(L:E5 K 870=true)(M:E5 K 871=true)(N:E5 K 872=true){s:Str}{st:PSt}(J:SOk s st){f:Nat}{c:UInt8}(hc:s[st.at_]?=some c)
  (T:c=40->PX 194 [G8] K s st (S5 s F8 f st) r9):PX 152 [G8,b8 c] K s st (Z6 s F8 (f+1) st c) r9:=by
 intro gf ob Z Y;have d:=Y.z.self;have ab:=J.len;have hn:=J.nds;have E:st.at_+1<=s.length:=by have:=(List.getElem?_eq_some_iff.1 hc).1;omega
 have hu:∀k:UInt8,(c.toNat:Int)=k.toNat->c=k:=fun k e=>UInt8.toNat_inj.1 B3;have S:∀k:UInt8,¬((c.toNat:Int)=k.toNat)->¬c=k:=fun k h e=>h (by rw[e]);obtain⟨R,g⟩:∃R,R=Z6 s F8 (f+1) st c:=⟨_,rfl⟩
 rw[<-g];rw[Z6]at g;refine MetX.introH Tryz.func152 F2 rfl rfl rfl (fun hH=>?_);refine C1 (s6 (l:=[(0,.s G8),(1,.s (b8 c))]) Y lf hH I8) ?_;refine zc 15 (fun x=>?_) fun x=>?_
 ·have H:=hu 94 (A1 x);rw[A6 H]at g;refine zz 3 ?_;refine M2 (HC (K:=K) J E 2 _ _ Z ⟨rfl,rfl,by repeat (first | exact d | refine ZOk.cons ?_ (.inl rfl) | refine ZOk.cons ?_ (.inr d.k8.h811))⟩) dF rfl rfl rfl ?_ ?_
  ·(rintro e ob' ⟨a,rfl⟩;exact H5 I8 (fun _ _ h=>h) ⟨by rw[g,a],rfl⟩)
  rintro _ _ ⟨j,v,a,rfl,rfl⟩;refine zz 2 ?_;refine zz 1 ?_;exact I6 (F1 rfl rfl) I8 (N6 (K:=K) (st:=j) ⟨rfl,rfl,by repeat (first | exact d | refine ZOk.cons ?_ (.inl rfl) | refine ZOk.cons ?_ (.inr d.k8.h811))⟩) ⟨j,v,by rw[g,a],rfl,rfl⟩
 have H:=S 94 (A3 x);rw[A7 H]at g;refine zc 5 (fun x=>?_) fun x=>?_
 ·have G:=hu 36 (A1 x);rw[A6 G]at g;refine zz 3 ?_;refine M2 (HC (K:=K) J E 3 _ _ Z ⟨rfl,rfl,by repeat (first | exact d | refine ZOk.cons ?_ (.inl rfl) | refine ZOk.cons ?_ (.inr d.k8.h811))⟩) dF rfl rfl rfl ?_ ?_
  ·(rintro e ob' ⟨a,rfl⟩;exact H5 I8 (fun _ _ h=>h) ⟨by rw[g,a],rfl⟩)
  rintro _ _ ⟨j,v,a,rfl,rfl⟩;refine zz 2 ?_;refine zz 1 ?_;exact I6 (F1 rfl rfl) I8 (N6 (K:=K) (st:=j) ⟨rfl,rfl,by repeat (first | exact d | refine ZOk.cons ?_ (.inl rfl) | refine ZOk.cons ?_ (.inr d.k8.h811))⟩) ⟨j,v,by rw[g,a],rfl,rfl⟩
 have G:=S 36 (A3 x);rw[A7 G]at g;refine zz 2 ?_;by_cases W:c∈([42,43,63,123]:Str)
 ·have P:stepP st c=.error 40:=A6 W;have O:R=.error 40:=by
   rw[g];simp only[B66,B84,or_false]at W;rcases W with rfl | rfl | rfl | rfl<;>rfl
  refine zz 3 ?_;refine M2 (XN (K:=K) (s:=s) (st:=st) c _ _ Z ⟨rfl,rfl,by repeat (first | exact d | refine ZOk.cons ?_ (.inl rfl) | refine ZOk.cons ?_ (.inr d.k8.h811))⟩) dF rfl rfl rfl ?_ ?_
  ·(rintro e ob' ⟨a,rfl⟩;rw[P]at a;cases a;exact H5 I8 (fun _ _ h=>h) ⟨O,rfl⟩)
  rintro _ _ ⟨j,v,a,rfl,rfl⟩;rw[P]at a;cases a
 have P:stepP st c=.ok (st,HD c):=A7 W;have I:R=R5 s F8 (CC s f st c):=by
  rw[g];unfold CC;split
  ·rfl
  split
  ·rfl
  split
  ·rfl
  split
  ·rfl
  ·rfl
 clear g;refine zz 3 ?_;refine M2 (XN (K:=K) (s:=s) (st:=st) c _ _ Z ⟨rfl,rfl,by repeat (first | exact d | refine ZOk.cons ?_ (.inl rfl) | refine ZOk.cons ?_ (.inr d.k8.h811))⟩) dF rfl rfl rfl ?_ ?_
 ·(rintro e ob' ⟨a,rfl⟩;rw[P]at a;cases a)
 rintro _ _ ⟨j,v,a,rfl,rfl⟩;rw[P]at a;cases a;refine zz 2 ?_;refine zz 1 ?_;obtain⟨F,hF⟩:∃F,F=HD c:=⟨_,rfl⟩
 have D:=atom_px L M N J E (c:=c) T;rw[<-hF]at D ⊢;obtain⟨A,hA⟩:∃A,A=CC s f st c:=⟨_,rfl⟩
 have Q:=fun z k=>atom_gr (f:=f) (c:=c) E (z:=z) (k:=k);rw[<-hA]at D I Q;cases A with
 | error e0 =>
  refine zz 2 ?_;refine NQ (D _ _ Z ⟨rfl,rfl,by repeat (first | exact d | refine ZOk.cons ?_ (.inl rfl) | refine ZOk.cons ?_ (.inr d.k8.h811))⟩) dF rfl rfl rfl rfl ?_ ?_
  ·(rintro e ob' ⟨a,rfl⟩;cases a;exact H5 I8 (fun _ _ h=>h) ⟨I,rfl⟩)
  rintro _ _ ⟨j,v,a,rfl,rfl⟩;cases a
 | ok p =>
  obtain⟨j,k⟩:=p;obtain⟨X,i2⟩:=Q j k rfl;have w:=J.gr X (Nat.le_refl _);have af:=w.nds;have ad:=w.at_;refine zz 2 ?_;refine NQ (D _ _ Z ⟨rfl,rfl,by repeat (first | exact d | refine ZOk.cons ?_ (.inl rfl) | refine ZOk.cons ?_ (.inr d.k8.h811))⟩) dF rfl rfl rfl rfl ?_ ?_
  ·(rintro e ob' ⟨a,rfl⟩;cases a)
  rintro _ _ ⟨ac,v,a,rfl,rfl⟩;cases a;refine zz 2 ?_;refine zz 1 ?_;have y:R=match V5 s F8 j with
   | .error e=>.error e
   | .ok (st',none)=>.ok (st',k)
   | .ok (st',some (t,u))=>.ok (U8 ⟨6,set0,t,u,[k]⟩ st'):=by rw[I];rfl
  cases m:V5 s F8 j with
  | error e0 =>
   rw[m]at y;refine zz 2 ?_;refine M2 (BX (K:=K) w _ _ Z ⟨rfl,rfl,by repeat (first | exact d | refine ZOk.cons ?_ (.inl rfl) | refine ZOk.cons ?_ (.inr d.k8.h811))⟩) dF rfl rfl rfl ?_ ?_
   ·(rintro e ob' ⟨a,rfl⟩;rw[m]at a;cases a;exact H5 I8 (fun _ _ h=>h) ⟨y,rfl⟩)
   rintro _ _ ⟨C,b,a,rfl,rfl⟩;rw[m]at a;cases a
  | ok q =>
   obtain⟨C,b⟩:=q;rw[m]at y;cases b with
   | none =>
    refine zz 2 ?_;refine M2 (BX (K:=K) w _ _ Z ⟨rfl,rfl,by repeat (first | exact d | refine ZOk.cons ?_ (.inl rfl) | refine ZOk.cons ?_ (.inr d.k8.h811))⟩) dF rfl rfl rfl ?_ ?_
    ·(rintro e ob' ⟨a,rfl⟩;rw[m]at a;cases a)
    rintro _ _ ⟨V,b,a,B,rfl⟩;rw[m]at a;cases a;dsimp only at B;subst B;refine zz 8 ?_;refine zc 6 (fun x=>?_) fun x=>?_;rotate_left
    ·cases x
    refine zz 6 ?_;exact I6 (F1 rfl rfl) I8 (N6 (K:=K) (st:=C) ⟨rfl,rfl,by repeat (first | exact d | refine ZOk.cons ?_ (.inl rfl) | refine ZOk.cons ?_ (.inr d.k8.h811))⟩) ⟨C,k,y,rfl,rfl⟩
   | some q =>
    obtain⟨t,u⟩:=q;rcases oJ X.len m with ⟨hh,_⟩ | ⟨q,hh,g3,hb⟩
    ·cases hh
    have U:=w.gr g3 B3;have ag:=U.nds;have ae:=U.at_;refine zz 2 ?_;refine M2 (BX (K:=K) w _ _ Z ⟨rfl,rfl,by repeat (first | exact d | refine ZOk.cons ?_ (.inl rfl) | refine ZOk.cons ?_ (.inr d.k8.h811))⟩) dF rfl rfl rfl ?_ ?_
    ·(rintro e ob' ⟨a,rfl⟩;rw[m]at a;cases a)
    rintro _ _ ⟨V,b,a,B,rfl⟩;rw[m]at a;cases a;dsimp only at B;subst B;refine zz 8 ?_;refine zc 6 (fun x=>?_) fun x=>?_
    ·cases x
    refine zz 7 ?_;refine B0 (C0 (c:=D2) (ys:=[k]) (C3 A0 A0 A0 A0 E6) A0 A0 A0) A0 (zz 1 ?_);refine S0 (add_pm (K:=K) (s:=s) (st:=C) (Z:=Z) ⟨6,set0,t,u,[k]⟩ B3 ⟨rfl,rfl,by repeat (first | exact d | refine ZOk.cons ?_ (.inl rfl) | refine ZOk.cons ?_ (.inr d.k8.h811))⟩) dF rfl rfl rfl ?_;rintro _ _ ⟨rfl,rfl⟩;refine zz 2 ?_;refine zz 1 ?_;exact I6 (F1 rfl rfl) I8 (N6 (K:=K) (st:=(U8 ⟨6,set0,t,u,[k]⟩ C).1) ⟨rfl,rfl,by repeat (first | exact d | refine ZOk.cons ?_ (.inl rfl) | refine ZOk.cons ?_ (.inr d.k8.h811))⟩) ⟨_,_,y,rfl,rfl⟩
def aO(n:Nat):Nat:=900+2*n
def pO(n:Nat):Nat:=901+2*n
def iW:Nat->List Nat
 | 0=>[811,870,871,872]
 | n+1=>pO n::aO n::iW n
theorem ksN_iff{n j:Nat}:E5 (iW n) j=true↔j=811\/j=870\/j=871\/j=872\/(900<=j/\j<900+2*n):=by
 induction n with
 | zero =>
  rw[hasN_iff];simp only[iW,B66,B84,or_false];omega
 | succ n a =>
  rw[hasN_iff]at a ⊢;simp only[iW,B66,aO,pO];rw[a];omega
theorem ksA_iff{n j:Nat}:E5 (aO n::iW n) j=true↔j=aO n\/E5 (iW n) j=true:=by
 rw[hasN_iff,hasN_iff,B66]
theorem CD{n j:Nat}(h:¬(j=811\/j=870\/j=871\/j=872\/(900<=j/\j<900+2*n))):E5 (iW n) j=false:=by
 cases hb:E5 (iW n) j
 ·rfl
 ·exact absurd (ksN_iff.1 hb) h
theorem vY(n:Nat):KOk (iW n):=⟨ksN_iff.2 (.inl rfl),CD B3⟩
theorem ksA_ok(n:Nat):KOk (aO n::iW n):=⟨ksA_iff.2 (.inr (vY n).h811),by
 cases hb:E5 (aO n::iW n) 810
 ·rfl
 ·rcases ksA_iff.1 hb with h | h
  ·unfold aO at h;omega
  ·rw[(vY n).h810]at h;cases h⟩
theorem Z4{k:Nat}{fr:Fr}{i:Nat}{s:SV}(h:D4 fr i=some s)(a:s.free k=true):D4 (Fr.forget k fr) i=some s:=by
 rw[N4,h];show some (s.forget k)=some s;rw[SV.forget_free a]
theorem tS{k:Nat}{fr:Fr}{i:Nat}{α:Type}{a:Nat}{c:α->Nat->Cell}{d:List α}(h:D4 fr i=some (.s (.one (.buf k α a c d)))):D4 (Fr.forget k fr) i=some (B8 α a c d):=by
 rw[N4,h];show some (SV.s (.one (cond (Nat.beq k k) _ _)))=_;rw[Nat.beq_refl];rfl
theorem tT{K:List Nat}{a:Nat}{s:Str}{st:PSt}{x:Ob}{Z ob:Obs}(j:a≠810)(i:a≠811)(ha:E5 K a=true)(l:ZOk K Z Z)
  (g:∀k o,k≠a->B6 (PObs s st Z) k=some o->B6 ob k=some o):∀k o,B6 (PObs s st ((a,x)::Z)) k=some o->B6 ((a,x)::Obs.forget a ob) k=some o:=fun k o c=>by
 by_cases e:a=k
 ·subst e;rw[B4];rw[A8 (fun e=>j e.symm),A8 (fun e=>i e.symm),B4]at c;exact c
 have b:B6 (PObs s st Z) k=some o:=by
  by_cases f:810=k
  ·subst f;rw[B4]at c;rw[B4];exact c
  rw[A8 f]at c ⊢;by_cases d:811=k
  ·subst d;rw[B4]at c;rw[B4];exact c
  rw[A8 d,A8 e]at c;rw[A8 d];exact c
 rw[A8 e,J3,g k o (fun h=>e h.symm) b];show some (o.forget a)=some o;rw[Ob.forget_free ?_];by_cases f:810=k
 ·subst f;rw[B4]at b;cases b;simp[Ob.free,TC.free,pU,nR (show 811≠a from fun e=>i e.symm)]
 rw[A8 f]at b;by_cases d:811=k
 ·subst d;rw[B4]at b;cases b;rfl
 rw[A8 d]at b;exact l.free k o b a ha
theorem KQ{K:List Nat}{a:Nat}{s:Str}{st:PSt}{x:Ob}{Z:Obs}(g:a≠810)(j:a≠811)(ha:E5 K a=true)(l:ZOk K Z Z):∀k o,B6 (PObs s st Z) k=some o->B6 (Obs.forget a (PObs s st ((a,x)::Z))) k=some o:=fun k o b=>by
 have e:k≠a:=fun e=>by
  subst e;rw[A8 (fun e=>g e.symm),A8 (fun e=>j e.symm),l.none (.inr ha)]at b;cases b
 have h:=tT (s:=s) (st:=st) (x:=x) (Z:=Z) (ob:=PObs s st ((a,x)::Z)) g j ha l (fun k o b c=>by
  by_cases d:810=k
  ·subst d;rw[B4]at c ⊢;exact c
  rw[A8 d]at c ⊢;by_cases f:811=k
  ·subst f;rw[B4]at c ⊢;exact c
  rw[A8 f]at c ⊢
  rw[A8 (fun h=>b h.symm)];exact c) k o
 rw[A8 (fun h=>e h.symm)]at h;refine h ?_;by_cases d:810=k
 ·subst d;rw[B4]at b ⊢;exact b
 rw[A8 d]at b ⊢;by_cases f:811=k
 ·subst f;rw[B4]at b ⊢;exact b
 rw[A8 f]at b ⊢;rw[A8 (fun h=>e h.symm)];exact b
theorem PD{s:Str}{st:PSt}{y:Ob}{Z:Obs}{a:Nat}:∀k o,k≠a->B6 (PObs s st Z) k=some o->B6 (PObs s st ((a,y)::Z)) k=some o:=fun k o e b=>by
 by_cases c:810=k
 ·subst c;rw[B4]at b ⊢;exact b
 rw[A8 c]at b ⊢;by_cases d:811=k
 ·subst d;rw[B4]at b ⊢;exact b
 rw[A8 d]at b ⊢;rw[A8 (fun h=>e h.symm)];exact b
theorem PE{s:Str}{st:PSt}{x:Ob}{Z:Obs}{a:Nat}(b:a≠810)(c:a≠811):B6 (PObs s st ((a,x)::Z)) a=some x:=by
 rw[A8 (fun e=>b e.symm),A8 (fun e=>c e.symm),B4]
theorem HF{K:List Nat}{s:Str}{st:PSt}{Z:Obs}{a:Nat}(b:a≠810)(c:a≠811)(ha:E5 K a=true)(d:ZOk K Z Z):B6 (PObs s st Z) a=none:=by
 rw[A8 (fun e=>b e.symm),A8 (fun e=>c e.symm),d.none (.inr ha)]
theorem tU{a:Nat}{K:List Nat}(h:E5 K a=false){kids:List Int}:∀k,E5 K k=true->(SV.s (.one (.buf a Int 1 D2 kids))).free k=true:=fun k c=>by
 show (!Nat.beq a k)=true;rw[nR (fun e=>by rw[e,c]at h;cases h)];rfl
theorem ZZ{p:Prop}(h:p:=by repeat (first | exact X0 | refine oT _ (by assumption) ?_ | refine X1 rfl ?_)):p:=h
theorem alt_px{n:Nat}(am:n<=50){s:Str}{st:PSt}(hs:SOk s st)(hn:st.nodes.length<=st.at_)(hd:st.depth+n=50){F:Nat}(hF:F<=5000)(E:s8 s F8 F st []≠.error 0)
  (N:∀f st',f<F->SOk s st'->st'.nodes.length<=st'.at_->st'.depth+n=50->st'.at_+1<=s.length->S5 s F8 f st'≠.error 0->PX 194 [G8] (iW n) s st' (S5 s F8 f st') r9) :
  PX 104 [G8] (aO n::iW n) s st (s8 s F8 F st []) r9:=by
 intro gf ob Z hI;obtain⟨K,hK⟩:∃K,K=aO n::iW n:=⟨_,rfl⟩
 obtain⟨a,C⟩:∃a,a=aO n:=⟨_,rfl⟩
 obtain⟨J,M⟩:∃J,J=iW n:=⟨_,rfl⟩
 have q:E5 K a=true:=by rw[hK,C];exact ksA_iff.2 (.inl rfl)
 have W:E5 J a=false:=by rw[M,C];exact CD (by unfold aO;omega)
 have af:KOk J:=by rw[M];exact vY n
 have ad:∀k,E5 J k=true->E5 K k=true:=fun k hk=>by rw[M]at hk;rw[hK];exact ksA_iff.2 (.inr hk)
 have H:E5 J 870=true:=by rw[M];exact ksN_iff.2 B3
 have I:E5 J 871=true:=by rw[M];exact ksN_iff.2 B3
 have L:E5 J 872=true:=by rw[M];exact ksN_iff.2 B3
 have O:a≠810:=by rw[C];unfold aO;omega
 have T:a≠811:=by rw[C];unfold aO;omega
 have Y:Nat.blt a 1000000=true:=by
  have:a<1000000:=by rw[C];unfold aO;omega
  simpa using this
 rw[<-hK]at hI ⊢;rw[<-M]at N;clear hK C M;have y:=hI.z.self;have v:=y;have al:=hs.len;obtain⟨R,hR⟩:∃R,R=s8 s F8 F st []:=⟨_,rfl⟩
 rw[<-hR]at E ⊢;obtain⟨Z1,A⟩:∃Z1:List Int->Obs,Z1=fun kids=>(a,.spare kids.length 1 3)::Z:=⟨_,rfl⟩
 have aj:∀kids,ZOk J (Z1 kids) (Z1 kids):=fun kids=>by
  rw[A];exact ZOk.own ((y.less af ad).consZ (y.none (.inr q))) ⟨O,W⟩ (fun j hj=>rfl) (B4 _ _ _)
 have ak:∀kids,ZOk K Z (Z1 kids):=fun kids=>by rw[A];exact v.cons (i:=a) (.inr q)
 refine MetX.introH Tryz.func104 F2 rfl rfl rfl (fun U=>?_);refine C1 (s6 (l:=[(0,.s G8)]) hI ⟨Y7 rfl,trivial⟩ U I8) ?_;refine zz 8 ?_;refine C1 (B29 a Int 1 D2 3 (t:=3) A0 (HF O T q y) Y) (k3 ?_);refine C2 (X:=Nat×List Int×PSt) (fun x=>([(0,.s G8),(3,.s (.one (.buf a Int 1 D2 x.2.1)))]++B5 K gf,PObs s x.2.2 (Z1 x.2.1))) (fun x=>SOk s x.2.2/\x.2.2.nodes.length<=x.2.2.at_/\x.2.2.depth+n=50/\x.2.1.length+x.1<=F/\R=s8 s F8 x.1 x.2.2 x.2.1) (fun x=>x.1) (F,[],st) ⟨hs,hn,hd,by simp,hR⟩ ?_ ?_
 ·dsimp only;refine B13 ⟨Y7 (Z4 A0 (s7 v.k8 a q)),Y7 rfl,trivial⟩ (B1 U) ZZ ?_;rw[A];exact tT O T q y fun _ _ _ h=>h
 rintro⟨f,kids,B⟩ ⟨w,ab,P,ah,d⟩;dsimp only at w ab P ah d ⊢;have ai:=w.at_;have y:=aj kids;refine zz 4 ?_;refine H8 (jR s B.at_ B.depth ai B3 A0) A0 A0 A0 ?_;rintro _ _ ⟨rfl,rfl⟩;refine zz 20 ?_;by_cases hm:B.at_<s.length;rotate_left
 ·have S:s[B.at_]?=none:=B56 B3;rw[A5 hm];obtain⟨f,rfl⟩:∃g,f=g+1:=by
   cases f with
   | zero=>exact absurd (by rw[d,s8]) E
   | succ g=>exact⟨g,rfl⟩
  rw[s8,S]at d;dsimp only at d;refine zc 0 (fun D=>?_) fun D=>?_;rotate_left
  ·cases D
  refine k2 ?_;have ag:=w.nds;refine C1 (Sees.forget a) (C1 (fr':=[(0,.s G8),(3,B8 Int 1 D2 kids)]++B5 K gf) (ob':=PObs s B Z) (B13 ⟨Y7 (Z4 A0 (s7 v.k8 a q)),Y7 (tS rfl),trivial⟩ (B1 U) ZZ (by rw[A];exact KQ O T q v)) ?_);have y:=v;refine zz 3 ?_;refine S0 (BZ (K:=K) (s:=s) (st:=B) (Z:=Z) 4 kids B3 B3 ⟨rfl,rfl,by repeat (first | exact y | refine ZOk.cons ?_ (.inl rfl) | refine ZOk.cons ?_ (.inr y.k8.h811))⟩) dF rfl rfl rfl ?_;rintro _ _ ⟨rfl,rfl⟩;refine zz 2 ?_;refine zz 1 ?_;exact I6 (F1 rfl rfl) I8 (fun _ _ h=>h) ⟨_,_,d,rfl,rfl⟩
 have S:s[B.at_]?=some (s.getD B.at_ 0):=by rw[B46,B44 hm];rfl
 obtain⟨c,hc⟩:∃c,c=s.getD B.at_ 0:=⟨_,rfl⟩
 rw[<-hc]at S;rw[<-hc,A4 hm];obtain⟨f,rfl⟩:∃g,f=g+1:=by
  cases f with
  | zero=>exact absurd (by rw[d,s8]) E
  | succ g=>exact⟨g,rfl⟩
 rw[s8,S]at d;dsimp only at d;have hu:∀k:UInt8,(c.toNat:Int)=k.toNat↔c=k:=fun k=>⟨fun e=>UInt8.toNat_inj.1 B3,fun e=>by rw[e]⟩
 have G:(c.toNat:Int)=124↔c=124:=hu 124;have V:(c.toNat:Int)=41↔c=41:=hu 41;by_cases he:c=124\/c=41
 ·rw[A6 he]at d;refine zc 0 (fun D=>?_) fun D=>?_;rotate_left
  ·exfalso;rw[aI,aI]at D;simp only[Bool.not_true,Bool.false_or,B72,decide_eq_false_iff_not,G,V]at D;rcases he with h | h
   ·exact D.1 h
   ·exact D.2 h
  refine k2 ?_;have ag:=w.nds;refine C1 (Sees.forget a) (C1 (fr':=[(0,.s G8),(3,B8 Int 1 D2 kids)]++B5 K gf) (ob':=PObs s B Z) (B13 ⟨Y7 (Z4 A0 (s7 v.k8 a q)),Y7 (tS rfl),trivial⟩ (B1 U) ZZ (by rw[A];exact KQ O T q v)) ?_);have y:=v;refine zz 3 ?_;refine S0 (BZ (K:=K) (s:=s) (st:=B) (Z:=Z) 4 kids B3 B3 ⟨rfl,rfl,by repeat (first | exact y | refine ZOk.cons ?_ (.inl rfl) | refine ZOk.cons ?_ (.inr y.k8.h811))⟩) dF rfl rfl rfl ?_;rintro _ _ ⟨rfl,rfl⟩;refine zz 2 ?_;refine zz 1 ?_;exact I6 (F1 rfl rfl) I8 (fun _ _ h=>h) ⟨_,_,d,rfl,rfl⟩
 rw[A7 he]at d;refine zc 0 (fun D=>?_) fun D=>?_
 ·exfalso;rw[aI,aI]at D;simp only[Bool.not_true,Bool.false_or,B63,decide_eq_true_eq,G,V]at D;exact he D
 refine zz 1 ?_;have ae:∀k,E5 J k=true->(SV.s (.one (.buf a Int 1 D2 kids))).free k=true:=tU W;refine C1 (B13 (l:=[(0,.s G8),(3,.s (.one (.buf a Int 1 D2 kids))),(4,.s (b8 c))]) lf (B1 U) I8 (fun _ _ h=>h)) ?_;obtain⟨f,rfl⟩:∃g,f=g+1:=by
  cases f with
  | zero=>exact absurd (by rw[d,Z6]) E
  | succ g=>exact⟨g,rfl⟩
 have ac:c=40->PX 194 [G8] J s B (S5 s F8 f B) r9:=fun e =>
  N f B B3 w ab P B3 (fun h=>E (by rw[d,Z6,A7 (by rw[e];decide),A7 (by rw[e];decide),A6 e,h];rfl))
 cases Q:Z6 s F8 (f+1) B c with
 | error e0 =>
  rw[Q]at d;refine zz 4 ?_;refine M2 (PC (K:=J) H I L w S ac _ _ (Z1 kids) ⟨rfl,rfl,by repeat (first | exact y | refine ZOk.cons ?_ (.inl rfl) | refine ZOk.cons ?_ (.inr y.k8.h811))⟩) dF rfl rfl rfl ?_ ?_
  ·(rintro e ob' ⟨m,rfl⟩;rw[Q]at m;cases m;exact H5 I8 (ak _).sub ⟨d,rfl⟩)
  rintro _ _ ⟨_,_,m,_,_⟩;rw[Q]at m;cases m
 | ok p =>
  obtain⟨sd,k⟩:=p;rw[Q]at d;dsimp only at d;obtain⟨gp,ip⟩:=(V6 (s:=s) (f+1)).piece S Q;have an:=gp.cnt;have ao:=gp.len;refine zz 4 ?_;refine M2 (PC (K:=J) H I L w S ac _ _ (Z1 kids) ⟨rfl,rfl,by repeat (first | exact y | refine ZOk.cons ?_ (.inl rfl) | refine ZOk.cons ?_ (.inr y.k8.h811))⟩) dF rfl rfl rfl ?_ ?_
  ·(rintro e ob' ⟨m,rfl⟩;rw[Q]at m;cases m)
  rintro _ _ ⟨ap,k',m,rfl,rfl⟩;rw[Q]at m;cases m;refine B0 (C0 (c:=D2) (ys:=[k]) (C3 A0 A0 A0 A0 E6) A0 A0 A0) A0 (C4 (X5 A0 (by rw[A];exact PE O T) A0 (.pure _ _ _ _) SC Y) A0 ?_);refine zz 2 ?_;refine zz 0 ?_;refine⟨(f+1,kids++[k],sd),⟨w.gr gp (Nat.le_refl _),by dsimp only;omega,by dsimp only;rw[gp.dep];exact P,by simp only[B48,B49,List.length_nil];omega,d⟩,by dsimp only;omega,?_⟩;dsimp only;refine B13 ⟨Y7 (show D4 (Fr.forget a _) 0=_ from Z4 A0 (s7 v.k8 a q)),Y7 rfl,trivial⟩ (B1 U) ZZ ?_;rw[A];exact tT O T q v PD
theorem ksS_iff{n j:Nat}:E5 (iW (n+1)) j=true↔j=pO n\/E5 (aO n::iW n) j=true:=by
 rw[show iW (n+1)=pO n::aO n::iW n from rfl,hasN_iff,hasN_iff,B66]
theorem pat_px{n:Nat}(ae:n<=50){s:Str}{st:PSt}(hs:SOk s st)(hn:st.nodes.length<=st.at_)(hd:st.depth+n=50){F:Nat}(hF:F<=5000)(H:bF s F8 F st≠.error 0)
  (S:∀f st',f<F->SOk s st'->st'.nodes.length<=st'.at_->st'.depth+n=50->st'.at_+1<=s.length->S5 s F8 f st'≠.error 0->PX 194 [G8] (iW n) s st' (S5 s F8 f st') r9) :
  PX 63 [G8] (iW (n+1)) s st (bF s F8 F st) r9:=by
 intro gf ob Z hI;have B:∀{f:Nat} {st':PSt},f<F->SOk s st'->st'.nodes.length<=st'.at_->st'.depth+n=50->s8 s F8 f st' []≠.error 0->PX 104 [G8] (aO n::iW n) s st' (s8 s F8 f st' []) r9:=fun {f st'} W h2 h3 h4 h5 =>
  alt_px ae h2 h3 h4 B3 h5 fun f' ai h6=>S f' ai B3
 obtain⟨K,hK⟩:∃K,K=iW (n+1):=⟨_,rfl⟩
 obtain⟨a,E⟩:∃a,a=pO n:=⟨_,rfl⟩
 obtain⟨J,hJ⟩:∃J,J=aO n::iW n:=⟨_,rfl⟩
 have y:E5 K a=true:=by rw[hK,E];exact ksS_iff.2 (.inl rfl)
 have ac:E5 J a=false:=by
  rw[hJ,E];cases hb:E5 (aO n::iW n) (pO n)
  ·rfl
  ·rcases ksA_iff.1 hb with h | h
   ·unfold pO aO at h;omega
   ·have:=ksN_iff.1 h;unfold pO at this;omega
 have an:KOk J:=by rw[hJ];exact ksA_ok n
 have ag:∀k,E5 J k=true->E5 K k=true:=fun k hk=>by rw[hJ]at hk;rw[hK];exact ksS_iff.2 (.inr hk)
 have V:a≠810:=by rw[E];unfold pO;omega
 have W:a≠811:=by rw[E];unfold pO;omega
 have ab:a<1000000:=by rw[E];unfold pO;omega
 have ao:Nat.blt a 1000000=true:=by simpa using ab
 rw[<-hK]at hI ⊢;rw[<-hJ]at B;clear hK E hJ S;have w:=hI.z.self;have Q:=hs.len;obtain⟨R,M⟩:∃R,R=bF s F8 F st:=⟨_,rfl⟩
 rw[<-M]at H ⊢;obtain⟨F,rfl⟩:∃G,F=G+1:=by
  cases F with
  | zero=>exact absurd (by rw[M,bF]) H
  | succ g=>exact⟨g,rfl⟩
 rw[bF]at M;obtain⟨Z1,D⟩:∃Z1:List Int->Obs,Z1=fun kids=>(a,.spare kids.length 1 3)::Z:=⟨_,rfl⟩
 have ah:ZOk J Z Z:=w.less an ag;have ax:∀kids,ZOk J (Z1 kids) (Z1 kids):=fun kids=>by
  rw[D];exact ZOk.own (ah.consZ (w.none (.inr y))) ⟨V,ac⟩ (fun j hj=>rfl) (B4 _ _ _)
 have ay:∀kids,ZOk K Z (Z1 kids):=fun kids=>by rw[D];exact w.cons (i:=a) (.inr y)
 refine MetX.introH Tryz.func63 F2 rfl rfl rfl (fun Y=>?_);refine C1 (s6 (l:=[(0,.s G8)]) hI ⟨Y7 rfl,trivial⟩ Y I8) ?_;refine zz 5 ?_;have C:=ah;cases O:s8 s F8 F st [] with
 | error e0 =>
  rw[O]at M;have I:s8 s F8 F st []≠.error 0:=fun h=>H (by rw[O]at h;rw[M,h]);refine zz 2 ?_;refine M2 (B (Nat.lt_succ_self F) hs hn hd I _ _ Z ⟨rfl,rfl,by repeat (first | exact C | refine ZOk.cons ?_ (.inl rfl) | refine ZOk.cons ?_ (.inr C.k8.h811))⟩) dF rfl rfl rfl ?_ ?_
  ·(rintro e ob' ⟨m,rfl⟩;rw[O]at m;cases m;exact H5 I8 (fun _ _ h=>h) ⟨M,rfl⟩)
  rintro _ _ ⟨_,_,m,_,_⟩;rw[O]at m;cases m
 | ok q =>
  obtain⟨aj,k⟩:=q;rw[O]at M;dsimp only at M;have I:s8 s F8 F st []≠.error 0:=fun h=>by rw[O]at h;cases h
  obtain⟨g2,_⟩:=(V6 (s:=s) F).alt hs.at_ (fun k hk=>by cases hk) O;have bc:=g2.cnt;have al:=g2.len;have ba:=g2.at_;have au:SOk s aj:=⟨Q,al,by omega⟩
  refine zz 2 ?_;refine M2 (B (Nat.lt_succ_self F) hs hn hd I _ _ Z ⟨rfl,rfl,by repeat (first | exact C | refine ZOk.cons ?_ (.inl rfl) | refine ZOk.cons ?_ (.inr C.k8.h811))⟩) dF rfl rfl rfl ?_ ?_
  ·(rintro e ob' ⟨m,rfl⟩;rw[O]at m;cases m)
  rintro _ _ ⟨az,k',m,rfl,rfl⟩;rw[O]at m;cases m;refine C4 (rC a (c:=D2) (ys:=[k]) (C3 A0 A0 A0 A0 E6) A0 A0 A0 (HF V W y w) ab) A0 (zz 2 ?_);refine zz 2 ?_;refine C2 (X:=Nat×List Int×PSt) (fun x=>([(0,.s G8),(3,.s (.one (.buf a Int 1 D2 x.2.1)))]++B5 K gf,PObs s x.2.2 (Z1 x.2.1))) (fun x=>SOk s x.2.2/\x.2.2.nodes.length<=x.2.2.at_+1/\x.2.2.depth+n=50/\x.2.1.length+x.1<=F+1/\x.1<=F/\R=Y3 s F8 x.1 x.2.2 x.2.1) (fun x=>x.1) (F,[k],aj) ⟨au,by dsimp only;omega,by dsimp only;rw[g2.dep];exact hd,by simp only[B49,List.length_nil];omega,Nat.le_refl _,M⟩ ?_ ?_
  ·dsimp only;refine B13 ⟨Y7 (show D4 (Fr.forget a _) 0=_ from Z4 A0 (s7 w.k8 a y)),Y7 rfl,trivial⟩ (B1 Y) ZZ ?_;rw[D];exact tT V W y w fun _ _ _ h=>h
  rintro⟨f,kids,A⟩ ⟨U,af,N,aq,ap,v⟩;dsimp only at U af N aq ap v ⊢;have ar:=U.at_;have C:=ax kids;obtain⟨f,rfl⟩:∃g,f=g+1:=by
   cases f with
   | zero=>exact absurd (by rw[v,Y3]) H
   | succ g=>exact⟨g,rfl⟩
  rw[Y3]at v;refine zz 4 ?_;refine H8 (v7 s A.at_ A.depth 124 ar B3 A0) A0 A0 A0 ?_;rintro _ _ ⟨rfl,rfl⟩;refine zz 1 ?_;by_cases hb:s[A.at_]?=some 124;rotate_left
  ·have hh:¬M9 s 124 A=true:=fun h=>hb (A1 h);rw[A7 hh]at v;rw[A5 hb,A7 hb];refine zc 0 (fun ht=>?_) fun ht=>?_
   ·cases ht
   refine zz 2 ?_;refine C1 (fr':=[(0,.s G8),(3,.s (.one (.buf a Int 1 D2 kids)))]++B5 K gf) (ob':=PObs s A (Z1 kids)) (B13 lf (B1 Y) I8 (N6 (K:=J) (st:=A) ⟨rfl,rfl,by repeat (first | exact C | refine ZOk.cons ?_ (.inl rfl) | refine ZOk.cons ?_ (.inr C.k8.h811))⟩)) ?_;refine C1 (Sees.forget a) (C1 (fr':=[(0,.s G8),(3,B8 Int 1 D2 kids)]++B5 K gf) (ob':=PObs s A Z) (B13 ⟨Y7 (Z4 A0 (s7 w.k8 a y)),Y7 (tS rfl),trivial⟩ (B1 Y) ZZ (by rw[D];exact KQ V W y w)) ?_);have C:=w;refine zz 3 ?_;refine S0 (BZ (K:=K) (s:=s) (st:=A) (Z:=Z) 5 kids B3 B3 ⟨rfl,rfl,by repeat (first | exact C | refine ZOk.cons ?_ (.inl rfl) | refine ZOk.cons ?_ (.inr C.k8.h811))⟩) dF rfl rfl rfl ?_;rintro _ _ ⟨rfl,rfl⟩;refine zz 2 ?_;refine zz 1 ?_;exact I6 (F1 rfl rfl) I8 (fun _ _ h=>h) ⟨_,_,v,rfl,rfl⟩
  have hh:M9 s 124 A=true:=A4 hb;have aw:=K6 (s:=s) (x:=A) 1 (Z8 hh);have T:SOk s (A.skip 1):=U.gr aw B3;have ad:(A.skip 1).nodes.length<=(A.skip 1).at_:=af;rw[A6 hh]at v;rw[A4 hb,A6 hb];refine zc 0 (fun ht=>?_) fun ht=>?_;rotate_left
  ·cases ht
  refine zz 2 ?_;refine C1 (fr':=[(0,.s G8),(3,.s (.one (.buf a Int 1 D2 kids)))]++B5 K gf) (ob':=PObs s (A.skip 1) (Z1 kids)) (B13 lf (B1 Y) I8 (N6 (K:=J) (st:=A.skip 1) ⟨rfl,rfl,by repeat (first | exact C | refine ZOk.cons ?_ (.inl rfl) | refine ZOk.cons ?_ (.inr C.k8.h811))⟩)) ?_;have ak:∀k,E5 J k=true->(SV.s (.one (.buf a Int 1 D2 kids))).free k=true:=tU ac;cases P:s8 s F8 f (A.skip 1) [] with
  | error e0 =>
   rw[P]at v;have L:s8 s F8 f (A.skip 1) []≠.error 0:=fun h=>H (by rw[P]at h;rw[v,h]);refine zz 3 ?_;refine M2 (B (show f<F+1 by omega) T ad N L _ _ (Z1 kids) ⟨rfl,rfl,by repeat (first | exact C | refine ZOk.cons ?_ (.inl rfl) | refine ZOk.cons ?_ (.inr C.k8.h811))⟩) dF rfl rfl rfl ?_ ?_
   ·(rintro e ob' ⟨m,rfl⟩;rw[P]at m;cases m;exact H5 I8 (ay _).sub ⟨v,rfl⟩)
   rintro _ _ ⟨_,_,m,_,_⟩;rw[P]at m;cases m
  | ok q =>
   obtain⟨sd,j⟩:=q;rw[P]at v;dsimp only at v;have L:s8 s F8 f (A.skip 1) []≠.error 0:=fun h=>by rw[P]at h;cases h
   obtain⟨g4,_⟩:=(V6 (s:=s) f).alt T.at_ (fun k hk=>by cases hk) P;have be:=g4.cnt;have am:=g4.len;have bd:=g4.at_;have av:SOk s sd:=⟨Q,am,by omega⟩
   refine zz 3 ?_;refine M2 (B (show f<F+1 by omega) T ad N L _ _ (Z1 kids) ⟨rfl,rfl,by repeat (first | exact C | refine ZOk.cons ?_ (.inl rfl) | refine ZOk.cons ?_ (.inr C.k8.h811))⟩) dF rfl rfl rfl ?_ ?_
   ·(rintro e ob' ⟨m,rfl⟩;rw[P]at m;cases m)
   rintro _ _ ⟨bf,j',m,rfl,rfl⟩;rw[P]at m;cases m;refine B0 (C0 (c:=D2) (ys:=[j]) (C3 A0 A0 A0 A0 E6) A0 A0 A0) A0 (C4 (X5 A0 (by rw[D];exact PE V W) A0 (.pure _ _ _ _) SC ao) A0 ?_);refine zz 2 ?_;refine zz 0 ?_;refine⟨(f,kids++[j],sd),⟨av,by dsimp only;omega,by dsimp only;rw[g4.dep];exact N,by simp only[B48,B49,List.length_nil];omega,by dsimp only;omega,v⟩,by dsimp only;omega,?_⟩;dsimp only;refine B13 ⟨Y7 (show D4 (Fr.forget a _) 0=_ from Z4 A0 (s7 w.k8 a y)),Y7 rfl,trivial⟩ (B1 Y) ZZ ?_;rw[D];exact tT V W y w PD
theorem A77{n:Nat}{s:Str}{st:PSt}(hs:SOk s st)(hn:st.nodes.length<=st.at_)(hd:st.depth+n=50)(T:st.at_+1<=s.length){F:Nat}(H:S5 s F8 F st≠.error 0)
  (L:∀m f st',n=m+1->f<F->SOk s st'->st'.nodes.length<=st'.at_->st'.depth+m=50->bF s F8 f st'≠.error 0->PX 63 [G8] (iW (m+1)) s st' (bF s F8 f st') r9) :
  PX 194 [G8] (iW n) s st (S5 s F8 F st) r9:=by
 intro gf ob Z O;obtain⟨K,W⟩:∃K,K=iW n:=⟨_,rfl⟩
 rw[<-W]at O ⊢;have y:=O.z.self;have J:=hs.len;obtain⟨R,w⟩:∃R,R=S5 s F8 F st:=⟨_,rfl⟩
 rw[<-w]at H ⊢;obtain⟨F,rfl⟩:∃G,F=G+1:=by
  cases F with
  | zero=>exact absurd (by rw[w,S5]) H
  | succ g=>exact⟨g,rfl⟩
 rw[S5]at w;refine MetX.introH Tryz.func194 F2 rfl rfl rfl (fun N=>?_);refine C1 (s6 (l:=[(0,.s G8)]) O ⟨Y7 rfl,trivial⟩ N I8) ?_;refine zc 13 (fun D=>?_) fun D=>?_
 ·have E:st.depth=50:=by have:=A1 D;omega
  rw[A6 E]at w;skip;refine zz 2 ?_;refine O0 A0 ?_;exact H5 I8 y.pobs ⟨w,rfl⟩
 have E:¬st.depth=50:=by have:=A3 D;omega
 rw[A7 E]at w;obtain⟨m,rfl⟩:∃m,n=m+1:=⟨n-1,by omega⟩
 obtain⟨st1,v⟩:∃st1,st1=({ st with at_:=st.at_+1,depth:=st.depth+1 }:PSt):=⟨_,rfl⟩
 rw[<-v]at w;have M:SOk s st1:=by rw[v];exact⟨J,T,by dsimp only;omega⟩
 have U:st1.nodes.length<=st1.at_:=by rw[v];dsimp only;omega
 have Q:st1.depth+m=50:=by rw[v];dsimp only;omega
 refine zz 24 ?_;refine C1 (fr':=[(0,.s G8)]++B5 K gf) (ob':=PObs s st1 Z) (B13 ⟨Y7 rfl,trivial⟩ (B1 N) I8 (by rw[v];exact N6 (K:=K) (st:={ st with at_:=st.at_+1,depth:=st.depth+1 }) ⟨rfl,rfl,by repeat (first | exact y | refine ZOk.cons ?_ (.inl rfl) | refine ZOk.cons ?_ (.inr y.k8.h811))⟩)) ?_;have I:=L m F st1 rfl (Nat.lt_succ_self F) M U Q;rw[<-W]at I;cases C:bF s F8 F st1 with
 | error e0 =>
  rw[C]at w;have B:bF s F8 F st1≠.error 0:=fun h=>H (by rw[C]at h;rw[w,h]);refine zz 2 ?_;refine M2 (I B _ _ Z ⟨rfl,rfl,by repeat (first | exact y | refine ZOk.cons ?_ (.inl rfl) | refine ZOk.cons ?_ (.inr y.k8.h811))⟩) dF rfl rfl rfl ?_ ?_
  ·(rintro e ob' ⟨j,rfl⟩;rw[C]at j;cases j;exact H5 I8 (fun _ _ h=>h) ⟨w,rfl⟩)
  rintro _ _ ⟨_,_,j,_,_⟩;rw[C]at j;cases j
 | ok q =>
  obtain⟨d,k⟩:=q;rw[C]at w;dsimp only at w;have B:bF s F8 F st1≠.error 0:=fun h=>by rw[C]at h;cases h
  obtain⟨V,_⟩:=(V6 (s:=s) F).pat M.at_ C;have ab:=V.dep;have ac:=V.len;have e1:st1.depth=st.depth+1:=by rw[v]
  have Y:(d.depth:Int)-1=((d.depth-1:Nat):Int):=by omega
  refine zz 2 ?_;refine M2 (I B _ _ Z ⟨rfl,rfl,by repeat (first | exact y | refine ZOk.cons ?_ (.inl rfl) | refine ZOk.cons ?_ (.inr y.k8.h811))⟩) dF rfl rfl rfl ?_ ?_
  ·(rintro e ob' ⟨j,rfl⟩;rw[C]at j;cases j)
  rintro _ _ ⟨X,k',j,rfl,rfl⟩;rw[C]at j;cases j;refine zz 2 ?_;refine zz 11 ?_;rw[Y];obtain⟨A,x⟩:∃A,A=({ d with depth:=d.depth-1 }:PSt):=⟨_,rfl⟩
  refine C1 (fr':=[(0,.s G8),(3,I1 (.int .i64 k))]++B5 K gf) (ob':=PObs s A Z) (B13 lf (B1 N) I8 (by rw[x];exact N6 (K:=K) (st:={ d with depth:=d.depth-1 }) ⟨rfl,rfl,by repeat (first | exact y | refine ZOk.cons ?_ (.inl rfl) | refine ZOk.cons ?_ (.inr y.k8.h811))⟩)) ?_;have P:A.at_=d.at_:=by rw[x]
  refine zz 4 ?_;refine H8 (v7 s A.at_ A.depth 41 B3 B3 A0) A0 A0 A0 ?_;rintro _ _ ⟨rfl,rfl⟩;refine zz 2 ?_;rw[P];by_cases hb:s[d.at_]?=some 41
  ·have S:M9 s 41 d=true:=A4 hb;rw[A6 S]at w;rw[A4 hb,A6 hb];refine zc 0 (fun D=>?_) fun D=>?_
   ·cases D
   refine zz 7 ?_;refine I6 (F1 rfl rfl) I8 (N6 (K:=K) (st:={ d with at_:=d.at_+1,depth:=d.depth-1 }) ⟨?_,?_,by repeat (first | exact y | refine ZOk.cons ?_ (.inl rfl) | refine ZOk.cons ?_ (.inr y.k8.h811))⟩) ⟨_,_,w,rfl,rfl⟩
   ·rw[x];rfl
   ·rw[x];rfl
  ·have S:¬M9 s 41 d=true:=fun h=>hb (A1 h);rw[A7 S]at w;rw[A5 hb,A7 hb];refine zc 0 (fun D=>?_) fun D=>?_;rotate_left
   ·cases D
   skip;refine zz 2 ?_;refine O0 A0 ?_;exact H5 I8 ((((y.cons (i:=811) (.inr y.k8.h811)).cons (i:=810) (.inl rfl)).cons (i:=810) (.inl rfl)).sub) ⟨w,rfl⟩
structure PxAll (s:Str) (F:Nat):Prop where
 pat:∀n st,st.depth+n=50->SOk s st->st.nodes.length<=st.at_->bF s F8 F st≠.error 0->PX 63 [G8] (iW (n+1)) s st (bF s F8 F st) r9
 paren:∀n st,st.depth+n=50->SOk s st->st.nodes.length<=st.at_->st.at_+1<=s.length->S5 s F8 F st≠.error 0->PX 194 [G8] (iW n) s st (S5 s F8 F st) r9
theorem UH(s:Str):∀(B F:Nat),F<B->F<=5000->PxAll s F
 | 0,_,h,_=>by omega
 | B+1,F,h,hF=>⟨fun n st c g i j=>pat_px B3 g i c hF j fun f st' o u q k l b=>(UH s B f B3 B3).paren n st' k u q l b,
  fun n st c g i j o=>A77 g i c j o fun m f st' _ q k l b d=>(UH s B f B3 B3).pat m st' b k l d⟩
abbrev MT(s:Str)(a d:Nat)(e:Int):Ob:=.box [.p (.v (.string ⟨s.toArray⟩)),.p (.v (.int .i64 a)),.p (.v (.int .i64 d)),.mut 811,.p (.v (.int .i64 e))]
abbrev RObs(s:Str)(st:PSt)(e:Int)(Z:Obs):Obs:=(810,MT s st.at_ st.depth e)::(811,dD st.nodes)::Z
structure RIn (K:List Nat) (s:Str) (st:PSt) (e:Int) (Z ob:Obs):Prop where
 h0:B6 ob 810=some (MT s st.at_ st.depth e)
 h1:B6 ob 811=some (dD st.nodes)
 z:ZOk K Z ob
abbrev postR{α:Type}(s:Str)(d:Nat)(R:Ps α)(sv:α->List S1)(Z:Obs):List S1->Obs->Prop:=fun a ob'=>∃st' e v,ob'=RObs s st' e Z/\a=sv v/\((e=0/\R=.ok (st',v))\/(e≠0/\R=.error e/\st'.at_+d<=s.length+60/\d<=st'.depth/\st'.depth<=60))
def RX{α:Type}(f:FuncId)(a:List S1)(K:List Nat)(s:Str)(st:PSt)(R:Ps α)(sv:α->List S1):Prop :=
 ∀(gf:Fr) (ob Z:Obs),RIn K s st 0 Z ob->AL.Met Tryz.prog f a gf ob K (postR s st.depth R sv Z)
theorem S2{K:List Nat}{s:Str}{st:PSt}{e:Int}{Z b:Obs}(c:RIn K s st e Z b):∀k o,B6 (RObs s st e Z) k=some o->B6 b k=some o:=fun k o a=>by
 by_cases d:810=k
 ·subst d;rw[B4]at a;cases a;exact c.h0
 rw[A8 d]at a;by_cases f:811=k
 ·subst f;rw[B4]at a;cases a;exact c.h1
 rw[A8 f]at a;exact c.z.sub k o a
theorem CE{K:List Nat}{s:Str}{st:PSt}{e:Int}{Z ob:Obs}(b:RIn K s st e Z ob){nt:Nat}{fr l gf:Fr}(c:FrLe fr l)(a:High gf)(d:Tail gf fr):Sees Tryz.prog nt fr ob (l++B5 K gf) (RObs s st e Z) :=
 B30 K c a d (S2 b)
theorem ZOk.rin{K:List Nat}{s:Str}{st:PSt}{e:Int}{Z:Obs}(h:ZOk K Z Z):ZOk K Z (RObs s st e Z):=(h.cons (i:=811) (.inr h.k8.h811)).cons (i:=810) (.inl rfl)
theorem RIn.start{K:List Nat}{s:Str}{st:PSt}{e:Int}{Z:Obs}(h:ZOk K Z Z):RIn K s st e Z (RObs s st e Z):=⟨rfl,rfl,h.rin⟩
theorem cJ{gf:Fr}{ob:Obs}(s:Str)(a d:Nat)(e:Int)(c:UInt8)(l:s.length<=1000)(f:B6 ob 810=some (MT s a d e)) :
  AL.Met Tryz.prog 138 [G8,b8 c] gf ob [] (fun k ob'=>k=[mG (decide (s[a]?=some c))]/\ob'=ob):=by
 have i:a<s.length->s[((a:Nat):Int).toNat]?=some (s.getD a 0):=fun h=>by rw[B45,B46,B44 h];rfl
 refine AL.Met.intro Tryz.func138 F2 A0 A0 A0 (zz 9 ?_);refine D1 (D8 A0 f A0) A0 A0 (zz 3 ?_);refine D1 (D8 A0 f A0) A0 A0 (zz 6 ?_);refine G3 A0 A0 (fun b=>by rw[b];exact D8 A0 f A0) A0 A0 ?_;refine zz 3 ?_;refine G3 A0 A0 (fun b=>by rw[b];exact D8 A0 f A0) A0 A0 ?_;refine G3 A0 A0 (fun b=>by have j:=b;(try simp at j);rw[b];exact G9 A0 A0 B3 (i B3)) A0 A0 ?_;refine zz 6 ?_;refine C7 (F1 rfl rfl) gM (fun _ _ h=>h) ⟨?_,rfl⟩;have hb:decide (s[a]?=some c)=(if decide ((a:Int)<s.length)=true then decide (((s.getD a 0).toNat:Int)=c.toNat) else false):=by
  by_cases h:a<s.length
  ·have g:=i h;rw[B45]at g;rw[g,A6 (A4 B3)];exact decide_eq_decide.2 ⟨fun e=>by rw[Option.some.inj e],fun e=>congrArg some (UInt8.toNat_inj.1 B3)⟩
  ·rw[B56 B3,A7 (by rw[decide_eq_true_eq];omega)];exact A5 dV
 rw[hb]
theorem j2{gf:Fr}{ob:Obs}(s:Str)(a d:Nat)(e x:Int)(c:B6 ob 810=some (MT s a d e)) :
  AL.Met Tryz.prog 91 [G8,N8 x] gf ob [] (fun rs ob'=>rs=[N8 0]/\ob'=(810,MT s a d (if e=0 then x else e))::ob):=by
 refine AL.Met.introH Tryz.func91 F2 rfl rfl rfl (fun f=>?_);refine C1 (B13 (l:=[(0,.s G8),(1,.s (N8 x))]) (ob':=(810,MT s a d e)::ob) lf f I8 (C8 (L:=[(810,_)]) ⟨c,trivial⟩ N0)) ?_;refine zc 13 (fun b=>?_) fun b=>?_
 ·have h:=A1 b;rw[A6 h];skip;refine zz 12 ?_;exact C7 (F1 rfl rfl) gM (C8 (L:=[(810,_)]) ⟨rfl,trivial⟩ MS) ⟨rfl,rfl⟩
 ·have h:=A3 b;rw[A7 h];refine zz 6 ?_;exact C7 (F1 rfl rfl) gM (fun _ _ h=>h) ⟨rfl,rfl⟩
theorem HG{gf:Fr}{ob:Obs}(s:Str)(a d:Nat)(e:Int)(l:List AL.Node)(n:AL.Node)(x:l.length<=1000)(m:B6 ob 810=some (MT s a d e))(q:B6 ob 811=some (dD l)) :
  AL.Met Tryz.prog 139 [G8,(aG n).s1] gf ob [811] (fun w ob'=>w=[N8 l.length]/\ob'=(810,MT s a d e)::(811,dD (l++[n]))::Obs.forget 811 ob):=by
 refine AL.Met.introH Tryz.func139 F2 rfl rfl rfl (fun k=>?_);refine C1 (B14 811 (l:=[(0,.s G8),(1,.s (aG n).s1)]) (L:=[(810,_),(811,_)]) lf k I8 ⟨m,q,trivial⟩) ?_;refine zz 6 ?_;refine C1 (B13 (gf':=Fr.forget 811 gf) (l:=[(0,.s G8),(3,.s (.one (.eref Unit 8 (fun _ j=>(cellsOf N7 n 0 8).getD j (.v undef)) () 0)))]) (ob':=[(810,MT s a d e),(811,dD l)]++Obs.forget 811 ob) lf (cX k) I8 (fun _ _ h=>h)) ?_;refine M6 [10,7] [[],[7],[10,7]] [(7,([811],[9])),(10,([],[]))] [(0,[]),(1,[]),(2,[]),(3,[]),(4,[]),(5,[]),(6,[]),(7,[]),(8,[7]),(9,[7]),(10,[7])] [(0,[7])] D6 D6 (C5 A0 A0 D6 A0 A0 (C6 A0 A0) (C5 A0 A0 D6 A0 A0 (C6 A0 A0) (C5 A0 A0 D6 A0 A0 (E7 A0) (C5 A0 A0 D6 A0 A0 (F0 A0) (C5 A0 A0 D6 A0 A0 (D8 A0 A0 A0) (C5 A0 A0 D6 A0 A0 (T9 A0 A0) (C5 A0 A0 D6 A0 A0 (C0 (c:=N7) (ys:=[n]) (C3 A0 A0 A0 A0 E6) A0 A0 A0) (W5 A0 A0 D6 A0 A0 (kT (fun i b=>P0 (Q1 b A0) A0 (Q1 b A0) (.pure _ _ _ _) SC A0)) A0 (C5 A0 A0 D6 A0 A0 (E7 A0) (C5 A0 A0 D6 A0 A0 (F0 A0) (W5 A0 A0 D6 A0 A0 (fJ (fun i b=>K0 TySz.out (Q1 b A0) A0 (Q1 b A0) A0 A0 A0)) A0 ?_)))))))))));refine rI (ks:=[811]) rfl D6 rfl ?_ ?_
 ·refine F5 A0 A0 D6 A0 A0 (C6 A0 A0) ?_;exact jQ
 refine zz 7 ?_;refine B0 (aL A0 A0 b9x) A0 (zz 3 ?_);refine C7 (F1 rfl rfl) b5w (C8 (L:=[(810,_),(811,_)]) ⟨rfl,rfl,trivial⟩ b9w) ⟨?_,rfl⟩;rw[B48,List.length_singleton]
 congr 5
 omega
theorem eV{K:List Nat}{s:Str}{st:PSt}{e:Int}(b:AL.Node)(f:st.nodes.length<=1000){gf:Fr}{ob Z:Obs}(a:RIn K s st e Z ob) :
  AL.Met Tryz.prog 139 [G8,(aG b).s1] gf ob K (fun d ob'=>d=[N8 (U8 b st).2]/\ob'=RObs s (U8 b st).1 e Z) :=
 (AL.Met.more (HG s st.at_ st.depth e st.nodes b f a.h0 a.h1) (BY a.z.k8)).conv fun d ob' g=>by
  obtain⟨rfl,rfl⟩:=g;exact⟨_,⟨rfl,rfl⟩,S2 ⟨rfl,rfl,((a.z.fgt a.z.k8.h811).cons (.inr a.z.k8.h811)).cons (.inl rfl)⟩⟩
theorem PF(s:Str)(i:Nat)(c:i<=s.length):∃(L:Int) (N:Nat) (b:Bool),rP s i=[D3 L,D3 N,E1 b]/\F8 s i=(if b=true then some (L,N) else none)/\(b=false->L=0/\N=0)/\N<=s.length:=by
 unfold rP F8;cases a:dQ (s.drop i) with
 | none=>exact⟨0,0,false,rfl,rfl,fun _=>⟨rfl,rfl⟩,Nat.zero_le _⟩
 | some p =>
  obtain⟨m,k⟩:=p;have h:=(ZT a).2.2.2.1;rw[B53]at h;exact⟨m,i+k,true,rfl,rfl,(fun h=>by cases h),by omega⟩
theorem PG{gf:Fr}{ob:Obs}(s:Str)(a d:Nat)(ha:a+1<=s.length)(hs:s.length<=1000)(X:B6 ob 810=some (MT s a d 0)) :
  AL.Met Tryz.prog 192 [G8] gf ob [] (fun W ob'=>if oK s (wU s (a+1)) then W=[N8 (wU s (a+1)).1,N8 (wU s (a+1)).2.2.2]/\ob'=(810,MT s (wU s (a+1)).2.1 d 0)::ob else W=[N8 0,N8 0]/\ob'=(810,MT s a d 40)::ob):=by
 have V:∀n:Nat,n<s.length->s[((n:Nat):Int).toNat]?=some (s.getD n 0):=fun n h=>by rw[B45,B46,B44 h];rfl
 have j:∀n:Nat,n<s.length->s[n]?=some (s.getD n 0):=fun n h=>by rw[B46,B44 h];rfl
 have P:∀(c k:UInt8),(c.toNat:Int)=k.toNat->c=k:=fun c k e=>UInt8.toNat_inj.1 B3;obtain⟨L,N,b,hR,Y,K,hN⟩:=PF s (a+1) ha;have y:=BV s (a+1) ha B3;rw[hR]at y;obtain⟨m,U⟩:∃m,m=wU s (a+1):=⟨_,rfl⟩
 rw[<-U];have f:=U;unfold wU at f;rw[Y]at f;refine AL.Met.introH Tryz.func192 F2 rfl rfl rfl (fun C=>?_);refine C1 (B13 (l:=[(0,.s G8)]) (ob':=(810,MT s a d 0)::ob) ⟨Y7 rfl,trivial⟩ C I8 (C8 (L:=[(810,_)]) ⟨X,trivial⟩ N0)) ?_;refine zz 16 ?_;refine D1 (K4 (y) A0 A0) A0 A0 (zz 32 ?_);refine F7 A0 A0 A0 A0 (fun u=>by have B:=u;(try simp at B);rw[u];exact G9 A0 A0 B3 (V N B3)) ?_;refine zz 3 ?_;refine S7 ([(0,.s G8),(4,B7 m.1),(5,B7 m.2.1),(6,K9 m.2.2.1),(7,B7 m.2.2.2)]++gf) ((810,MT s a d 0)::ob) ?_ ?_
 ·skip;refine zc 0 (fun g=>?_) fun g=>?_
  ·rw[W8,W8,B47,B47,decide_eq_true_eq,decide_eq_true_eq]at g;obtain⟨⟨A,r⟩,hc⟩:=g;have r:N<s.length:=by omega
   have i:s[N]?=some 44:=by rw[j N r,P _ 44 hc]
   rw[A6 A]at f;dsimp only at f;rw[A6 i]at f;refine zz 25 ?_;refine F7 A0 A0 A0 A0 (fun u=>by have B:=u;(try simp at B);rw[u];exact G9 A0 A0 B3 (by rw[show ((N:Int)+1).toNat=N+1 by omega];exact j (N+1) B3)) ?_;refine zc 3 (fun g=>?_) fun g=>?_
   ·rw[W8,B47,decide_eq_true_eq,decide_eq_true_eq]at g;obtain⟨Z,O⟩:=g;have x:¬s.getD (N+1) 0=125:=fun e=>O (by rw[e];rfl);rw[A6 ⟨by omega,x⟩]at f;obtain⟨H,N2,Q,J,G,M,T⟩:=PF s (N+1) B3;have z:=BV s (N+1) B3 B3;rw[J]at z;rw[G]at f;skip;refine zz 6 ?_;refine E3 (z) (zz 8 ?_);have p:m=(L,N2,Q,H):=by
     rw[f];cases Q with
     | true=>rfl
     | false=>obtain⟨rfl,rfl⟩:=M rfl;rfl
    rw[p];refine zz 0 ?_;exact (B13 lf C I8 (fun _ _ h=>h))
   ·have p:m=(L,N+1,b,-1):=by
     rw[f,A7,A];rintro⟨g1,v⟩;rw[W8,B86,decide_eq_false_iff_not,decide_eq_false_iff_not]at g;rcases g with h | h
     ·omega
     ·exact h fun e=>v (P _ 125 e)
    rw[p];refine zz 1 ?_;exact (B13 lf C I8 (fun _ _ h=>h))
  ·have p:m=(L,N,b,L):=by
    rw[f];cases b with
    | false =>
     obtain⟨rfl,rfl⟩:=K rfl;rfl
    | true =>
     rw[A6 rfl];dsimp only;rw[A7];intro i;have r:=(List.getElem?_eq_some_iff.1 i).1;rw[j N r]at i;rw[W8,W8,Bool.true_and,B86,decide_eq_false_iff_not,decide_eq_false_iff_not]at g;rcases g with h | h
     ·omega
     ·exact h (by rw[Option.some.inj i];rfl)
   rw[p];refine zz 1 ?_;exact (B13 lf C I8 (fun _ _ h=>h))
 obtain⟨lo,q,ok,D⟩:=m;dsimp only;refine zz 20 ?_;refine F7 A0 A0 A0 A0 (fun u=>by have B:=u;(try simp at B);rw[u];exact G9 A0 A0 B3 (V q B3)) ?_;refine zc 20 (fun g=>?_) fun g=>?_
 ·have I:¬oK s (lo,q,ok,D):=by
   rintro⟨g1,v,E,R,F⟩;dsimp only at g1 v E R F;have w:=(List.getElem?_eq_some_iff.1 v).1;rw[j q w]at v;have S:((s.getD q 0).toNat:Int)=125:=by rw[Option.some.inj v];rfl
   simp only[aI,W8]at g;simp only[g1,Bool.not_true,B63,B47,decide_eq_true_eq]at g;rcases g with ((((h | h) | h) | h) | h) | h
   ·cases h
   ·omega
   ·exact h S
   ·omega
   ·omega
   ·exact F h
  refine zz 3 ?_;refine H8 (j2 s a d 0 40 A0) A0 A0 A0 ?_;rintro _ _ ⟨rfl,rfl⟩;refine zz 1 ?_;rw[A6 rfl];refine zz 6 ?_;exact C7 (ob':=(810,MT s a d 40)::ob) (sY rfl rfl rfl) gM (C8 (L:=[(810,_)]) ⟨rfl,trivial⟩ MS) (by show (if oK s (lo,q,ok,D) then _ else _);rw[A7 I];exact⟨rfl,rfl⟩)
 ·have I:oK s (lo,q,ok,D):=by
   simp only[aI,W8]at g;simp only[B72,B86,Bool.not_eq_false',decide_eq_false_iff_not]at g;obtain⟨⟨⟨⟨⟨g1,v⟩,E⟩,R⟩,F⟩,S⟩:=g;have w:q<s.length:=by omega
   refine⟨g1,?_,by dsimp only;omega,by dsimp only;omega,by dsimp only;omega⟩;dsimp only;rw[j q w,P _ 125 (Decidable.not_not.1 E)]
  refine zz 17 ?_;exact C7 (ob':=(810,MT s q d 0)::ob) (sY rfl rfl rfl) gM (C8 (L:=[(810,_)]) ⟨rfl,trivial⟩ MS) (by show (if oK s (lo,q,ok,D) then _ else _);rw[A6 I];exact⟨rfl,rfl⟩)
abbrev CF(A:AL.Auto):Unit->Nat->Cell:=fun _ j=>[Cell.list AL.State 7 gB A.States,Cell.v (.int .i64 A.Start)].getD j (.v undef)
theorem UI(A:AL.Auto)(w:AG A):FnOk Tryz.prog 87 [iJ A] (fun rs=>rs=[D3 0]):=by
 obtain⟨B,C⟩:=w.len;have m:=w.start;obtain⟨n,D⟩:∃n,n=A.States.length:=⟨_,rfl⟩
 have j:=w.good;rw[<-D]at B C m j;refine FnOk.intro Tryz.func87 F2 A0 A0 A0 A0 (zz 10 ?_);refine C4 (H9 3 A0) A0 (zz 9 ?_);have h:decide ((n:Int)<1)=false:=A5 B3;have d:decide ((8000:Int)<n)=false:=A5 B3;have z:decide (0<=A.Start/\A.Start<(n:Int))=true:=A4 m;rw[<-D];refine zz 4 ?_;refine J4 A0 A0 A0 h (zz 1 ?_);refine J4 A0 A0 A0 h (zz 1 ?_);refine B0 (V3 A0 (h) A0) A0 (zz 1 ?_);refine J4 A0 A0 A0 d (zz 1 ?_);refine J4 A0 A0 A0 d (zz 1 ?_);refine J4 A0 A0 A0 d (zz 1 ?_);refine J4 A0 A0 A0 d (rG (nP A.Start n A0) A0 A0 A0 A0 ?_);rintro _ _ ⟨rfl,rfl⟩;refine J4 A0 A0 A0 d (zz 1 ?_);refine B0 (V3 A0 (d) A0) A0 (zz 1 ?_);rw[z];refine zc 0 (fun a=>?_) fun a=>?_
 ·cases a
 refine zz 10 ?_;refine C2 (X:=Nat) (fun i=>([(3,.s (.one (.ref 3 0))),(4,.s (.one (.clo 130 [] [(3,0)]))),(26,.s (YG A.States).s1),(27,B7 n),(28,B7 i)],[(3,.box [.p (.v (.int .i64 n))])])) (fun i=>i<=n) (fun i=>n-i) 0 (Nat.zero_le _) (Sees.of ⟨Y7 rfl,Y7 rfl,Y7 rfl,leE A0 (by first | (simp;done) | (simp;omega)),Y7 rfl,trivial⟩ ⟨rfl,trivial⟩) ?_;intro i K;dsimp only at K ⊢;refine zc 5 (fun a=>?_) fun a=>?_
 ·have k:i<n:=Int.ofNat_lt.1 (A1 a);obtain⟨q,L⟩:∃q,q=A.States[i]'B3:=⟨_,rfl⟩
  have E:A.States[i]?=some q:=by rw[L];exact B44 B3
  have N:=bZ (j q (B52 E));obtain⟨b,hb⟩:∃b,b=decide (0<=q.Next/\q.Next<(n:Int)):=⟨_,rfl⟩
  have g:¬q.Kind=4->b=true:=fun M=>by rw[hb];exact A4 B3
  refine zz 5 ?_;refine B0 (A9 A0 (.pure _ _ _ _) A0 B3 E) A0 (zz 1 ?_);refine C4 (H9 6 A0) A0 (zz 7 ?_);refine rG (nP q.Next n A0) A0 A0 A0 A0 ?_;rintro _ _ ⟨rfl,rfl⟩;refine zz 2 ?_;rw[<-hb];refine zz 6 ?_;refine S7 [(3,.s (.one (.ref 3 0))),(4,.s (.one (.clo 130 [] [(3,0)]))),(26,.s (YG A.States).s1),(27,B7 n),(28,B7 i),(7,K9 true)] [(3,.box [.p (.v (.int .i64 n))])] ?_ ?_
  ·refine zc 7 (fun a=>?_) fun a=>?_
   ·rw[g (by have:=A1 a;omega)];refine zc 1 (fun a=>?_) fun a=>?_
    ·refine zz 1 ?_;exact Sees.of lf lo
    ·exact absurd (A1 sQ) (A3 a)
   have F:¬q.Kind=0:=A3 a;refine zc 5 (fun a=>?_) fun a=>?_
   ·rw[g (by have:=A1 a;omega)];refine zc 1 (fun a=>?_) fun a=>?_
    ·refine zz 1 ?_;exact Sees.of lf lo
    ·exact absurd (A1 sQ) (A3 a)
   have G:¬q.Kind=2:=A3 a;skip;refine zc 4 (fun a=>?_) fun a=>?_
   ·rw[g (by have:=A1 a;omega)];refine zz 1 ?_;exact Sees.of lf lo
   have H:¬q.Kind=3:=A3 a;refine zc 5 (fun a=>?_) fun a=>?_
   ·skip;have y:q.Kind=1:=A1 a;have J:decide (0<=q.Other/\q.Other<(n:Int))=true:=A4 B3;rw[g B3];refine zz 10 ?_;refine rG (nP q.Other n A0) A0 A0 A0 A0 ?_;rintro _ _ ⟨rfl,rfl⟩;refine zz 3 ?_;rw[J];refine zz 0 ?_;exact Sees.of lf lo
   have y:¬q.Kind=1:=A3 a;refine zc 5 (fun a=>?_) fun a=>?_
   ·skip;refine zz 3 ?_;exact Sees.of lf lo
   have I:¬q.Kind=4:=A3 a;exfalso;omega
  refine zc 5 (fun a=>?_) fun a=>?_
  ·cases a
  refine zz 5 ?_;exact⟨i+1,Nat.succ_le_of_lt k,Nat.sub_lt_sub_left k (Nat.lt_succ_self i),Sees.of lf lo⟩
 refine zz 6 ?_;exact B2 (rs:=[D3 0]) (G6 rfl rfl rfl) rfl
abbrev macG(A:AL.Auto)(s:Str)(a:Nat)(x y:TC):Ob:=.box [.p (.list AL.State 7 gB A.States),.p (.v (.int .i64 A.Start)),.p (.v (.string ⟨s.toArray⟩)),.p (.v (.int .i64 a)),x,y]
abbrev fN(A:AL.Auto)(s:Str)(a:Nat):Ob:=macG A s a (.mut 831) (.mut 832)
abbrev dX:S1:=.one (.ref 830 0)
abbrev CG(l:List AL.Thread):Ob:=.grow 202 AL.Thread 2 r7 l
abbrev xR(l:List Bool):Ob:=.arr Bool 1 Q9 l
abbrev pThr(t:AL.Thread):PV:=.agg [.v (.int .i64 t.state),.v (.int .i64 t.from_)]
theorem oY{p:Prop}(h:p:=by (first | omega | decide)):p:=h
theorem UJ(A:AL.Auto)(s:Str)(f:AG A):AL.Met Tryz.prog 131 [(iJ A).s1,.one (.p (.v (.string ⟨s.toArray⟩))),N8 0] [] [] []
  (fun rs ob'=>rs=[dX]/\ob'=[(830,macG A s 0 (.p (.v (.slice none 0 0))) (.mut 832)),(832,xR (List.replicate A.States.length false))]):=by
 have j:=f.len;refine AL.Met.intro Tryz.func131 F2 A0 A0 A0 (zz 6 ?_);refine M6 [8,6] [[],[6],[8,6]] [(6,([832],[])),(8,([830],[]))] [(0,[]),(1,[]),(2,[]),(3,[]),(4,[]),(5,[]),(6,[]),(7,[6]),(8,[6]),(9,[8,6])] [(0,[6]),(1,[6]),(2,[6])] D6 D6 (C5 A0 A0 D6 A0 A0 (T9 A0 A0) (C5 A0 A0 D6 A0 A0 (C6 A0 A0) (C5 A0 A0 D6 A0 A0 (C6 A0 A0) (C5 A0 A0 D6 A0 A0 (G7 A0) (C5 A0 A0 D6 A0 A0 (H7 A0 A0) (C5 A0 A0 D6 A0 A0 (qA A0 (.pure _ _ _ _)) (W5 A0 A0 D6 A0 A0 (tD (fun b a d=>l7 832 Bool Q9 false (Q1 a A0) (Q1 a A0) oY oY (fun _=>by first | exact⟨⟨rfl,rfl⟩,trivial⟩ | exact⟨F6 _ _ _,trivial⟩ | exact⟨F6 _ _ _,⟨rfl,rfl⟩,F6 _ _ _,trivial⟩) (by rw[d];rfl))) A0 ?_)))))));refine C5 A0 A0 D6 A0 A0 (zG A0) (W5 A0 A0 D6 A0 A0 (tD (fun b a d=>n8 830 (Q1 a A0) A0 (by rw[d];rfl))) A0 ?_);refine C5 A0 A0 D6 A0 A0 (sR A0 A0) ?_;refine AT D6 rfl ?_ ?_
 ·refine F5 A0 A0 D6 A0 A0 (T9 A0 A0) (F5 A0 A0 D6 A0 A0 (C6 A0 A0) (F5 A0 A0 D6 A0 A0 (C6 A0 A0) ?_));exact jQ
 refine zz 1 ?_;exact C7 (F1 rfl rfl) b8x (fun _ _ h=>h) ⟨rfl,by rw[B45];rfl⟩
theorem b4w{p:Prop}(h:p:=by repeat (first | exact N0 | refine R9 rfl ?_ | refine H3 (by assumption) ?_ | refine TO _ rfl ?_)):p:=h
theorem b4x{p:Prop}(h:p:=by repeat (first | exact N0 | refine R9 rfl ?_ | refine TO _ rfl ?_)):p:=h
theorem b5x{p:Prop}(h:p:=by dsimp only;omega):p:=h
theorem HH{gf:Fr}{ob:Obs}(A:AL.Auto)(s:Str)(Z:AG A)(a:Nat)(q fr:Int)(m0 R:Mach)(S:MG A m0)(hq:0<=q/\q<A.States.length)(ad:uU A s a ⟨q,fr⟩ m0=R)
  (h0:B6 ob 830=some (fN A s a)) (h1:B6 ob 831=some (CG m0.1)) (h2:B6 ob 832=some (xR m0.2)) (h3:B6 ob 834=none) :
  AL.Met Tryz.prog 132 [dX,(pThr ⟨q,fr⟩).s1] gf ob [831,834] (fun rs ob'=>rs=[]/\ob'=(830,fN A s a)::(831,CG R.1)::(832,xR R.2)::F9 [831,834] ob):=by
 obtain⟨an,ao⟩:=Z.len;refine AL.Met.introH Tryz.func132 F2 rfl rfl rfl (fun H=>?_);refine C1 (B14 831 (l:=[(0,.s dX),(1,.s (pThr ⟨q,fr⟩).s1)]) (L:=[(830,_),(831,_),(832,_)]) lf H I8 ⟨h0,h1,h2,trivial⟩) ?_;refine C1 (Sees.forget 834) (C1 (B13 (gf':=B5 [831,834] gf) (l:=[(0,.s dX),(1,.s (pThr ⟨q,fr⟩).s1)]) (ob':=[(830,fN A s a),(831,CG m0.1),(832,xR m0.2)]++F9 [831,834] ob) lf (B1 H) jJ (C8 (L:=[(830,_),(831,_),(832,_)]) ⟨rfl,rfl,rfl,trivial⟩ MS)) ?_);have ae:B6 (F9 [831,834] ob) 834=none:=Y5 h3;refine zz 8 ?_;refine C4 (YY 834 (c:=D2) (ys:=[q]) (C3 A0 A0 A0 A0 E6) A0 A0 A0 ae A0) A0 (zz 3 ?_);refine C2 (X:=Nat×List Int×Mach) (fun x=>([(0,.s dX),(3,.s (.one (.eref Unit 2 (fun _ j=>[Cell.v (.int .i64 q),Cell.v (.int .i64 fr)].getD j (.v undef)) () 0))),(4,.s (.one (.mut 834)))]++B5 [831,834] gf,[(830,fN A s a),(831,CG x.2.2.1),(832,xR x.2.2.2),(834,.grow 3 Int 1 D2 x.2.1)]++F9 [831,834] ob)) (fun x=>RE x.2.1 x.2.2<x.1/\eN A s a fr x.1 x.2.1 x.2.2=R/\RE x.2.1 x.2.2<=24001/\MG A x.2.2/\∀k∈x.2.1,0<=k/\k<A.States.length) (fun x=>RE x.2.1 x.2.2) (3*A.States.length+2,[q],m0) ?_ ?_ ?_
 ·have h6:=S.cnt;refine⟨?_,ad,?_,S,fun k hk=>by rw[List.mem_singleton.1 hk];exact hq⟩
  ·unfold RE;simp only[List.length_singleton];omega
  ·unfold RE;simp only[List.length_singleton];omega
 ·exact B13 lf (B1 H) jJ (C8 (L:=[(830,_),(831,_),(832,_),(834,_)]) ⟨rfl,rfl,rfl,rfl,trivial⟩ b4x)
 rintro⟨f,d,m⟩ ⟨hf,V,T,P,I⟩;dsimp only at hf V T P I ⊢;have ap:d.length<=24001:=by unfold RE at T;omega
 have al:=P.cnt;have au:=P.sl;refine zc 7 (fun J=>?_) fun J=>?_;rotate_left
 ·have ak:d=[]:=List.length_eq_zero_iff.1 (by have:=A3 J;omega);rw[ak,IM]at V;rw[V];refine zz 1 ?_;exact T6 (gQ rfl) jJ (C8 (L:=[(830,_),(831,_),(832,_)]) ⟨rfl,rfl,rfl,trivial⟩ b4w) ⟨rfl,rfl⟩
 have F:0<d.length:=by have:=A1 J;omega
 obtain⟨i,hi⟩:∃i,d.getLast?=some i:=by
  cases h:d.getLast? with
  | none=>rw[List.getLast?_eq_none_iff]at h;rw[h]at F;cases F
  | some i=>exact⟨i,rfl⟩
 obtain⟨_,af,ag⟩:=uY hi;obtain⟨g3,g4⟩:=I i ag;obtain⟨f',G,m',am,K,O,C,Q,E,y,z⟩:=yL s Z P I hf V hi;have ai:d[((d.length:Int)-1).toNat]?=some i:=by rw[show ((d.length:Int)-1).toNat=d.length-1 by omega];exact af
 have B:d.take ((d.length:Int)-1).toNat=d.dropLast:=by rw[List.dropLast_eq_take];congr 1;omega
 obtain⟨r,hr⟩:∃r,r=d.dropLast:=⟨_,rfl⟩
 have aq:r.length<=24001:=by rw[hr,List.length_dropLast];omega
 rw[<-hr]at B y z;obtain⟨b,hb⟩:∃b,b=L9 m.2 i.toNat:=⟨_,rfl⟩
 have ah:m.2[i.toNat]?=some b:=by rw[hb];exact VV (by rw[P.sl];omega)
 rw[<-hb]at y z;have aj:=uW (A:=A) ⟨g3,g4⟩;refine zz 9 ?_;refine B0 (dC A0 A0 ai A0) A0 (zz 11 ?_);rw[B];refine zz 9 ?_;refine B0 (M4 A0 A0 ah A0) A0 ?_;refine zc 1 (fun J=>?_) fun J=>?_
 ·obtain⟨U,W⟩:=y J;refine zz 1 ?_;refine⟨(f',G,m'),⟨O,K,b5x,Q,E⟩,C,?_⟩;rw[U,W];exact B13 lf (B1 H) jJ (C8 (L:=[(830,_),(831,_),(832,_),(834,_)]) ⟨rfl,rfl,rfl,rfl,trivial⟩ b4x)
 obtain⟨U,W⟩:=z J;have ab:decide ((a:Int)=0)=decide (a=0):=decide_eq_decide.2 B3;have ac:decide ((a:Int)=(s.length:Int))=decide (a=s.length):=decide_eq_decide.2 B3;rw[<-ab,<-ac]at U;obtain⟨ar,_⟩:=uX Z ⟨g3,g4⟩ (decide ((a:Int)=0)) (decide ((a:Int)=(s.length:Int)));refine zz 9 ?_;refine V1 (G5 TySz.out A0 A0 B3 A0 A0) (zz 2 ?_);refine C1 (B13 (gf':=B5 [831,834] gf) (l:=[(0,.s dX),(3,.s (.one (.eref Unit 2 (fun _ j=>[Cell.v (.int .i64 q),Cell.v (.int .i64 fr)].getD j (.v undef)) () 0))),(4,.s (.one (.mut 834))),(5,B7 i)]) (ob':=[(830,fN A s a),(831,CG m.1),(832,xR (m.2.set i.toNat true)),(834,.grow 3 Int 1 D2 r)]++F9 [831,834] ob) lf (B1 H) jJ (C8 (L:=[(830,_),(831,_),(832,_),(834,_)]) ⟨rfl,rfl,rfl,rfl,trivial⟩ b4x)) ?_;refine M6 [13,10] [[],[10],[13,10]] [(10,([831],[40])),(13,([],[]))] [(0,[]),(1,[]),(2,[]),(3,[]),(4,[]),(5,[]),(6,[]),(7,[]),(8,[]),(9,[]),(10,[]),(11,[10]),(12,[10]),(13,[10])] [(0,[10])] D6 D6 (C5 A0 A0 D6 A0 A0 (C6 A0 A0) (C5 A0 A0 D6 A0 A0 (C6 A0 A0) (C5 A0 A0 D6 A0 A0 (E7 A0) (C5 A0 A0 D6 A0 A0 (F0 A0) (C5 A0 A0 D6 A0 A0 (D8 A0 A0 A0) (C5 A0 A0 D6 A0 A0 (C6 A0 A0) (C5 A0 A0 D6 A0 A0 (G7 A0) (C5 A0 A0 D6 A0 A0 (H7 A0 A0) (C5 A0 A0 D6 A0 A0 (zG A0) (C5 A0 A0 D6 A0 A0 (C0 (c:=r7) (ys:=[⟨i,fr⟩]) (C3 A0 A0 A0 A0 E6) A0 A0 A0) (W5 A0 A0 D6 A0 A0 (kT (fun Y M=>P0 (Q1 M A0) A0 (Q1 M A0) (.pure _ _ _ _) SC A0)) A0 (C5 A0 A0 D6 A0 A0 (E7 A0) (C5 A0 A0 D6 A0 A0 (F0 A0) (W5 A0 A0 D6 A0 A0 (fJ (fun Y M=>K0 TySz.out (Q1 M A0) A0 (Q1 M A0) A0 A0 A0)) A0 ?_))))))))))))));refine rI (ks:=[831,834]) rfl D6 rfl ?_ ?_
 ·refine F5 A0 A0 D6 A0 A0 (C6 A0 A0) ?_;exact jQ
 refine zz 0 ?_;refine C1 (B13 (gf':=B5 [831,834] gf) (l:=[(0,.s dX),(3,.s (.one (.eref Unit 2 (fun _ j=>[Cell.v (.int .i64 q),Cell.v (.int .i64 fr)].getD j (.v undef)) () 0))),(4,.s (.one (.mut 834))),(5,B7 i)]) (ob':=[(830,fN A s a),(831,CG (m.1++[⟨i,fr⟩])),(832,xR (m.2.set i.toNat true)),(834,.grow 3 Int 1 D2 r)]++F9 [831,834] ob) lf (B1 H) jJ (C8 (L:=[(830,_),(831,_),(832,_),(834,_)]) ⟨rfl,rfl,rfl,rfl,trivial⟩ b4x)) ?_;refine zz 8 ?_;refine D1 (A9 A0 (.pure _ _ _ _) A0 B3 aj) A0 A0 (zz 16 ?_);refine D1 (K4 (A66 (O8 A i) (decide ((a:Int)=0)) (decide ((a:Int)=(s.length:Int)))) A0 A0) A0 A0 (d_effv (P0 A0 A0 A0 (.pure _ _ _ _) B3 A0) A0 A0 (zz 2 ?_));refine⟨(f',G,m'),⟨O,K,b5x,Q,E⟩,C,?_⟩;rw[U,W];exact B13 lf (B1 H) jJ (C8 (L:=[(830,_),(831,_),(832,_),(834,_)]) ⟨rfl,rfl,rfl,rfl,trivial⟩ b4x)
end Go.Proofs.YtabbdaafimcjhaaGreatDoor
