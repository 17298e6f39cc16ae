/- Walks of the program's functions. -/
import Derived.Test.YtgkjogphmmoakaaGreatDoorFa
import Derived.Lib.Bytealg
import Derived.RecoverIn
set_option linter.all false
namespace Go.Proofs.YtgkjogphmmoakaaGreatDoor
open Go Go.AL
set_option maxRecDepth 100000
set_option maxHeartbeats 1000000
structure FewT (g:Graph):Prop where
 few:FewG g
 tree:∀c∈g,FewF c.Files
theorem FewT.files{g:Graph}(h:FewT g)(c:Nat):FewF (N9 g c):=by
 unfold N9;by_cases a:c<g.length
 ·rw[A32 a];exact h.tree _ (A37 a)
 ·rw[A52 (by omega)];exact⟨by simp,(fun _ h=>by cases h),(fun _ h=>by cases h)⟩
theorem mI:∀{g:List Commit} {i:Nat},(∀k,k<i->∀h:k<g.length,L5 g[k].Files=0)->j5 g=j5 (g.drop i)
 | g,0,_=>rfl
 | [],i+1,_=>by simp
 | c::r,i+1,h=>by
  have a:=h 0 (by omega) (by simp);rw[j5,A5 (by simpa using a),List.drop_succ_cons];exact mI fun k d b=>h (k+1) (by omega) (by simpa using b)
theorem DM(g:Graph)(h:FewT g):FnOk Tryz.prog 19 [I1 g] (fun rs=>rs=[E2 (X4 g)]):=by
 have E:=h.few.len;refine FnOk.intro Tryz.func19 (by decide) Z Z Z Z ?_;refine k2 ?_;refine A7 (A6 (A9 Z Z) Z (B0 ?_));refine k1 (k2 (k3 (k2 ?_)));refine A7 (A6 (A8 Z Z) Z (C4 (GP g h.few (by omega)) Z Z Z ?_));rintro _ rfl;refine A6 (G7 Z) Z (A6 (A9 Z Z) Z (B0 ?_));refine k1 ?_;refine B8 rfl (fun a=>?_) (fun a=>?_)
 ·have f:aO g=false:=by simpa using a
  refine k2 ?_;refine A7 (A6 (A9 Z Z) Z (B0 ?_));refine k1 (G5 (R5 (I2 ?_)));exact C0 (rs:=[E2 1]) (H6 rfl rfl rfl) (by unfold X4;rw[A4 f])
 have m:aO g=true:=by simpa using a
 refine k2 ?_;refine A7 (A6 (A8 Z Z) Z (C4 (GQ g h.few (by omega)) Z Z Z ?_));rintro _ rfl;refine A6 (G7 Z) Z (A6 (A9 Z Z) Z (B0 ?_));refine k1 ?_;refine B8 rfl (fun a=>?_) (fun a=>?_)
 ·have f:related g=false:=by simpa using a
  refine k2 ?_;refine A7 (A6 (A9 Z Z) Z (B0 ?_));refine k1 (G5 (R5 (I2 ?_)));exact C0 (rs:=[E2 230]) (H6 rfl rfl rfl) (by unfold X4;rw[A5 (by rw[m];decide),A4 f])
 have d:related g=true:=by simpa using a
 have o:X4 g=if cyclic g=true then 231 else if qB g=true then 3 else j5 g:=by unfold X4;rw[A5 (by rw[m];decide),A5 (by rw[d];decide)]
 rw[o];refine k2 ?_;refine A7 (A6 (A8 Z Z) Z (C4 (LF g h.few d) Z Z Z ?_));rintro _ ⟨D,y,rfl,z⟩;refine A6 (F0 Z (.pure _ _ _ _)) Z (A6 (A8 Z Z) Z (A6 (F0 Z (.pure _ _ _ _)) Z (A6 (F2 Z Z) Z (A6 (A9 Z Z) Z (B0 ?_)))));have n:=z.done d;have n:decide ((y.length:Int)<g.length)=cyclic g:=by rw[<-n,decide_eq_decide];omega
 refine k1 ?_;rw[n];refine B8 rfl (fun a=>?_) (fun a=>?_)
 ·rw[A4 a];refine k2 ?_;refine A7 (A6 (A9 Z Z) Z (B0 ?_));refine k1 (G5 (R5 (I2 ?_)));exact C0 (rs:=[E2 231]) (H6 rfl rfl rfl) rfl
 rw[a,A5 (by decide)];refine k2 ?_;refine A7 (A6 (A8 Z Z) Z (C4 (eF 55 (fun c=>decide (c.Date<0\/c.Date>2147483647)) g (by omega) (fun c _=>LA c)) Z Z Z ?_));rintro _ rfl;refine A6 (A9 Z Z) Z (B0 ?_);refine k1 ?_;refine B8 rfl (fun a=>?_) (fun a=>?_)
 ·have f:qB g=true:=a;rw[A4 f];refine k2 ?_;refine A7 (A6 (A9 Z Z) Z (B0 ?_));refine k1 (G5 (R5 (I2 ?_)));exact C0 (rs:=[E2 3]) (H6 rfl rfl rfl) rfl
 have v:qB g=false:=a;rw[v,A5 (by decide)];refine k5 (k2 (k2 ?_));refine A7 (A6 (A8 Z Z) Z (A6 (F0 Z (.pure _ _ _ _)) Z (A6 (A8 Z Z) Z (B0 ?_))));refine k1 (k3 ?_);refine E3 (X:=Nat) (fun i=>([(24,D7 Commit 3 J3 g),(25,C7 g.length),(26,C7 i)],[])) (fun i=>i<=g.length/\∀k,k<i->∀h:k<g.length,L5 g[k].Files=0) (fun i=>g.length-i) 0 ⟨Nat.zero_le _,fun c h=>by omega⟩ (Sees.of ⟨B5 rfl,B5 rfl,B5 rfl,trivial⟩ trivial) ?_;rintro i ⟨A,x⟩;dsimp only at A x ⊢;have b:=mI x;refine k2 ?_;refine A7 (A6 (F2 Z Z) Z (B0 ?_));refine k1 (k2 ?_);refine B8 rfl (fun a=>?_) (fun a=>?_)
 ·have j:i<g.length:=by have f:=A0 a;(try dsimp only at f);omega
  obtain⟨c,q⟩:∃c,c=g[i]:=⟨_,rfl⟩
  have C:g[i]?=some c:=by rw[q];simp[j]
  have B:c∈g:=by rw[q];exact A37 j
  rw[A41 j,<-q,j5]at b;refine k5 (k1 (k2 (k3 (k2 ?_))));refine A7 (A6 (C1 Z (.pure _ _ _ _) Z (by omega) C) Z (A6 (E5 Z Z) Z (D2 (G3 4 Z) Z (F4 (C2 TySz.out Z Z Z Z Z Z) (B0 ?_)))));refine k1 (k2 ?_);refine A7 (A6 (B1 Z) Z (A6 (B2 Z Z Z) Z (C4 (LK c.Files (h.tree c B)) Z Z Z ?_)));rintro _ rfl;refine A6 (A9 Z Z) Z (B0 ?_);refine k1 (k2 ?_);refine A7 (A6 (A8 Z Z) Z (A6 (K4 Z Z) Z (B0 ?_)));refine k1 ?_;refine B8 rfl (fun a=>?_) (fun a=>?_)
  ·have t:L5 c.Files≠0:=A0 a;rw[A4 t]at b;rw[b];refine k2 ?_;refine A7 (A6 (A8 Z Z) Z (A6 (A9 Z Z) Z (B0 ?_)));refine k1 (G5 (R5 (I2 (I2 (R5 (I2 ?_))))));exact C0 (rs:=[E2 (L5 c.Files)]) (H6 rfl rfl rfl) rfl
  ·have t:¬L5 c.Files≠0:=A1 a;refine k5 (k4 (k1 ?_));refine A7 (A6 (C9 Z Z (by omega)) Z (A6 (A8 Z Z) Z (B0 ?_)));refine k1 ?_;refine⟨i+1,⟨j,fun k G hkl=>?_⟩,by omega,(Sees.of ⟨B5 rfl,B5 rfl,B5 rfl,trivial⟩ trivial)⟩;by_cases e:k=i
   ·subst e;rw[<-q];exact Decidable.not_not.1 t
   ·exact x k (by omega) hkl
 have w:i=g.length:=by have f:=A1 a;(try dsimp only at f);omega
 rw[w,List.drop_length]at b;rw[b];refine k6 (k2 ?_);refine A7 (A6 (A9 Z Z) Z (B0 ?_));refine k1 (G5 ?_);exact C0 (rs:=[E2 0]) (H6 rfl rfl rfl) rfl
theorem qZ{g:Graph}{c:Nat}{a:Commit}(h:g[c]?=some a):N9 g c=a.Files:=by unfold N9;rw[h];rfl
theorem Valid.files{g:Graph}(h:Valid g)(c:Nat):(N9 g c).length<=200:=by
 unfold N9;by_cases a:c<g.length
 ·rw[A32 a];exact (zR (h.tree _ (A37 a))).2.1
 ·rw[A52 (by omega)];simp
theorem Valid.trees{g:Graph}(h:Valid g)(c:Nat):∀t∈lM g c,t.length<=200:=by
 intro t a;unfold lM at a;split at a
 ·rw[List.mem_singleton.1 a];simp
 ·obtain⟨p,_,rfl⟩:=A65.1 a;exact Valid.files h _
structure FewB (B:List (List (Str×Str))):Prop where
 len:B.length<=33
 lens:∀l∈B,l.length<=400
 strs:∀l∈B,∀x∈l,x.1.length<=16777216/\x.2.length<=16777216
def Short(g:Graph):Prop:=∀c:Nat,(N9 g c).length<=6
theorem Short.tree{g:Graph}(h:Short g){c:Nat}{t:List File}(a:t∈lM g c):t.length<=6:=by
 unfold lM at a;split at a
 ·rw[List.mem_singleton.1 a];simp
 ·obtain⟨p,_,rfl⟩:=A65.1 a;exact h _
theorem Valid.check{g:Graph}(h:Valid g)(c:Nat):L5 (N9 g c)=0:=by
 unfold N9;by_cases a:c<g.length
 ·rw[A32 a];exact h.tree _ (A37 a)
 ·rw[A52 (by omega)];decide
theorem Valid.checks{g:Graph}(h:Valid g){c:Nat}{t:List File}(a:t∈lM g c):L5 t=0:=by
 unfold lM at a;split at a
 ·rw[List.mem_singleton.1 a];decide
 ·obtain⟨p,_,rfl⟩:=A65.1 a;exact Valid.check h _
abbrev UQ(b:Bool):S1:=.one (.p (.v (.bool b)))
abbrev XN(i:Int):S1:=.one (.p (.v (.int .i64 i)))
theorem three{p:Nat->Prop}(a:p 0)(b:p 1)(c:p 2):∀i,i<3->p i
 | 0,_=>a
 | 1,_=>b
 | 2,_=>c
theorem vY(k q:Nat)(o:Ob):(o.forget q).forget k=(o.forget k).forget q:=by
 cases o with
 | box l=>simp only[Ob.forget,A76];congr 1;exact List.map_congr_left fun t _=>TC.forget_comm k q t
 | tbx e l=>simp only[Ob.forget,A76];congr 1;exact List.map_congr_left fun t _=>TC.forget_comm k q t
 | tarr n m l=>simp only[Ob.forget,A76];congr 1;exact List.map_congr_left fun t _=>TC.forget_comm k q t
 | growT e n m l=>simp only[Ob.forget,A76];congr 1;exact List.map_congr_left fun t _=>TC.forget_comm k q t
 | growA e α a c b p l=>simp only[Ob.forget,A76];congr 1;exact List.map_congr_left fun t _=>TC.forget_comm k q t
 | _=>rfl
theorem tM(k q:Nat)(ob:Obs):Obs.forget k (Obs.forget q ob)=Obs.forget q (Obs.forget k ob):=by
 simp only[Obs.forget,A76,Function.comp_def,vY k q]
theorem five{p:Nat->Prop}(a:p 0)(b:p 1)(c:p 2)(d:p 3)(e:p 4):∀i,i<5->p i
 | 0,_=>a
 | 1,_=>b
 | 2,_=>c
 | 3,_=>d
 | 4,_=>e
theorem cV{K:List Nat}{T rest:Obs}{k:Nat}{o:Ob}(a:D4 rest k=none)(h:∀j x,P9 K j=false->D4 rest j=some x->D4 T j=some x):∀j x,P9 K j=false->D4 rest j=some x->D4 ((k,o)::T) j=some x:=by
 intro j x c b;have:k≠j:=fun e=>by rw[e,b]at a;cases a
 rw[C8 this];exact h j x c b
def R1(ks:List Nat)(ob:Obs):Obs:=ks.foldl (fun f k=>Obs.forget k f) ob
theorem fE{k:Nat}:∀{ks:List Nat} {ob:Obs},D4 ob k=none->D4 (R1 ks ob) k=none
 | [],_,h=>h
 | q::ks,ob,h=>fE (ks:=ks) (ob:=Obs.forget q ob) (by rw[M4,h];rfl)
theorem oR(k:Nat):∀(a:List Nat) (ob:Obs),R1 a (Obs.forget k ob)=Obs.forget k (R1 a ob)
 | [],_=>rfl
 | q::a,ob=>by
  show R1 a (Obs.forget q (Obs.forget k ob))=Obs.forget k (R1 a (Obs.forget q ob));rw[tM q k,oR k a]
theorem mJ{k:Nat}:∀{a:List Nat} {ob:Obs},P9 a k=true->Obs.forget k (R1 a ob)=R1 a ob
 | [],ob,h=>by cases h
 | q::a,ob,h=>by
  show Obs.forget k (R1 a (Obs.forget q ob))=R1 a (Obs.forget q ob);by_cases b:k=q
  ·subst b;rw[oR,Obs.forget_idem]
  ·have c:P9 a k=true:=by
    rw[FQ]at h ⊢;rcases A39.1 h with h | h
    ·exact absurd h b
    ·exact h
   exact mJ c
theorem rA{K b:List Nat}{T ob:Obs}(k:Nat)(e:P9 b k=true)(h:∀j x,P9 K j=false->D4 (R1 b ob) j=some x->D4 T j=some x) :
  ∀j x,P9 K j=false->D4 (R1 b ob) j=some x->D4 (Obs.forget k T) j=some x:=by
 intro j x d a;rw[<-mJ e,M4]at a;rw[M4];cases c:D4 (R1 b ob) j with
 | none=>rw[c]at a;cases a
 | some y=>rw[c]at a;rw[h j y d c];exact a
abbrev qAcc:AL.State:=⟨4,⟨0,0,0,0⟩,0,0⟩
abbrev qEnd:AL.State:=⟨3,⟨0,0,0,0⟩,0,0⟩
abbrev qSet:AL.State:=⟨0,⟨0,8589934592,0,0⟩,2,0⟩
abbrev qSp:AL.State:=⟨1,⟨0,0,0,0⟩,3,1⟩
abbrev qSta:AL.State:=⟨2,⟨0,0,0,0⟩,4,0⟩
end Go.Proofs.YtgkjogphmmoakaaGreatDoor
