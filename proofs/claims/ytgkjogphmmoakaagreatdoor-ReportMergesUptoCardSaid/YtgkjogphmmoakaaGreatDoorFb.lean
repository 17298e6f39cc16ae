
/- Walks of the program's functions. -/
import Derived.Test.YtgkjogphmmoakaaGreatDoorFa
import Derived.Lib.Bytealg
import Derived.RecoverIn
set_option linter.all false
namespace Go.Proofs.YtgkjogphmmoakaaGreatDoor
open Go Go.AL
set_option maxRecDepth 100000
set_option maxHeartbeats 4000000
structure FewT (g:Graph):Prop where
 few:FewG g
 tree:∀c∈g,FewF c.Files
theorem FewT.files{g:Graph}(h:FewT g)(c:Nat):FewF (O8 g c):=by
 unfold O8;by_cases a:c<g.length
 ·rw[C29 a];exact h.tree _ (C35 a)
 ·rw[C49 B1];exact⟨by simp,(fun _ h=>by cases h),(fun _ h=>by cases h)⟩
theorem pM:∀{g:List Commit} {i:Nat},(∀k,k<i->∀h:k<g.length,K6 g[k].Files=0)->p6 g=p6 (g.drop i)
 | g,0,_=>rfl
 | [],i+1,_=>by simp
 | c::r,i+1,h=>by
  have a:=h 0 B1 s6;rw[p6,A6 (by simpa using a),List.drop_succ_cons];exact pM fun k d b=>h (k+1) B1 (by simpa using b)
theorem LF(g:Graph)(h:FewT g):FnOk Tryz.prog 19 [G9 g] (fun rs=>rs=[D2 (X8 g)]):=by
 have E:=h.few.len;refine FnOk.intro Tryz.func19 G6 Z Z Z Z (zz 9 ?_);refine D3 (OX g h.few B1) ?_;refine zc 3 (fun a=>?_) fun a=>?_
 ·have f:bC g=false:=by simpa using a
  refine zz 5 ?_;exact A8 (rs:=[D2 1]) (F7 rfl rfl rfl) (by unfold X8;rw[A5 f])
 have m:bC g=true:=by simpa using a
 refine zz 3 ?_;refine D3 (OY g h.few B1) ?_;refine zc 3 (fun a=>?_) fun a=>?_
 ·have f:related g=false:=by simpa using a
  refine zz 5 ?_;exact A8 (rs:=[D2 230]) (F7 rfl rfl rfl) (by unfold X8;rw[A6 (by rw[m];decide),A5 f])
 have d:related g=true:=by simpa using a
 have o:X8 g=if cyclic g=true then 231 else if uC g=true then 3 else p6 g:=by unfold X8;rw[A6 (by rw[m];decide),A6 (by rw[d];decide)]
 rw[o];refine zz 3 ?_;refine x7 (UN g h.few d) Z Z Z ?_;rintro _ ⟨D,y,rfl,z⟩;refine zz 6 ?_;have n:=z.done d;have n:decide ((y.length:Int)<g.length)=cyclic g:=by rw[<-n,decide_eq_decide];omega
 refine zz 0 ?_;rw[n];refine zc 0 (fun a=>?_) fun a=>?_
 ·rw[A5 a];refine zz 5 ?_;exact A8 (rs:=[D2 231]) (F7 rfl rfl rfl) rfl
 rw[a,A6 G6];refine zz 3 ?_;refine FH (fU 55 (fun c=>decide (c.Date<0\/c.Date>2147483647)) g B1 (fun c _=>UJ c)) Z Z Z ?_;refine zc 2 (fun a=>?_) fun a=>?_
 ·have f:uC g=true:=a;rw[A5 f];refine zz 5 ?_;exact A8 (rs:=[D2 3]) (F7 rfl rfl rfl) rfl
 have v:uC g=false:=a;rw[v,A6 G6];refine zz 9 ?_;refine C5 (X:=Nat) (fun i=>([(24,C0 Commit 3 H8 g),(25,B2 g.length),(26,B2 i)],[])) (fun i=>i<=g.length/\∀k,k<i->∀h:k<g.length,K6 g[k].Files=0) (fun i=>g.length-i) 0 ⟨Nat.zero_le _,fun c h=>by omega⟩ (Sees.of lf lo) ?_;rintro i ⟨A,x⟩;dsimp only at A x ⊢;have b:=pM x;refine zc 5 (fun a=>?_) fun a=>?_
 ·have j:i<g.length:=by have f:=A0 a;(try dsimp only at f);omega
  obtain⟨c,q⟩:∃c,c=g[i]:=⟨_,rfl⟩
  have C:g[i]?=some c:=by rw[q];simp[j]
  have B:c∈g:=by rw[q];exact C35 j
  rw[C38 j,<-q,p6]at b;refine zz 5 ?_;refine A7 (A9 Z (.pure _ _ _ _) Z B1 C) Z (zz 1 ?_);refine B8 (E6 4 Z) Z (zz 6 ?_);refine D3 (US c.Files (h.tree c B)) ?_;refine zc 7 (fun a=>?_) fun a=>?_
  ·have t:K6 c.Files≠0:=A0 a;rw[A5 t]at b;rw[b];refine zz 6 ?_;exact A8 (rs:=[D2 (K6 c.Files)]) (F7 rfl rfl rfl) rfl
  ·have t:¬K6 c.Files≠0:=A1 a;refine zz 5 ?_;refine⟨i+1,⟨j,fun k G hkl=>?_⟩,by omega,(Sees.of lf lo)⟩;by_cases e:k=i
   ·subst e;rw[<-q];exact Decidable.not_not.1 t
   ·exact x k B1 hkl
 have w:i=g.length:=by have f:=A1 a;(try dsimp only at f);omega
 rw[w,List.drop_length]at b;rw[b];refine zz 6 ?_;exact A8 (rs:=[D2 0]) (F7 rfl rfl rfl) rfl
theorem A18{g:Graph}{c:Nat}{a:Commit}(h:g[c]?=some a):O8 g c=a.Files:=by unfold O8;rw[h];rfl
theorem Valid.files{g:Graph}(h:Valid g)(c:Nat):(O8 g c).length<=200:=by
 unfold O8;by_cases a:c<g.length
 ·rw[C29 a];exact (FY (h.tree _ (C35 a))).2.1
 ·rw[C49 B1];simp
theorem Valid.trees{g:Graph}(h:Valid g)(c:Nat):∀t∈oK g c,t.length<=200:=by
 intro t a;unfold oK at a;split at a
 ·rw[List.mem_singleton.1 a];simp
 ·obtain⟨p,_,rfl⟩:=C54.1 a;exact Valid.files h _
structure FewB (B:List (List (Str×Str))):Prop where
 len:B.length<=33
 lens:∀l∈B,l.length<=400
 strs:∀l∈B,∀x∈l,x.1.length<=16777216/\x.2.length<=16777216
def Short(g:Graph):Prop:=∀c:Nat,(O8 g c).length<=6
theorem Short.tree{g:Graph}(h:Short g){c:Nat}{t:List File}(a:t∈oK g c):t.length<=6:=by
 unfold oK at a;split at a
 ·rw[List.mem_singleton.1 a];simp
 ·obtain⟨p,_,rfl⟩:=C54.1 a;exact h _
theorem Valid.check{g:Graph}(h:Valid g)(c:Nat):K6 (O8 g c)=0:=by
 unfold O8;by_cases a:c<g.length
 ·rw[C29 a];exact h.tree _ (C35 a)
 ·rw[C49 B1];decide
theorem Valid.checks{g:Graph}(h:Valid g){c:Nat}{t:List File}(a:t∈oK g c):K6 t=0:=by
 unfold oK at a;split at a
 ·rw[List.mem_singleton.1 a];decide
 ·obtain⟨p,_,rfl⟩:=C54.1 a;exact Valid.check h _
abbrev boolS(b:Bool):S1:=.one (.p (.v (.bool b)))
abbrev intS(i:Int):S1:=.one (.p (.v (.int .i64 i)))
theorem three{p:Nat->Prop}(a:p 0)(b:p 1)(c:p 2):∀i,i<3->p i
 | 0,_=>a
 | 1,_=>b
 | 2,_=>c
theorem BJ(k q:Nat)(o:Ob):(o.forget q).forget k=(o.forget k).forget q:=by
 cases o with
 | box l=>simp only[Ob.forget,C71];congr 1;exact List.map_congr_left fun t _=>TC.forget_comm k q t
 | tbx e l=>simp only[Ob.forget,C71];congr 1;exact List.map_congr_left fun t _=>TC.forget_comm k q t
 | tarr n m l=>simp only[Ob.forget,C71];congr 1;exact List.map_congr_left fun t _=>TC.forget_comm k q t
 | growT e n m l=>simp only[Ob.forget,C71];congr 1;exact List.map_congr_left fun t _=>TC.forget_comm k q t
 | growA e α a c b p l=>simp only[Ob.forget,C71];congr 1;exact List.map_congr_left fun t _=>TC.forget_comm k q t
 | _=>rfl
theorem yU(k q:Nat)(ob:Obs):Obs.forget k (Obs.forget q ob)=Obs.forget q (Obs.forget k ob):=by
 simp only[Obs.forget,C71,Function.comp_def,BJ k q]
theorem five{p:Nat->Prop}(a:p 0)(b:p 1)(c:p 2)(d:p 3)(e:p 4):∀i,i<5->p i
 | 0,_=>a
 | 1,_=>b
 | 2,_=>c
 | 3,_=>d
 | 4,_=>e
theorem A19{K:List Nat}{T rest:Obs}{k:Nat}{o:Ob}(a:B4 rest k=none)(h:∀j x,O1 K j=false->B4 rest j=some x->B4 T j=some x):∀j x,O1 K j=false->B4 rest j=some x->B4 ((k,o)::T) j=some x:=by
 intro j x c b;have:k≠j:=fun e=>by rw[e,b]at a;cases a
 rw[B0 this];exact h j x c b
def P8(ks:List Nat)(ob:Obs):Obs:=ks.foldl (fun f k=>Obs.forget k f) ob
theorem gT{k:Nat}:∀{ks:List Nat} {ob:Obs},B4 ob k=none->B4 (P8 ks ob) k=none
 | [],_,h=>h
 | q::ks,ob,h=>gT (ks:=ks) (ob:=Obs.forget q ob) (by rw[M1,h];rfl)
theorem sZ(k:Nat):∀(a:List Nat) (ob:Obs),P8 a (Obs.forget k ob)=Obs.forget k (P8 a ob)
 | [],_=>rfl
 | q::a,ob=>by
  show P8 a (Obs.forget q (Obs.forget k ob))=Obs.forget k (P8 a (Obs.forget q ob));rw[yU q k,sZ k a]
theorem pN{k:Nat}:∀{a:List Nat} {ob:Obs},O1 a k=true->Obs.forget k (P8 a ob)=P8 a ob
 | [],ob,h=>by cases h
 | q::a,ob,h=>by
  show Obs.forget k (P8 a (Obs.forget q ob))=P8 a (Obs.forget q ob);by_cases b:k=q
  ·subst b;rw[sZ,Obs.forget_idem]
  ·have c:O1 a k=true:=by
    rw[OE]at h ⊢;rcases C36.1 h with h | h
    ·exact absurd h b
    ·exact h
   exact pN c
theorem obs_in{K b:List Nat}{T ob:Obs}(k:Nat)(e:O1 b k=true)(h:∀j x,O1 K j=false->B4 (P8 b ob) j=some x->B4 T j=some x) :
  ∀j x,O1 K j=false->B4 (P8 b ob) j=some x->B4 (Obs.forget k T) j=some x:=by
 intro j x d a;rw[<-pN e,M1]at a;rw[M1];cases c:B4 (P8 b ob) j with
 | none=>rw[c]at a;cases a
 | some y=>rw[c]at a;rw[h j y d c];exact a
abbrev qAcc:AL.State:=⟨4,⟨0,0,0,0⟩,0,0⟩
abbrev qEnd:AL.State:=⟨3,⟨0,0,0,0⟩,0,0⟩
abbrev qSet:AL.State:=⟨0,⟨0,8589934592,0,0⟩,2,0⟩
abbrev qSp:AL.State:=⟨1,⟨0,0,0,0⟩,3,1⟩
abbrev qSta:AL.State:=⟨2,⟨0,0,0,0⟩,4,0⟩
end Go.Proofs.YtgkjogphmmoakaaGreatDoor
