/- Walks of the program's functions. -/
import Derived.RangeFuncBound
import Derived.RangeFuncOwn
import Derived.OwnWalkIn
import Derived.TacticsInMore
import Derived.LoopNIn
import Derived.LoopIn
import Derived.Test.YtbflhoahmmfkmaaGreatDoorFa
import Derived.Lib.Bytealg
import Derived.RecoverIn
set_option linter.all false
namespace Go.Proofs.YtbflhoahmmfkmaaGreatDoor
open Go Go.RowKit Go.AL
attribute [local go_sem] Oper.semAt_some
set_option maxRecDepth 100000
set_option maxHeartbeats 2000000
theorem iO:∀(a r b:Str),47∉a->J6 b (a++47::r)=(b++a)::J6 [] r
 | [],r,b,_=>by simp[J6]
 | x::a,r,b,h=>by
  have c:x≠47:=fun e=>h (by simp[e]);rw[XQ,J6,A5 c,iO a r _ (fun e=>h (by simp[e])),XH];rfl
theorem iP:∀(a b:Str),47∉a->J6 b a=[b++a]
 | [],b,_=>by simp[J6]
 | x::a,b,h=>by
  have c:x≠47:=fun e=>h (by simp[e]);rw[J6,A5 c,iP a _ (fun e=>h (by simp[e])),XH];rfl
theorem X3{W:World}{B:Nat}{v:Value}{t:TypeId}(h:W.heap[B]?=some (.cells #[v] t (0,0))):W.cell? ⟨B,0,none⟩=some v/\W.frozen? ⟨B,0,none⟩=false:=by
 constructor<;>simp[World.cell?,World.frozen?,h]
structure RInv (rec:LoopState->Option Code->Loop) (n0:Nat) (w0:World) (l D b2 bs bp bv:Nat) (rest:Str) (W:World):Prop where
 s:W.heap[bs]?=some (.cells #[.string ⟨rest.toArray⟩] 9 (0,0))
 p:W.heap[bp]?=some (.cells #[.string ⟨#[47]⟩] 9 (0,0))
 v:W.heap[bv]?=some (.cells #[.int .i64 0] 3 (0,0))
 r:W.heap[b2]?=some (.cells #[.int .i64 0] 33 (0,0))
 l:W.heap[l]?=some (.loop (rec .ready none))
 d:W.heap[D]?=some (.deferred (some []))
 b:Below n0 w0 W
structure RFin (rec:LoopState->Option Code->Loop) (n0:Nat) (w0:World) (l D b2:Nat) (W:World):Prop where
 r:W.heap[b2]?=some (.cells #[.int .i64 210] 33 (0,0))
 l:W.heap[l]?=some (.loop (rec .done (some .ret)))
 d:W.heap[D]?=some (.deferred (some []))
 b:Below n0 w0 W
def MK(a:Nat)(W:World):Nat:=match W.cell? ⟨a,0,none⟩ with | some (.string s)=>s.size | _=>0
theorem p8{W:World}{B:Nat}{v f:Value}{t:TypeId}(h:W.heap[B]?=some (.cells #[v] t (0,0))):(W.setCell ⟨B,0,none⟩ f).heap[B]?=some (.cells #[f] t (0,0)):=by
 obtain⟨d,b⟩:=Array.getElem?_eq_some_iff.1 h;show (W.heap.modify B _)[B]?=_;rw[Array.getElem?_eq_getElem (by rw[Array.size_modify];exact d),Array.getElem_modify_self,b];rfl
theorem RInv.step{rec:LoopState->Option Code->Loop}{m:Nat}{o:World}{l D e c f j:Nat}{rest:Str}{W:World}(h:RInv rec m o l D e c f j rest W)(k:c≠f/\c≠j/\c≠e/\c≠l/\c≠D/\m<=c)(r:Str) :
  RInv rec m o l D e c f j r (W.setCell ⟨c,0,none⟩ (.string ⟨r.toArray⟩)):=by
 obtain⟨q,u,w,x,y,z⟩:=k;exact⟨p8 h.s,(Below.heap_setCell W _ _ _ (Ne.symm q)).trans h.p,(Below.heap_setCell W _ _ _ (Ne.symm u)).trans h.v,(Below.heap_setCell W _ _ _ (Ne.symm w)).trans h.r,(Below.heap_setCell W _ _ _ (Ne.symm x)).trans h.l,(Below.heap_setCell W _ _ _ (Ne.symm y)).trans h.d,h.b.setCell (p:=⟨c,0,none⟩) z _⟩
theorem AE{rec:LoopState->Option Code->Loop}{n0:Nat}{w0:World}{l D b2 bs bp bv:Nat}(hne:bs≠bp/\bs≠bv/\bs≠b2/\bs≠l/\bs≠D/\n0<=bs)
  (hIdx:∀(s:Str) (w:World),Calls Tryz.prog 226 #[.string ⟨s.toArray⟩,.string ⟨#[47]⟩] w (fun e w'=>e=.returned (.int .i64 (Lib.indexByte s 47))/\w'=w))
  (hY:∀rest x W,RInv rec n0 w0 l D b2 bs bp bv rest W->YieldAt Fence.wide 3 Tryz.prog l #[.string ⟨x.toArray⟩] W (fun e W'=>(S0 x=true/\e=.returned (.bool true)/\RInv rec n0 w0 l D b2 bs bp bv rest W')\/(S0 x=false/\e=.returned (.bool false)/\RFin rec n0 w0 l D b2 W')))
  (p:Str) (hp:p.length<=1073741824) (W:World) (hI:RInv rec n0 w0 l D b2 bs bp bv p W) :
  CallsIn Fence.wide 4 Tryz.prog 285 #[.func (.yield l) #[] #[],.pointer (some ⟨bp,0,none⟩),.pointer (some ⟨bs,0,none⟩),.pointer (some ⟨bv,0,none⟩)] W (fun e W'=>(∃v,e=.returned v) /\
   (((J6 [] p).all S0=true/\∃rest,RInv rec n0 w0 l D b2 bs bp bv rest W')\/((J6 [] p).all S0=false/\RFin rec n0 w0 l D b2 W'))):=by
 refine callsIn_of_wp Tryz.func285 rfl trivial ?_ rfl;simp only[Tryz.ntmps285,List.size_toArray,WW,XD,Nat.reduceAdd,Nat.reduceSub,Array.replicate_succ,Array.replicate_zero,List.push_toArray,List.append_toArray,YD,XQ];have hcp:=X3 hI.p
 gi_wp2
 gi_loopw [7] (fun v wr=>∃rest:Str,rest.length<=p.length/\(J6 [] p).all S0=(J6 [] rest).all S0/\RInv rec n0 w0 l D b2 bs bp bv rest wr) (fun v wr=>MK bs wr)
 case atStart=>exact⟨p,Nat.le_refl _,rfl,hI⟩
 case round =>
  obtain⟨rest,hl,hall,hR⟩:=hrel;obtain⟨hs1,hs2⟩:=X3 hR.s;obtain⟨hp1,hp2⟩:=X3 hR.p;obtain⟨hv1,hv2⟩:=X3 hR.v;rcases c7 47 rest with ⟨h1,h2⟩ | ⟨x,r,h1,h2,h3⟩
  ·rw[iP _ _ h1]at hall;obtain⟨fn,tmps,assign,body,hy,hRd⟩:=hY rest rest wr hR
   gi_wp2_with (refine⟨trivial,?_⟩;gi_at_call 226;refine (callsIn_wide.2 (hIdx rest _)).mono ?_;rintro e w' ⟨rfl,rfl⟩;rw[h2])
   refine hRd.mono ?_;rintro e W' (⟨h5,rfl,h6⟩ | ⟨h5,rfl,h6⟩)
   ·gi_wp2
    go_end0
    exact⟨⟨_,rfl⟩,.inl ⟨by simp[hall,h5],rest,h6⟩⟩
   ·gi_wp2
    go_end0
    exact⟨⟨_,rfl⟩,.inr ⟨by simp[hall,h5],h6⟩⟩
  ·subst h1;rw[iO _ _ _ h2,List.all_cons]at hall;have hxl:x.length<(x++47::r).length:=by simp
   have hex:(⟨(x++47::r).toArray⟩:ByteArray).extract 0 x.length=⟨x.toArray⟩:=by
    apply ByteArray.ext;rw[ByteArray.data_extract];simp
   have hex2:(⟨(x++47::r).toArray⟩:ByteArray).extract (x.length+1) (x.length+(r.length+1))=⟨r.toArray⟩:=by
    apply ByteArray.ext;rw[ByteArray.data_extract];simp;exact XN (by omega)
   obtain⟨fn,tmps,assign,body,hy,hRd⟩:=hY _ x wr hR
   gi_wp2_with (refine⟨trivial,?_⟩;gi_at_call 226;refine (callsIn_wide.2 (hIdx _ _)).mono ?_;rintro e w' ⟨rfl,rfl⟩;rw[h3])
   refine hRd.mono ?_;rintro e W' (⟨h5,rfl,h6⟩ | ⟨h5,rfl,h6⟩)
   ·obtain⟨hs3,hs4⟩:=X3 h6.s;obtain⟨hp3,hp4⟩:=X3 h6.p
    gi_wp2
    try rw[hex2]
    have h7:=h6.step hne r;refine⟨⟨r,by simp at hl;omega,by simp[hall,h5],h7⟩,?_⟩;unfold MK;rw[(X3 h7.s).1,hs1];show r.toArray.size<(x++47::r).toArray.size;simp;omega
   ·gi_wp2
    refine bodyPost_ret (results_none Z _ _ _) Z ?_;exact⟨⟨_,rfl⟩,.inr ⟨by simp[hall,h5],h6⟩⟩
def OW(b:Nat)(x:Str)(W:World):Exit->Act->World->Prop
 | .normal,_,W'=>S0 x=true/\W'=W
 | .ret,_,W'=>S0 x=false/\W'=W.setCell ⟨b,0,none⟩ (.int .i64 210)
 | _,_,_=>False
theorem AF{ps:Array Tmp}{assign body:Code}{Q:Exit->Act->World->Prop}{a:Act}{w:World}{g:Operand}{b2 bs bp bv:Nat}{n0:Nat}{w0:World}{p:Str}(hp:p.length<=1073741824)
  (hne:bs≠bp/\bs≠bv/\bs≠b2/\n0<=bs/\n0<=b2) (hlt:bs<w.heap.size/\b2<w.heap.size/\n0<=w.heap.size) (hps:ps.size=1)
  (hIdx:∀(s:Str) (w:World),Calls Tryz.prog 226 #[.string ⟨s.toArray⟩,.string ⟨#[47]⟩] w (fun e w'=>e=.returned (.int .i64 (Lib.indexByte s 47))/\w'=w))
  (hg:a.eval g=.func (.func 285) #[] #[.pointer (some ⟨bp,0,none⟩),.pointer (some ⟨bs,0,none⟩),.pointer (some ⟨bv,0,none⟩)])
  (hs:w.heap[bs]?=some (.cells #[.string ⟨p.toArray⟩] 9 (0,0))) (hsp:w.heap[bp]?=some (.cells #[.string ⟨#[47]⟩] 9 (0,0))) (hsv:w.heap[bv]?=some (.cells #[.int .i64 0] 3 (0,0))) (hr:w.heap[b2]?=some (.cells #[.int .i64 0] 33 (0,0))) (hb:Below n0 w0 w)
  (a₁:Str->Act)
  (hassign:∀(l:Nat) (x:Str) (W:World) (K:Act->World->Prop),K (a₁ x) W ->
   assign.wpIn (Fence.wide.inRound l) 3 Tryz.prog (Exit.then K (fun _ _ _=>False)) { tmps:=(ps.zip #[Value.string ⟨x.toArray⟩]).foldl (fun t (p,v)=>t.setIfInBounds p v) a.tmps,defers:=[] } W)
  (hbody:∀(l:Nat) (x:Str) (W:World),W.heap[b2]?=some (.cells #[.int .i64 0] 33 (0,0))->body.wpIn (Fence.wide.inRound l) 3 Tryz.prog (OW b2 x W) (a₁ x) W)
  (hdone:∀(D:Nat) (W:World),w.heap.size<=D->(J6 [] p).all S0=true->W.heap[b2]?=some (.cells #[.int .i64 0] 33 (0,0))->W.heap[D]?=some (.deferred (some []))->Below n0 w0 W->Q .normal { a with defers:={ target:=.collected D,args:=#[] }::a.defers } W)
  (hstop:∀(D:Nat) (W:World),w.heap.size<=D->(J6 [] p).all S0=false->W.heap[b2]?=some (.cells #[.int .i64 210] 33 (0,0))->W.heap[D]?=some (.deferred (some []))->Below n0 w0 W->Code.ret.wpIn Fence.wide 5 Tryz.prog Q { a with defers:={ target:=.collected D,args:=#[] }::a.defers } W) :
  (Code.rangeFunc g ps assign body).wpIn Fence.wide 5 Tryz.prog Q a w:=by
 refine wpIn_rangeFunc ?_;intro fn hfn;obtain⟨rec,hrec⟩:∃rec:LoopState->Option Code->Loop,rec=fun st pe=>{ state:=st,pending:=pe,fn,tmps:=a.tmps,params:=ps,assign,body,defers:=w.heap.size }:=⟨_,rfl⟩
 obtain⟨W1,hW1⟩:∃W1,(w.alloc (.deferred (some []))).alloc (.loop (rec .ready none))=W1:=⟨_,rfl⟩
 have old:∀k o,w.heap[k]?=some o->W1.heap[k]?=some o:=fun k o h=>by
  have hlt:=(Array.getElem?_eq_some_iff.1 h).1;rw[<-hW1];exact (Below.heap_alloc _ _ _ (by rw[World.size_alloc];omega)).trans ((Below.heap_alloc _ _ _ hlt).trans h)
 have hL1:W1.heap[w.heap.size+1]?=some (.loop (rec .ready none)):=by
  rw[<-hW1];have:=World.alloc_heap_new (w.alloc (.deferred (some []))) (.loop (rec .ready none));rwa[World.size_alloc]at this
 have hK1:W1.heap[w.heap.size]?=some (.deferred (some [])):=by
  rw[<-hW1];exact (Below.heap_alloc _ _ _ (by simp)).trans (World.alloc_heap_new w _)
 have hb1:Below n0 w0 W1:=by
  rw[<-hW1];exact hb.trans (((Below.refl n0 w).alloc hlt.2.2 _).alloc (by simp;omega) _)
 refine⟨w.heap.size+1,[{ target:=.collected w.heap.size,args:=#[] }],W1,{ target:=.fn (.func 285) #[.pointer (some ⟨bp,0,none⟩),.pointer (some ⟨bs,0,none⟩),.pointer (some ⟨bv,0,none⟩)],args:=#[.func (.yield (w.heap.size+1)) #[] #[]] },W1,285,
  #[.func (.yield (w.heap.size+1)) #[] #[],.pointer (some ⟨bp,0,none⟩),.pointer (some ⟨bs,0,none⟩),.pointer (some ⟨bv,0,none⟩)],W1,?_,?_,?_,?_,fun _=>by omega,?_⟩
 ·rw[<-hW1,hrec];exact run_enterLoop_outer _ _ _ _ _
 ·simp only[resolve,hg];simp[go_sem]
 ·intro f' hf';trivial
 ·simp[invoke,go_sem]
 ·have hY:∀rest x W,RInv rec n0 w0 (w.heap.size+1) w.heap.size b2 bs bp bv rest W->YieldAt Fence.wide 3 Tryz.prog (w.heap.size+1) #[.string ⟨x.toArray⟩] W (fun e W'=>(S0 x=true/\e=.returned (.bool true)/\RInv rec n0 w0 (w.heap.size+1) w.heap.size b2 bs bp bv rest W')\/(S0 x=false/\e=.returned (.bool false)/\RFin rec n0 w0 (w.heap.size+1) w.heap.size b2 W')):=by
   intro rest x W hI;have hy:=run_yield (P:=Tryz.prog) (args:=#[Value.string ⟨x.toArray⟩]) hI.l (by rw[hrec];exact hps.symm);rw[hrec]at hy;refine⟨fn,_,assign,body,hy,roundIn_of_wpIn hfn (hassign _ x W _ ⟨_,run_beginRound hI.l (by rw[hrec]),?_⟩)⟩;have hltl:w.heap.size+1<W.heap.size:=(Array.getElem?_eq_some_iff.1 hI.l).1;obtain⟨W2,hW2⟩:∃W2,W.putObj (w.heap.size+1) (.loop { rec .ready none with state:=.busy })=W2:=⟨_,rfl⟩
   rw[hW2];have oth:∀k,k≠w.heap.size+1->W2.heap[k]?=W.heap[k]?:=fun k hk=>by rw[<-hW2];exact World.putObj_heap_other hk
   have hl2:W2.heap[w.heap.size+1]?=some (.loop { rec .ready none with state:=.busy }):=by rw[<-hW2];exact World.putObj_heap_same hltl
   have hbB:∀(o:Obj) (X:World),Below n0 w0 X->w.heap.size+1<X.heap.size->Below n0 w0 (X.putObj (w.heap.size+1) o):=fun o X hX hXs=>hX.grown (grownBy_putObj' X _ o) (by have:=hX.size;omega) (fun k e=>by cases e;omega);have hb2:Below n0 w0 W2:=by rw[<-hW2];exact hbB _ _ hI.b hltl
   refine wpIn_mono (hbody _ x W2 ((oth _ (by omega)).trans hI.r)) ?_;rintro e a3 W3 hp;cases e with
   | normal =>
    obtain⟨hok,rfl⟩:=hp;refine⟨_,_,run_endRound none hl2,.inl ⟨hok,rfl,?_⟩⟩;have fin:∀k,k≠w.heap.size+1->(W3.putObj (w.heap.size+1) (.loop { rec .ready none with state:=.ready,pending:=none })).heap[k]?=W.heap[k]?:=fun k hk=>(World.putObj_heap_other hk).trans (oth k hk);have hsz:w.heap.size+1<W3.heap.size:=(Array.getElem?_eq_some_iff.1 hl2).1;have hbs:=(Array.getElem?_eq_some_iff.1 hs).1;have hbp:=(Array.getElem?_eq_some_iff.1 hsp).1;have hbv:=(Array.getElem?_eq_some_iff.1 hsv).1;refine⟨(fin _ (by omega)).trans hI.s,(fin _ (by omega)).trans hI.p,(fin _ (by omega)).trans hI.v,(fin _ (by omega)).trans hI.r,?_,(fin _ (by omega)).trans hI.d,hbB _ _ hb2 hsz⟩;refine (World.putObj_heap_same hsz).trans ?_;rw[hrec];rfl
   | ret =>
    obtain⟨hok,rfl⟩:=hp;have hl3:(W2.setCell ⟨b2,0,none⟩ (.int .i64 210)).heap[w.heap.size+1]?=some (.loop { rec .ready none with state:=.busy }):=(Below.heap_setCell W2 _ _ _ (by show w.heap.size+1≠b2;omega)).trans hl2;have hsz:w.heap.size+1<(W2.setCell ⟨b2,0,none⟩ (.int .i64 210)).heap.size:=(Array.getElem?_eq_some_iff.1 hl3).1;refine⟨_,_,run_endRound (some .ret) hl3,.inr ⟨hok,rfl,?_⟩⟩;refine⟨(World.putObj_heap_other (by omega)).trans (p8 ((oth _ (by omega)).trans hI.r)),?_,?_,hbB _ _ (hb2.setCell (p:=⟨b2,0,none⟩) hne.2.2.2.2 _) hsz⟩
    ·refine (World.putObj_heap_same hsz).trans ?_;rw[hrec];rfl
    ·exact (World.putObj_heap_other (by omega)).trans ((Below.heap_setCell W2 _ _ _ (by show w.heap.size≠b2;omega)).trans ((oth _ (by omega)).trans hI.d))
   | _=>exact hp.elim
  refine (AE ⟨hne.1,hne.2.1,hne.2.2.1,by omega,by omega,hne.2.2.2.1⟩ hIdx hY p hp W1 ⟨old _ _ hs,old _ _ hsp,old _ _ hsv,old _ _ hr,hL1,hK1,hb1⟩).mono ?_;have hbE:∀(o:Obj) (X:World),Below n0 w0 X->w.heap.size+1<X.heap.size->Below n0 w0 (X.putObj (w.heap.size+1) o):=fun o X hX hXs=>hX.grown (grownBy_putObj' X _ o) (by have:=hX.size;omega) (fun k e=>by cases e;omega);rintro e W2 ⟨⟨v,rfl⟩,(⟨hall,rest,hI⟩ | ⟨hall,hI⟩)⟩
  ·have hsz:w.heap.size+1<W2.heap.size:=(Array.getElem?_eq_some_iff.1 hI.l).1;refine⟨none,_,by have:=run_endLoop (P:=Tryz.prog) hI.l (by rw[hrec];simp);rw[hrec]at this;exact this,?_⟩;exact hdone _ _ (Nat.le_refl _) hall ((World.putObj_heap_other (by omega)).trans hI.r) ((World.putObj_heap_other (by omega)).trans hI.d) (hbE _ _ hI.b hsz)
  ·have hsz:w.heap.size+1<W2.heap.size:=(Array.getElem?_eq_some_iff.1 hI.l).1;refine⟨some .ret,_,by have:=run_endLoop (P:=Tryz.prog) hI.l (by rw[hrec];simp);rw[hrec]at this;exact this,?_⟩;exact hstop _ _ (Nat.le_refl _) hall ((World.putObj_heap_other (by omega)).trans hI.r) ((World.putObj_heap_other (by omega)).trans hI.d) (hbE _ _ hI.b hsz)
theorem AH(w:World)(s p:ByteArray):CallsIn Fence.wide 3 Tryz.prog 227 #[.string s,.string p,.int .i64 0] w fun e w' =>
  e=.returned (.func (.func 285) #[] #[.pointer (some ⟨w.heap.size+1,0,none⟩),.pointer (some ⟨w.heap.size,0,none⟩),.pointer (some ⟨w.heap.size+1+1,0,none⟩)]) /\
  w'=((w.alloc (.cells #[.string s] 9)).alloc (.cells #[.string p] 9)).alloc (.cells #[.int .i64 0] 3):=by
 have hmf:∀(fn:Fn) (first cap:Array Value) (w:World),(Instr.makeFunc fn first cap).run Tryz.prog w=.ok (.func fn first cap) w:=fun _ _ _ _=>rfl;refine callsIn_of_wp Tryz.func227 rfl trivial ?_ rfl;simp only[Tryz.ntmps227,List.size_toArray,WW,XD,Nat.reduceAdd,Nat.reduceSub,Array.replicate_succ,Array.replicate_zero,List.push_toArray,List.append_toArray,YD,XQ]
 gi_wp2
 go_ret
 exact⟨rfl,rfl⟩
theorem AI(w:World)(s p:ByteArray):CallsIn Fence.wide 4 Tryz.prog 166 #[.string s,.string p] w fun e w' =>
  e=.returned (.func (.func 285) #[] #[.pointer (some ⟨w.heap.size+1,0,none⟩),.pointer (some ⟨w.heap.size,0,none⟩),.pointer (some ⟨w.heap.size+1+1,0,none⟩)]) /\
  w'=((w.alloc (.cells #[.string s] 9)).alloc (.cells #[.string p] 9)).alloc (.cells #[.int .i64 0] 3):=by
 refine callsIn_of_wp Tryz.func166 rfl trivial ?_ rfl;simp only[Tryz.ntmps166,List.size_toArray,WW,XD,Nat.reduceAdd,Nat.reduceSub,Array.replicate_succ,Array.replicate_zero,List.push_toArray,List.append_toArray,YD,XQ]
 gi_wp2_with (refine⟨trivial,?_⟩;gi_at_call 227;refine (AH _ _ _).mono ?_;rintro e w' ⟨rfl,rfl⟩)
 go_ret
 exact⟨rfl,rfl⟩
theorem lA{tmps:Array Value}{b:Nat}{v:Value}{W:World}(ht:tmps[2]?.getD undef=.pointer (some ⟨b,0,none⟩))(hc:W.heap[b]?=some (.cells #[v] 33 (0,0))):(results Tryz.f117 tmps).run Tryz.prog W=.ok v W:=by
 have h1:=(X3 hc).1;simp[results,Tryz.results117,go_sem,h1,ht]
theorem xS(p:Str)(hp:p.length<=1073741824)
  (hIdx:∀(s:Str) (w:World),Calls Tryz.prog 226 #[.string ⟨s.toArray⟩,.string ⟨#[47]⟩] w (fun e w'=>e=.returned (.int .i64 (Lib.indexByte s 47))/\w'=w))
  (hCon:∀(s:Str) (w:World),Calls Tryz.prog 165 #[.string ⟨s.toArray⟩,.string ⟨#[0]⟩] w (fun e w'=>e=.returned (.bool (decide (0<=Lib.indexByte s 0)))/\w'=w)) (w:World) :
  CallsIn Fence.wide 5 Tryz.prog 117 #[.string ⟨p.toArray⟩] w (fun e w'=>e=.returned (.int .i64 (if p.length>200\/0<=Lib.indexByte p 0 then 210 else if (J6 [] p).all S0=true then 0 else 210))/\Below w.heap.size w w'):=by
 refine callsIn_of_wp_marks Tryz.func117 rfl trivial ?_ rfl;simp only[Tryz.ntmps117,List.size_toArray,WW,XD,Nat.reduceAdd,Nat.reduceSub,Array.replicate_succ,Array.replicate_zero,List.push_toArray,List.append_toArray,YD,XQ];have hnew:=X3 (World.alloc_heap_new w (.cells #[.int .i64 0] 33));have hB:Below w.heap.size w (w.alloc (.cells #[.int .i64 0] 33)):=(Below.refl _ w).alloc (Nat.le_refl _) _;by_cases h1:200<p.length
 ·rw[A4 (.inl h1)]
  gi_wp2_with (refine⟨trivial,?_⟩)
  exact⟨_,lA rfl (World.alloc_heap_new w _),rfl,(Below.refl _ w).alloc (Nat.le_refl _) _⟩
 by_cases h2:0<=Lib.indexByte p 0
 ·rw[A4 (.inr h2)]
  gi_wp2_with (refine⟨trivial,?_⟩;gi_at_call 165;refine (callsIn_wide.2 (hCon p _)).mono ?_;rintro e w' ⟨rfl,rfl⟩)
  exact⟨_,lA rfl (World.alloc_heap_new w _),rfl,(Below.refl _ w).alloc (Nat.le_refl _) _⟩
 ·rw[A5 (by omega)];obtain⟨r,hr0⟩:∃r:Int,(if (J6 [] p).all S0=true then 0 else 210:Int)=r:=⟨_,rfl⟩
  rw[hr0]
  gi_wp2_with (first | (refine⟨trivial,?_⟩;gi_at_call 165;refine (callsIn_wide.2 (hCon p _)).mono ?_;rintro e w' ⟨rfl,rfl⟩) | (refine⟨trivial,?_⟩;gi_at_call 166;refine (AI _ _ _).mono ?_;rintro e w' ⟨rfl,rfl⟩))
  obtain⟨W0,hW0⟩:∃W0,(((w.alloc (.cells #[.int .i64 0] 33)).alloc (.cells #[.string ⟨p.toArray⟩] 9)).alloc (.cells #[.string ⟨#[47]⟩] 9)).alloc (.cells #[.int .i64 0] 3)=W0:=⟨_,rfl⟩
  have hsz:W0.heap.size=w.heap.size+4:=by rw[<-hW0];simp
  have g0:W0.heap[w.heap.size]?=some (.cells #[.int .i64 0] 33 (0,0)):=by
   rw[<-hW0];refine (Below.heap_alloc _ _ _ (by simp;omega)).trans ((Below.heap_alloc _ _ _ (by simp;omega)).trans ((Below.heap_alloc _ _ _ (by simp)).trans (World.alloc_heap_new w _)))
  have g1:W0.heap[w.heap.size+1]?=some (.cells #[.string ⟨p.toArray⟩] 9 (0,0)):=by
   rw[<-hW0];refine (Below.heap_alloc _ _ _ (by simp)).trans ((Below.heap_alloc _ _ _ (by simp)).trans ?_);have:=World.alloc_heap_new (w.alloc (.cells #[.int .i64 0] 33)) (.cells #[.string ⟨p.toArray⟩] 9)
   rwa[World.size_alloc]at this
  have g2:W0.heap[w.heap.size+1+1]?=some (.cells #[.string ⟨#[47]⟩] 9 (0,0)):=by
   rw[<-hW0];refine (Below.heap_alloc _ _ _ (by simp)).trans ?_;have:=World.alloc_heap_new ((w.alloc (.cells #[.int .i64 0] 33)).alloc (.cells #[.string ⟨p.toArray⟩] 9)) (.cells #[.string ⟨#[47]⟩] 9);simp only[World.size_alloc]at this;exact this
  have g3:W0.heap[w.heap.size+1+1+1]?=some (.cells #[.int .i64 0] 3 (0,0)):=by
   rw[<-hW0];have:=World.alloc_heap_new (((w.alloc (.cells #[.int .i64 0] 33)).alloc (.cells #[.string ⟨p.toArray⟩] 9)).alloc (.cells #[.string ⟨#[47]⟩] 9)) (.cells #[.int .i64 0] 3);simp only[World.size_alloc]at this;exact this
  have hb0:Below w.heap.size w W0:=by
   rw[<-hW0];exact (((hB.alloc (by simp) _).alloc (by simp;omega) _).alloc (by simp;omega) _)
  rw[hW0];refine AF (b2:=w.heap.size) (bs:=w.heap.size+1) (bp:=w.heap.size+1+1) (bv:=w.heap.size+1+1+1) (n0:=w.heap.size) (w0:=w) (p:=p) hp (by omega) (by omega) rfl hIdx rfl g1 g2 g3 g0 hb0 (fun x=>{ tmps:=#[.string ⟨p.toArray⟩,undef,.pointer (some ⟨w.heap.size,0,none⟩),.string ⟨x.toArray⟩,.string ⟨p.toArray⟩,.int .i64 p.length,.bool (decide (200<(p.length:Int))),.bool (decide (200<(p.length:Int))),.string ⟨p.toArray⟩,.bool (decide (0<=Lib.indexByte p 0)),.bool (decide (200<(p.length:Int))||decide (0<=Lib.indexByte p 0)),.string ⟨p.toArray⟩,.func (.func 285) #[] #[.pointer (some ⟨w.heap.size+1+1,0,none⟩),.pointer (some ⟨w.heap.size+1,0,none⟩),.pointer (some ⟨w.heap.size+1+1+1,0,none⟩)],.string ⟨x.toArray⟩,undef,undef,undef,undef,undef,undef,undef,undef,undef,undef],defers:=[] }) ?assign ?body ?done ?stop
  case assign =>
   intro l x W K hK
   gi_wp2
   exact hK
  case body =>
   intro l x W hr;obtain⟨hc1,hc2⟩:=X3 hr;by_cases e1:x=[]
   ·subst e1
    gi_wp2
    exact⟨rfl,rfl⟩
   by_cases e2:x=[46]
   ·subst e2
    gi_wp2
    exact⟨rfl,rfl⟩
   by_cases e3:x=[46,46]
   ·subst e3
    gi_wp2
    exact⟨rfl,rfl⟩
   have f1:x.isEmpty=false:=by cases x with | nil=>exact absurd rfl e1 | cons _ _=>rfl
   have f2:(x == [46])=false:=by simpa using e2
   have f3:(x == [46,46])=false:=by simpa using e3
   have hok:S0 x=true:=A2 ⟨e1,e2,e3⟩;clear e1 e2 e3
   gi_wp2
   all_goals exact⟨hok,rfl⟩
  case done =>
   intro D W hD hall hr hK hb;obtain⟨hc1,hc2⟩:=X3 hr;rw[A4 hall]at hr0;subst hr0;clear hall
   gi_wp2
   have hK2:(W.setCell ⟨w.heap.size,0,none⟩ (.int .i64 0)).heap[D]?=some (.deferred (some [])):=(Below.heap_setCell W _ _ _ (by show D≠w.heap.size;omega)).trans hK;refine⟨by simp,.inl ⟨_,_,rfl,run_takeDeferred hK2,?_⟩⟩;refine⟨_,lA rfl ((World.putObj_heap_other (by omega)).trans (p8 hr)),rfl,?_⟩;have hb3:=hb.setCell (p:=⟨w.heap.size,0,none⟩) (Nat.le_refl _) (.int .i64 0);exact hb3.grown (grownBy_putObj' _ _ _) (by have:=hb3.size;omega) (fun k e=>by cases e;omega)
  case stop =>
   intro D W hD hall hr hK hb;rw[hall,A5 (by decide)]at hr0;subst hr0;clear hall
   gi_wp2
   refine⟨by simp,.inl ⟨_,_,rfl,run_takeDeferred hK,?_⟩⟩;refine⟨_,lA rfl ((World.putObj_heap_other (by omega)).trans hr),rfl,?_⟩;exact hb.grown (grownBy_putObj' W _ _) (by have:=hb.size;omega) (fun k e=>by cases e;omega)
theorem tS(p:Str)(b:p.length<=1073741824):FnOk Tryz.prog 117 [I3 p] (fun c=>c=[E8 (j8 p)]) :=
 WH (xs:=[.string ⟨p.toArray⟩]) ⟨_,rfl,rfl,rfl⟩ rfl fun w d=>by
  have h:=callsIn_wide.1 (xS p b (fun s w=>by simpa using Tryz.strings_Index_one ⟨s.toArray⟩ 47 w) (fun s w=>by simpa using Tryz.strings_Contains_one ⟨s.toArray⟩ 0 w) w);refine h.mono ?_;rintro e w' ⟨rfl,hb⟩;refine⟨?_,hb⟩;rw[yE];have a:p.contains 0=true↔0<=Lib.indexByte p 0:=by rw[tZ,List.contains_iff_mem]
  simp only[a]
set_option maxHeartbeats 1000000
structure FewF (l:List File):Prop where
 len:l.length<=1073741824
 path:∀f∈l,f.Path.length<=1073741824
 blob:∀f∈l,f.Blob.length<=16777216
theorem DO(f:File)(a:f.Path.length<=1073741824):FnOk Tryz.prog 116 [GR f] (fun rs=>rs=[H6 (decide (j8 f.Path≠0))]):=by
 refine FnOk.intro Tryz.func116 (by decide) Z Z Z Z ?_;refine k2 ?_;refine A7 (D6 (j1 1 Z Z Z) Z (A6 (A9 Z Z) Z (B0 ?_)));refine k1 (k2 ?_);refine A7 (A6 (B1 Z) Z (A6 (B2 Z Z Z) Z (D1 (tS f.Path a) Z Z Z ?_)));rintro _ rfl;refine A6 (N5 Z Z) Z (A6 (A9 Z Z) Z (B0 ?_));refine k1 (I9 ?_);exact C2 (J5 rfl rfl rfl) rfl
theorem DP(f:File)(a:f.Blob.length<=16777216):FnOk Tryz.prog 119 [GR f] (fun rs=>rs=[H6 (decide (Y7 f.Blob≠0))]):=by
 refine FnOk.intro Tryz.func119 (by decide) Z Z Z Z ?_;refine k2 ?_;refine A7 (D6 (j1 1 Z Z Z) Z (A6 (A9 Z Z) Z (B0 ?_)));refine k1 (k2 ?_);refine A7 (A6 (B1 Z) Z (A6 (B2 Z Z Z) Z (D1 (uY f.Blob (by omega)) Z Z Z ?_)));rintro _ rfl;refine A6 (N5 Z Z) Z (A6 (A9 Z Z) Z (B0 ?_));refine k1 (I9 ?_);exact C2 (J5 rfl rfl rfl) rfl
theorem DQ(l:List File)(h:FewF l):FnOk Tryz.prog 73 [x1 l] (fun rs=>rs=[E8 (K1 l)]):=by
 have d:=h.len;refine FnOk.intro Tryz.func73 (by decide) Z Z Z Z ?_;refine k2 ?_;refine A7 (A6 (A9 Z Z) Z (B0 ?_));refine k1 (k2 (k3 (k2 ?_)));refine A7 (A6 (A8 Z Z) Z (A6 (F0 Z (.pure _ _ _ _)) Z (A6 (P5 Z Z) Z (A6 (A9 Z Z) Z (B0 ?_)))));refine k1 ?_;refine B9 rfl (fun a=>?_) (fun a=>?_)
 ·have i:(200:Int)<l.length:=A0 a;refine k2 ?_;refine A7 (A6 (A9 Z Z) Z (B0 ?_));refine k1 (I9 (W5 (N4 ?_)));exact C2 (rs:=[E8 1]) (J5 rfl rfl rfl) (by unfold K1;rw[A4 (by omega)])
 have i:¬(200:Int)<l.length:=A1 a;refine k2 ?_;refine A7 (A6 (A8 Z Z) Z (D1 (eP 116 (fun f=>decide (j8 f.Path≠0)) l d (fun f c=>DO f (h.path f c))) Z Z Z ?_));rintro _ rfl;refine A6 (A9 Z Z) Z (B0 ?_);refine k1 ?_;refine B9 rfl (fun a=>?_) (fun a=>?_)
 ·refine k2 ?_;refine A7 (A6 (A9 Z Z) Z (B0 ?_));refine k1 (I9 (W5 (N4 ?_)));exact C2 (rs:=[E8 210]) (J5 rfl rfl rfl) (by unfold K1;rw[A5 (by omega),A4 a])
 have b:=a;refine k2 ?_;refine A7 (A6 (A8 Z Z) Z (D1 (AD l d h.path) Z Z Z ?_));rintro _ rfl;refine A6 (N2 Z) Z (A6 (A9 Z Z) Z (B0 ?_));refine k1 ?_;refine B9 rfl (fun a=>?_) (fun a=>?_)
 ·refine k2 ?_;refine A7 (A6 (A9 Z Z) Z (B0 ?_));refine k1 (I9 (W5 (N4 ?_)));exact C2 (rs:=[E8 211]) (J5 rfl rfl rfl) (by unfold K1;rw[A5 (by omega),A5 (by rw[b];decide),A4 (by simpa using a)])
 have g:Y8 l=true:=by simpa using a
 refine k2 ?_;refine A7 (A6 (A8 Z Z) Z (D1 (eP 119 (fun f=>decide (Y7 f.Blob≠0)) l d (fun f c=>DP f (h.blob f c))) Z Z Z ?_));rintro _ rfl;refine A6 (A9 Z Z) Z (B0 ?_);refine k1 ?_;refine B9 rfl (fun a=>?_) (fun a=>?_)
 ·refine k2 ?_;refine A7 (A6 (A9 Z Z) Z (B0 ?_));refine k1 (I9 (W5 (N4 ?_)));exact C2 (rs:=[E8 1]) (J5 rfl rfl rfl) (by unfold K1;rw[A5 (by omega),A5 (by rw[b];decide),A5 (by rw[g];decide),A4 a])
 ·refine k5 (k2 ?_);refine A7 (A6 (A9 Z Z) Z (B0 ?_));refine k1 (I9 ?_);exact C2 (rs:=[E8 0]) (J5 rfl rfl rfl) (by unfold K1;rw[A5 (by omega),A5 (by rw[b];decide),A5 (by rw[g];decide),A5 (by rw[a];decide)])
theorem aL(l:List File)(p:Str)(q:l.length<=1073741824):FnOk Tryz.prog 90 [x1 l,I3 p] (fun rs=>rs=[I3 ((F5 l p).getD []),H6 (F5 l p).isSome]):=by
 refine FnOk.intro Tryz.func90 (by decide) Z Z Z Z ?_;refine k2 ?_;refine A7 (A6 (A9 Z Z) Z (A6 (A9 Z Z) Z (B0 ?_)));refine k1 (k2 (k2 ?_));refine A7 (A6 (A8 Z Z) Z (A6 (F0 Z (.pure _ _ _ _)) Z (A6 (A8 Z Z) Z (B0 ?_))));refine k1 (k3 ?_);refine E4 (X:=Nat) (fun i=>([(1,P2 p),(8,E3 File 2 Z9 l),(9,C7 l.length),(10,C7 i)],[])) (fun i=>i<=l.length/\F5 l p=F5 (l.drop i) p) (fun i=>l.length-i) 0 ⟨Nat.zero_le _,rfl⟩ (Sees.of ⟨B4 rfl,B4 rfl,B4 rfl,B4 rfl,trivial⟩ trivial) ?_;rintro i ⟨k,a⟩;dsimp only at k a ⊢;refine k2 ?_;refine A7 (A6 (F3 Z Z) Z (B0 ?_));refine k1 (k2 ?_);refine B9 rfl (fun d=>?_) (fun d=>?_);rotate_left
 ·have b:i=l.length:=by have b:=A1 d;(try dsimp only at b);omega
  rw[XO (by omega)]at a;rw[a];refine k6 (k2 ?_);refine A7 (A6 (A9 Z Z) Z (A6 (A9 Z Z) Z (B0 ?_)));refine k1 (I9 ?_);exact C2 (rs:=[I3 [],H6 false]) (U1 rfl rfl rfl rfl rfl) rfl
 have c:i<l.length:=by have b:=A0 d;(try dsimp only at b);omega
 obtain⟨f,h⟩:∃f,f=l[i]:=⟨_,rfl⟩
 have n:l[i]?=some f:=by rw[h];simp[c]
 rw[XA c,<-h]at a;have j:F5 (f::l.drop (i+1)) p=if f.Path=p then some f.Blob else F5 (l.drop (i+1)) p:=rfl
 rw[j]at a;refine k5 (k1 (k2 (k3 (k2 ?_))));refine A7 (A6 (B8 Z (.pure _ _ _ _) Z (by omega) n) Z (A6 (G7 Z Z) Z (D6 (I1 7 Z) Z (F7 (C1 TySz.out Z Z Z Z Z Z) (B0 ?_)))));refine k1 (k2 ?_);refine A7 (A6 (B1 Z) Z (A6 (B2 Z Z Z) Z (A6 (A8 Z Z) Z (A6 (aV Z Z) Z (B0 ?_)))));refine k1 ?_;refine B9 rfl (fun d=>?_) (fun d=>?_)
 ·have b:f.Path=p:=A0 d;rw[A4 b]at a;rw[a];refine k2 ?_;refine A7 (A6 (B1 Z) Z (A6 (B2 Z Z Z) Z (A6 (A9 Z Z) Z (A6 (A9 Z Z) Z (B0 ?_)))));refine k1 (I9 (W5 (N4 (N4 (W5 (N4 ?_))))));exact C2 (rs:=[I3 f.Blob,H6 true]) (U1 rfl rfl rfl rfl rfl) rfl
 ·have b:¬f.Path=p:=A1 d;rw[A5 b]at a;refine k5 (k4 (k1 ?_));refine A7 (A6 (D5 Z Z (by omega)) Z (A6 (A8 Z Z) Z (B0 ?_)));refine k1 ?_;exact⟨i+1,⟨c,a⟩,by omega,(Sees.of ⟨B4 rfl,B4 rfl,B4 rfl,B4 rfl,trivial⟩ trivial)⟩
structure FewT (g:Graph):Prop where
 few:FewG g
 tree:∀c∈g,FewF c.Files
theorem FewT.files{g:Graph}(h:FewT g)(c:Nat):FewF (E0 g c):=by
 unfold E0;by_cases a:c<g.length
 ·rw[WT a];exact h.tree _ (WY a)
 ·rw[XP (by omega)];exact⟨by simp,(fun _ h=>by cases h),(fun _ h=>by cases h)⟩
theorem iQ:∀{g:List Commit} {i:Nat},(∀k,k<i->∀h:k<g.length,K1 g[k].Files=0)->X9 g=X9 (g.drop i)
 | g,0,_=>rfl
 | [],i+1,_=>by simp
 | c::r,i+1,h=>by
  have a:=h 0 (by omega) (by simp);rw[X9,A5 (by simpa using a),List.drop_succ_cons];exact iQ fun k d b=>h (k+1) (by omega) (by simpa using b)
theorem gO(g:Graph)(h:FewT g):FnOk Tryz.prog 30 [H4 g] (fun rs=>rs=[E8 (N1 g)]):=by
 have E:=h.few.len;refine FnOk.intro Tryz.func30 (by decide) Z Z Z Z ?_;refine k2 ?_;refine A7 (A6 (A9 Z Z) Z (B0 ?_));refine k1 (k2 (k3 (k2 ?_)));refine A7 (A6 (A8 Z Z) Z (D1 (zY g h.few (by omega)) Z Z Z ?_));rintro _ rfl;refine A6 (N2 Z) Z (A6 (A9 Z Z) Z (B0 ?_));refine k1 ?_;refine B9 rfl (fun a=>?_) (fun a=>?_)
 ·have f:o3 g=false:=by simpa using a
  refine k2 ?_;refine A7 (A6 (A9 Z Z) Z (B0 ?_));refine k1 (I9 (W5 (N4 ?_)));exact C2 (rs:=[E8 1]) (J5 rfl rfl rfl) (by unfold N1;rw[A4 f])
 have m:o3 g=true:=by simpa using a
 refine k2 ?_;refine A7 (A6 (A8 Z Z) Z (D1 (zZ g h.few (by omega)) Z Z Z ?_));rintro _ rfl;refine A6 (N2 Z) Z (A6 (A9 Z Z) Z (B0 ?_));refine k1 ?_;refine B9 rfl (fun a=>?_) (fun a=>?_)
 ·have f:related g=false:=by simpa using a
  refine k2 ?_;refine A7 (A6 (A9 Z Z) Z (B0 ?_));refine k1 (I9 (W5 (N4 ?_)));exact C2 (rs:=[E8 230]) (J5 rfl rfl rfl) (by unfold N1;rw[A5 (by rw[m];decide),A4 f])
 have d:related g=true:=by simpa using a
 have o:N1 g=if cyclic g=true then 231 else if mC g=true then 3 else X9 g:=by unfold N1;rw[A5 (by rw[m];decide),A5 (by rw[d];decide)]
 rw[o];refine k2 ?_;refine A7 (A6 (A8 Z Z) Z (D1 (DL g h.few d) Z Z Z ?_));rintro _ ⟨D,y,rfl,z⟩;refine A6 (F0 Z (.pure _ _ _ _)) Z (A6 (A8 Z Z) Z (A6 (F0 Z (.pure _ _ _ _)) Z (A6 (F3 Z Z) Z (A6 (A9 Z Z) Z (B0 ?_)))));have n:=z.done d;have n:decide ((y.length:Int)<g.length)=cyclic g:=by rw[<-n,decide_eq_decide];omega
 refine k1 ?_;rw[n];refine B9 rfl (fun a=>?_) (fun a=>?_)
 ·rw[A4 a];refine k2 ?_;refine A7 (A6 (A9 Z Z) Z (B0 ?_));refine k1 (I9 (W5 (N4 ?_)));exact C2 (rs:=[E8 231]) (J5 rfl rfl rfl) rfl
 rw[a,A5 (by decide)];refine k2 ?_;refine A7 (A6 (A8 Z Z) Z (D1 (bH 72 (fun c=>decide (c.Date<0\/c.Date>2147483647)) g (by omega) (fun c _=>DJ c)) Z Z Z ?_));rintro _ rfl;refine A6 (A9 Z Z) Z (B0 ?_);refine k1 ?_;refine B9 rfl (fun a=>?_) (fun a=>?_)
 ·have f:mC g=true:=a;rw[A4 f];refine k2 ?_;refine A7 (A6 (A9 Z Z) Z (B0 ?_));refine k1 (I9 (W5 (N4 ?_)));exact C2 (rs:=[E8 3]) (J5 rfl rfl rfl) rfl
 have v:mC g=false:=a;rw[v,A5 (by decide)];refine k5 (k2 (k2 ?_));refine A7 (A6 (A8 Z Z) Z (A6 (F0 Z (.pure _ _ _ _)) Z (A6 (A8 Z Z) Z (B0 ?_))));refine k1 (k3 ?_);refine E4 (X:=Nat) (fun i=>([(24,E3 Commit 3 H3 g),(25,C7 g.length),(26,C7 i)],[])) (fun i=>i<=g.length/\∀k,k<i->∀h:k<g.length,K1 g[k].Files=0) (fun i=>g.length-i) 0 ⟨Nat.zero_le _,fun c h=>by omega⟩ (Sees.of ⟨B4 rfl,B4 rfl,B4 rfl,trivial⟩ trivial) ?_;rintro i ⟨A,x⟩;dsimp only at A x ⊢;have b:=iQ x;refine k2 ?_;refine A7 (A6 (F3 Z Z) Z (B0 ?_));refine k1 (k2 ?_);refine B9 rfl (fun a=>?_) (fun a=>?_)
 ·have j:i<g.length:=by have f:=A0 a;(try dsimp only at f);omega
  obtain⟨c,q⟩:∃c,c=g[i]:=⟨_,rfl⟩
  have C:g[i]?=some c:=by rw[q];simp[j]
  have B:c∈g:=by rw[q];exact WY j
  rw[XA j,<-q,X9]at b;refine k5 (k1 (k2 (k3 (k2 ?_))));refine A7 (A6 (B8 Z (.pure _ _ _ _) Z (by omega) C) Z (A6 (G7 Z Z) Z (D6 (I1 4 Z) Z (F7 (C1 TySz.out Z Z Z Z Z Z) (B0 ?_)))));refine k1 (k2 ?_);refine A7 (A6 (B1 Z) Z (A6 (B2 Z Z Z) Z (D1 (DQ c.Files (h.tree c B)) Z Z Z ?_)));rintro _ rfl;refine A6 (A9 Z Z) Z (B0 ?_);refine k1 (k2 ?_);refine A7 (A6 (A8 Z Z) Z (A6 (N5 Z Z) Z (B0 ?_)));refine k1 ?_;refine B9 rfl (fun a=>?_) (fun a=>?_)
  ·have t:K1 c.Files≠0:=A0 a;rw[A4 t]at b;rw[b];refine k2 ?_;refine A7 (A6 (A8 Z Z) Z (A6 (A9 Z Z) Z (B0 ?_)));refine k1 (I9 (W5 (N4 (N4 (W5 (N4 ?_))))));exact C2 (rs:=[E8 (K1 c.Files)]) (J5 rfl rfl rfl) rfl
  ·have t:¬K1 c.Files≠0:=A1 a;refine k5 (k4 (k1 ?_));refine A7 (A6 (D5 Z Z (by omega)) Z (A6 (A8 Z Z) Z (B0 ?_)));refine k1 ?_;refine⟨i+1,⟨j,fun k G hkl=>?_⟩,by omega,(Sees.of ⟨B4 rfl,B4 rfl,B4 rfl,trivial⟩ trivial)⟩;by_cases e:k=i
   ·subst e;rw[<-q];exact Decidable.not_not.1 t
   ·exact x k (by omega) hkl
 have w:i=g.length:=by have f:=A1 a;(try dsimp only at f);omega
 rw[w,List.drop_length]at b;rw[b];refine k6 (k2 ?_);refine A7 (A6 (A9 Z Z) Z (B0 ?_));refine k1 (I9 ?_);exact C2 (rs:=[E8 0]) (J5 rfl rfl rfl) rfl
theorem j7{g:Graph}{c:Nat}{a:Commit}(h:g[c]?=some a):E0 g c=a.Files:=by unfold E0;rw[h];rfl
theorem Valid.files{g:Graph}(h:Valid g)(c:Nat):(E0 g c).length<=200:=by
 unfold E0;by_cases a:c<g.length
 ·rw[WT a];exact (uA (h.tree _ (WY a))).2.1
 ·rw[XP (by omega)];simp
theorem Valid.trees{g:Graph}(h:Valid g)(c:Nat):∀t∈gY g c,t.length<=200:=by
 intro t a;unfold gY at a;split at a
 ·rw[List.mem_singleton.1 a];simp
 ·obtain⟨p,_,rfl⟩:=XU.1 a;exact Valid.files h _
structure FewB (B:List (List (Str×Str))):Prop where
 len:B.length<=33
 lens:∀l∈B,l.length<=400
 strs:∀l∈B,∀x∈l,x.1.length<=16777216/\x.2.length<=16777216
theorem u5{g:Graph}{c:Int}(h:r8 g c=0):Valid g/\0<=c/\c<g.length:=by
 unfold r8 at h;split at h
 ·rename_i a;exact absurd h a
 ·rename_i a;split at h
  ·rename_i b;exact⟨gA (Decidable.not_not.1 a),b⟩
  ·cases h
def Short(g:Graph):Prop:=∀c:Nat,(E0 g c).length<=6
theorem Short.tree{g:Graph}(h:Short g){c:Nat}{t:List File}(a:t∈gY g c):t.length<=6:=by
 unfold gY at a;split at a
 ·rw[List.mem_singleton.1 a];simp
 ·obtain⟨p,_,rfl⟩:=XU.1 a;exact h _
theorem Valid.check{g:Graph}(h:Valid g)(c:Nat):K1 (E0 g c)=0:=by
 unfold E0;by_cases a:c<g.length
 ·rw[WT a];exact h.tree _ (WY a)
 ·rw[XP (by omega)];decide
theorem Valid.checks{g:Graph}(h:Valid g){c:Nat}{t:List File}(a:t∈gY g c):K1 t=0:=by
 unfold gY at a;split at a
 ·rw[List.mem_singleton.1 a];decide
 ·obtain⟨p,_,rfl⟩:=XU.1 a;exact Valid.check h _
theorem rG(k q:Nat)(o:Ob):(o.forget q).forget k=(o.forget k).forget q:=by
 cases o with
 | box l=>simp only[Ob.forget,YJ];congr 1;exact List.map_congr_left fun t _=>TC.forget_comm k q t
 | tbx e l=>simp only[Ob.forget,YJ];congr 1;exact List.map_congr_left fun t _=>TC.forget_comm k q t
 | tarr n m l=>simp only[Ob.forget,YJ];congr 1;exact List.map_congr_left fun t _=>TC.forget_comm k q t
 | growT e n m l=>simp only[Ob.forget,YJ];congr 1;exact List.map_congr_left fun t _=>TC.forget_comm k q t
 | growA e α a c b p l=>simp only[Ob.forget,YJ];congr 1;exact List.map_congr_left fun t _=>TC.forget_comm k q t
 | _=>rfl
theorem pF(k q:Nat)(ob:Obs):Obs.forget k (Obs.forget q ob)=Obs.forget q (Obs.forget k ob):=by
 simp only[Obs.forget,YJ,Function.comp_def,rG k q]
end Go.Proofs.YtbflhoahmmfkmaaGreatDoor
