/- Walks of the program's functions. -/
import Derived.RangeFuncBound
import Derived.RangeFuncOwn
import Derived.OwnWalkIn
import Derived.TacticsInMore
import Derived.LoopNIn
import Derived.LoopIn
import Derived.Test.YtbflhoahmmfkmaaGreatDoorFa
import Derived.Lib.Bytealg
import Derived.RecoverIn
set_option linter.all false
namespace Go.Proofs.YtbflhoahmmfkmaaGreatDoor
open Go Go.RowKit Go.AL
attribute [local go_sem] Oper.semAt_some
set_option maxRecDepth 100000
set_option maxHeartbeats 2000000
theorem gQ:∀(a r b:Str),47∉a->I4 b (a++47::r)=(b++a)::I4 [] r
 | [],r,b,_=>by simp[I4]
 | x::a,r,b,h=>by
  have c:x≠47:=fun e=>h (by simp[e]);rw[WE,I4,A5 c,gQ a r _ (fun e=>h (by simp[e])),VV];rfl
theorem gR:∀(a b:Str),47∉a->I4 b a=[b++a]
 | [],b,_=>by simp[I4]
 | x::a,b,h=>by
  have c:x≠47:=fun e=>h (by simp[e]);rw[I4,A5 c,gR a _ (fun e=>h (by simp[e])),VV];rfl
theorem U2{W:World}{B:Nat}{v:Value}{t:TypeId}(h:W.heap[B]?=some (.cells #[v] t (0,0))):W.cell? ⟨B,0,none⟩=some v/\W.frozen? ⟨B,0,none⟩=false:=by
 constructor<;>simp[World.cell?,World.frozen?,h]
structure RInv (rec:LoopState->Option Code->Loop) (n0:Nat) (w0:World) (l D b2 bs bp bv:Nat) (rest:Str) (W:World):Prop where
 s:W.heap[bs]?=some (.cells #[.string ⟨rest.toArray⟩] 9 (0,0))
 p:W.heap[bp]?=some (.cells #[.string ⟨#[47]⟩] 9 (0,0))
 v:W.heap[bv]?=some (.cells #[.int .i64 0] 3 (0,0))
 r:W.heap[b2]?=some (.cells #[.int .i64 0] 33 (0,0))
 l:W.heap[l]?=some (.loop (rec .ready none))
 d:W.heap[D]?=some (.deferred (some []))
 b:Below n0 w0 W
structure RFin (rec:LoopState->Option Code->Loop) (n0:Nat) (w0:World) (l D b2:Nat) (W:World):Prop where
 r:W.heap[b2]?=some (.cells #[.int .i64 210] 33 (0,0))
 l:W.heap[l]?=some (.loop (rec .done (some .ret)))
 d:W.heap[D]?=some (.deferred (some []))
 b:Below n0 w0 W
def JQ(a:Nat)(W:World):Nat:=match W.cell? ⟨a,0,none⟩ with | some (.string s)=>s.size | _=>0
theorem j5{W:World}{B:Nat}{v f:Value}{t:TypeId}(h:W.heap[B]?=some (.cells #[v] t (0,0))):(W.setCell ⟨B,0,none⟩ f).heap[B]?=some (.cells #[f] t (0,0)):=by
 obtain⟨d,b⟩:=Array.getElem?_eq_some_iff.1 h;show (W.heap.modify B _)[B]?=_;rw[Array.getElem?_eq_getElem (by rw[Array.size_modify];exact d),Array.getElem_modify_self,b];rfl
theorem RInv.step{rec:LoopState->Option Code->Loop}{m:Nat}{o:World}{l D e c f j:Nat}{rest:Str}{W:World}(h:RInv rec m o l D e c f j rest W)(k:c≠f/\c≠j/\c≠e/\c≠l/\c≠D/\m<=c)(r:Str) :
  RInv rec m o l D e c f j r (W.setCell ⟨c,0,none⟩ (.string ⟨r.toArray⟩)):=by
 obtain⟨q,u,w,x,y,z⟩:=k;exact⟨j5 h.s,(Below.heap_setCell W _ _ _ (Ne.symm q)).trans h.p,(Below.heap_setCell W _ _ _ (Ne.symm u)).trans h.v,(Below.heap_setCell W _ _ _ (Ne.symm w)).trans h.r,(Below.heap_setCell W _ _ _ (Ne.symm x)).trans h.l,(Below.heap_setCell W _ _ _ (Ne.symm y)).trans h.d,h.b.setCell (p:=⟨c,0,none⟩) z _⟩
theorem yJ{rec:LoopState->Option Code->Loop}{n0:Nat}{w0:World}{l D b2 bs bp bv:Nat}(hne:bs≠bp/\bs≠bv/\bs≠b2/\bs≠l/\bs≠D/\n0<=bs)
  (hIdx:∀(s:Str) (w:World),Calls Tryz.prog 226 #[.string ⟨s.toArray⟩,.string ⟨#[47]⟩] w (fun e w'=>e=.returned (.int .i64 (Lib.indexByte s 47))/\w'=w))
  (hY:∀rest x W,RInv rec n0 w0 l D b2 bs bp bv rest W->YieldAt Fence.wide 3 Tryz.prog l #[.string ⟨x.toArray⟩] W (fun e W'=>(P1 x=true/\e=.returned (.bool true)/\RInv rec n0 w0 l D b2 bs bp bv rest W')\/(P1 x=false/\e=.returned (.bool false)/\RFin rec n0 w0 l D b2 W')))
  (p:Str) (hp:p.length<=1073741824) (W:World) (hI:RInv rec n0 w0 l D b2 bs bp bv p W) :
  CallsIn Fence.wide 4 Tryz.prog 285 #[.func (.yield l) #[] #[],.pointer (some ⟨bp,0,none⟩),.pointer (some ⟨bs,0,none⟩),.pointer (some ⟨bv,0,none⟩)] W (fun e W'=>(∃v,e=.returned v) /\
   (((I4 [] p).all P1=true/\∃rest,RInv rec n0 w0 l D b2 bs bp bv rest W')\/((I4 [] p).all P1=false/\RFin rec n0 w0 l D b2 W'))):=by
 refine callsIn_of_wp Tryz.func285 rfl trivial ?_ rfl;simp only[Tryz.ntmps285,List.size_toArray,VD,VI,Nat.reduceAdd,Nat.reduceSub,Array.replicate_succ,Array.replicate_zero,List.push_toArray,List.append_toArray,WF,WE];have hcp:=U2 hI.p
 gi_wp2
 gi_loopw [7] (fun v wr=>∃rest:Str,rest.length<=p.length/\(I4 [] p).all P1=(I4 [] rest).all P1/\RInv rec n0 w0 l D b2 bs bp bv rest wr) (fun v wr=>JQ bs wr)
 case atStart=>exact⟨p,Nat.le_refl _,rfl,hI⟩
 case round =>
  obtain⟨rest,hl,hall,hR⟩:=hrel;obtain⟨hs1,hs2⟩:=U2 hR.s;obtain⟨hp1,hp2⟩:=U2 hR.p;obtain⟨hv1,hv2⟩:=U2 hR.v;rcases X7 47 rest with ⟨h1,h2⟩ | ⟨x,r,h1,h2,h3⟩
  ·rw[gR _ _ h1]at hall;obtain⟨fn,tmps,assign,body,hy,hRd⟩:=hY rest rest wr hR
   gi_wp2_with (refine⟨trivial,?_⟩;gi_at_call 226;refine (callsIn_wide.2 (hIdx rest _)).mono ?_;rintro e w' ⟨rfl,rfl⟩;rw[h2])
   refine hRd.mono ?_;rintro e W' (⟨h5,rfl,h6⟩ | ⟨h5,rfl,h6⟩)
   ·gi_wp2
    go_end0
    exact⟨⟨_,rfl⟩,.inl ⟨by simp[hall,h5],rest,h6⟩⟩
   ·gi_wp2
    go_end0
    exact⟨⟨_,rfl⟩,.inr ⟨by simp[hall,h5],h6⟩⟩
  ·subst h1;rw[gQ _ _ _ h2,List.all_cons]at hall;have hxl:x.length<(x++47::r).length:=by simp
   have hex:(⟨(x++47::r).toArray⟩:ByteArray).extract 0 x.length=⟨x.toArray⟩:=by
    apply ByteArray.ext;rw[ByteArray.data_extract];simp
   have hex2:(⟨(x++47::r).toArray⟩:ByteArray).extract (x.length+1) (x.length+(r.length+1))=⟨r.toArray⟩:=by
    apply ByteArray.ext;rw[ByteArray.data_extract];simp;exact WB (by omega)
   obtain⟨fn,tmps,assign,body,hy,hRd⟩:=hY _ x wr hR
   gi_wp2_with (refine⟨trivial,?_⟩;gi_at_call 226;refine (callsIn_wide.2 (hIdx _ _)).mono ?_;rintro e w' ⟨rfl,rfl⟩;rw[h3])
   refine hRd.mono ?_;rintro e W' (⟨h5,rfl,h6⟩ | ⟨h5,rfl,h6⟩)
   ·obtain⟨hs3,hs4⟩:=U2 h6.s;obtain⟨hp3,hp4⟩:=U2 h6.p
    gi_wp2
    try rw[hex2]
    have h7:=h6.step hne r;refine⟨⟨r,by simp at hl;omega,by simp[hall,h5],h7⟩,?_⟩;unfold JQ;rw[(U2 h7.s).1,hs1];show r.toArray.size<(x++47::r).toArray.size;simp;omega
   ·gi_wp2
    refine bodyPost_ret (results_none Z _ _ _) Z ?_;exact⟨⟨_,rfl⟩,.inr ⟨by simp[hall,h5],h6⟩⟩
def MV(b:Nat)(x:Str)(W:World):Exit->Act->World->Prop
 | .normal,_,W'=>P1 x=true/\W'=W
 | .ret,_,W'=>P1 x=false/\W'=W.setCell ⟨b,0,none⟩ (.int .i64 210)
 | _,_,_=>False
theorem yK{ps:Array Tmp}{assign body:Code}{Q:Exit->Act->World->Prop}{a:Act}{w:World}{g:Operand}{b2 bs bp bv:Nat}{n0:Nat}{w0:World}{p:Str}(hp:p.length<=1073741824)
  (hne:bs≠bp/\bs≠bv/\bs≠b2/\n0<=bs/\n0<=b2) (hlt:bs<w.heap.size/\b2<w.heap.size/\n0<=w.heap.size) (hps:ps.size=1)
  (hIdx:∀(s:Str) (w:World),Calls Tryz.prog 226 #[.string ⟨s.toArray⟩,.string ⟨#[47]⟩] w (fun e w'=>e=.returned (.int .i64 (Lib.indexByte s 47))/\w'=w))
  (hg:a.eval g=.func (.func 285) #[] #[.pointer (some ⟨bp,0,none⟩),.pointer (some ⟨bs,0,none⟩),.pointer (some ⟨bv,0,none⟩)])
  (hs:w.heap[bs]?=some (.cells #[.string ⟨p.toArray⟩] 9 (0,0))) (hsp:w.heap[bp]?=some (.cells #[.string ⟨#[47]⟩] 9 (0,0))) (hsv:w.heap[bv]?=some (.cells #[.int .i64 0] 3 (0,0))) (hr:w.heap[b2]?=some (.cells #[.int .i64 0] 33 (0,0))) (hb:Below n0 w0 w)
  (a₁:Str->Act)
  (hassign:∀(l:Nat) (x:Str) (W:World) (K:Act->World->Prop),K (a₁ x) W ->
   assign.wpIn (Fence.wide.inRound l) 3 Tryz.prog (Exit.then K (fun _ _ _=>False)) { tmps:=(ps.zip #[Value.string ⟨x.toArray⟩]).foldl (fun t (p,v)=>t.setIfInBounds p v) a.tmps,defers:=[] } W)
  (hbody:∀(l:Nat) (x:Str) (W:World),W.heap[b2]?=some (.cells #[.int .i64 0] 33 (0,0))->body.wpIn (Fence.wide.inRound l) 3 Tryz.prog (MV b2 x W) (a₁ x) W)
  (hdone:∀(D:Nat) (W:World),w.heap.size<=D->(I4 [] p).all P1=true->W.heap[b2]?=some (.cells #[.int .i64 0] 33 (0,0))->W.heap[D]?=some (.deferred (some []))->Below n0 w0 W->Q .normal { a with defers:={ target:=.collected D,args:=#[] }::a.defers } W)
  (hstop:∀(D:Nat) (W:World),w.heap.size<=D->(I4 [] p).all P1=false->W.heap[b2]?=some (.cells #[.int .i64 210] 33 (0,0))->W.heap[D]?=some (.deferred (some []))->Below n0 w0 W->Code.ret.wpIn Fence.wide 5 Tryz.prog Q { a with defers:={ target:=.collected D,args:=#[] }::a.defers } W) :
  (Code.rangeFunc g ps assign body).wpIn Fence.wide 5 Tryz.prog Q a w:=by
 refine wpIn_rangeFunc ?_;intro fn hfn;obtain⟨rec,hrec⟩:∃rec:LoopState->Option Code->Loop,rec=fun st pe=>{ state:=st,pending:=pe,fn,tmps:=a.tmps,params:=ps,assign,body,defers:=w.heap.size }:=⟨_,rfl⟩
 obtain⟨W1,hW1⟩:∃W1,(w.alloc (.deferred (some []))).alloc (.loop (rec .ready none))=W1:=⟨_,rfl⟩
 have old:∀k o,w.heap[k]?=some o->W1.heap[k]?=some o:=fun k o h=>by
  have hlt:=(Array.getElem?_eq_some_iff.1 h).1;rw[<-hW1];exact (Below.heap_alloc _ _ _ (by rw[World.size_alloc];omega)).trans ((Below.heap_alloc _ _ _ hlt).trans h)
 have hL1:W1.heap[w.heap.size+1]?=some (.loop (rec .ready none)):=by
  rw[<-hW1];have:=World.alloc_heap_new (w.alloc (.deferred (some []))) (.loop (rec .ready none));rwa[World.size_alloc]at this
 have hK1:W1.heap[w.heap.size]?=some (.deferred (some [])):=by
  rw[<-hW1];exact (Below.heap_alloc _ _ _ (by simp)).trans (World.alloc_heap_new w _)
 have hb1:Below n0 w0 W1:=by
  rw[<-hW1];exact hb.trans (((Below.refl n0 w).alloc hlt.2.2 _).alloc (by simp;omega) _)
 refine⟨w.heap.size+1,[{ target:=.collected w.heap.size,args:=#[] }],W1,{ target:=.fn (.func 285) #[.pointer (some ⟨bp,0,none⟩),.pointer (some ⟨bs,0,none⟩),.pointer (some ⟨bv,0,none⟩)],args:=#[.func (.yield (w.heap.size+1)) #[] #[]] },W1,285,
  #[.func (.yield (w.heap.size+1)) #[] #[],.pointer (some ⟨bp,0,none⟩),.pointer (some ⟨bs,0,none⟩),.pointer (some ⟨bv,0,none⟩)],W1,?_,?_,?_,?_,fun _=>by omega,?_⟩
 ·rw[<-hW1,hrec];exact run_enterLoop_outer _ _ _ _ _
 ·simp only[resolve,hg];simp[go_sem]
 ·intro f' hf';trivial
 ·simp[invoke,go_sem]
 ·have hY:∀rest x W,RInv rec n0 w0 (w.heap.size+1) w.heap.size b2 bs bp bv rest W->YieldAt Fence.wide 3 Tryz.prog (w.heap.size+1) #[.string ⟨x.toArray⟩] W (fun e W'=>(P1 x=true/\e=.returned (.bool true)/\RInv rec n0 w0 (w.heap.size+1) w.heap.size b2 bs bp bv rest W')\/(P1 x=false/\e=.returned (.bool false)/\RFin rec n0 w0 (w.heap.size+1) w.heap.size b2 W')):=by
   intro rest x W hI;have hy:=run_yield (P:=Tryz.prog) (args:=#[Value.string ⟨x.toArray⟩]) hI.l (by rw[hrec];exact hps.symm);rw[hrec]at hy;refine⟨fn,_,assign,body,hy,roundIn_of_wpIn hfn (hassign _ x W _ ⟨_,run_beginRound hI.l (by rw[hrec]),?_⟩)⟩;have hltl:w.heap.size+1<W.heap.size:=(Array.getElem?_eq_some_iff.1 hI.l).1;obtain⟨W2,hW2⟩:∃W2,W.putObj (w.heap.size+1) (.loop { rec .ready none with state:=.busy })=W2:=⟨_,rfl⟩
   rw[hW2];have oth:∀k,k≠w.heap.size+1->W2.heap[k]?=W.heap[k]?:=fun k hk=>by rw[<-hW2];exact World.putObj_heap_other hk
   have hl2:W2.heap[w.heap.size+1]?=some (.loop { rec .ready none with state:=.busy }):=by rw[<-hW2];exact World.putObj_heap_same hltl
   have hbB:∀(o:Obj) (X:World),Below n0 w0 X->w.heap.size+1<X.heap.size->Below n0 w0 (X.putObj (w.heap.size+1) o):=fun o X hX hXs=>hX.grown (grownBy_putObj' X _ o) (by have:=hX.size;omega) (fun k e=>by cases e;omega);have hb2:Below n0 w0 W2:=by rw[<-hW2];exact hbB _ _ hI.b hltl
   refine wpIn_mono (hbody _ x W2 ((oth _ (by omega)).trans hI.r)) ?_;rintro e a3 W3 hp;cases e with
   | normal =>
    obtain⟨hok,rfl⟩:=hp;refine⟨_,_,run_endRound none hl2,.inl ⟨hok,rfl,?_⟩⟩;have fin:∀k,k≠w.heap.size+1->(W3.putObj (w.heap.size+1) (.loop { rec .ready none with state:=.ready,pending:=none })).heap[k]?=W.heap[k]?:=fun k hk=>(World.putObj_heap_other hk).trans (oth k hk);have hsz:w.heap.size+1<W3.heap.size:=(Array.getElem?_eq_some_iff.1 hl2).1;have hbs:=(Array.getElem?_eq_some_iff.1 hs).1;have hbp:=(Array.getElem?_eq_some_iff.1 hsp).1;have hbv:=(Array.getElem?_eq_some_iff.1 hsv).1;refine⟨(fin _ (by omega)).trans hI.s,(fin _ (by omega)).trans hI.p,(fin _ (by omega)).trans hI.v,(fin _ (by omega)).trans hI.r,?_,(fin _ (by omega)).trans hI.d,hbB _ _ hb2 hsz⟩;refine (World.putObj_heap_same hsz).trans ?_;rw[hrec];rfl
   | ret =>
    obtain⟨hok,rfl⟩:=hp;have hl3:(W2.setCell ⟨b2,0,none⟩ (.int .i64 210)).heap[w.heap.size+1]?=some (.loop { rec .ready none with state:=.busy }):=(Below.heap_setCell W2 _ _ _ (by show w.heap.size+1≠b2;omega)).trans hl2;have hsz:w.heap.size+1<(W2.setCell ⟨b2,0,none⟩ (.int .i64 210)).heap.size:=(Array.getElem?_eq_some_iff.1 hl3).1;refine⟨_,_,run_endRound (some .ret) hl3,.inr ⟨hok,rfl,?_⟩⟩;refine⟨(World.putObj_heap_other (by omega)).trans (j5 ((oth _ (by omega)).trans hI.r)),?_,?_,hbB _ _ (hb2.setCell (p:=⟨b2,0,none⟩) hne.2.2.2.2 _) hsz⟩
    ·refine (World.putObj_heap_same hsz).trans ?_;rw[hrec];rfl
    ·exact (World.putObj_heap_other (by omega)).trans ((Below.heap_setCell W2 _ _ _ (by show w.heap.size≠b2;omega)).trans ((oth _ (by omega)).trans hI.d))
   | _=>exact hp.elim
  refine (yJ ⟨hne.1,hne.2.1,hne.2.2.1,by omega,by omega,hne.2.2.2.1⟩ hIdx hY p hp W1 ⟨old _ _ hs,old _ _ hsp,old _ _ hsv,old _ _ hr,hL1,hK1,hb1⟩).mono ?_;have hbE:∀(o:Obj) (X:World),Below n0 w0 X->w.heap.size+1<X.heap.size->Below n0 w0 (X.putObj (w.heap.size+1) o):=fun o X hX hXs=>hX.grown (grownBy_putObj' X _ o) (by have:=hX.size;omega) (fun k e=>by cases e;omega);rintro e W2 ⟨⟨v,rfl⟩,(⟨hall,rest,hI⟩ | ⟨hall,hI⟩)⟩
  ·have hsz:w.heap.size+1<W2.heap.size:=(Array.getElem?_eq_some_iff.1 hI.l).1;refine⟨none,_,by have:=run_endLoop (P:=Tryz.prog) hI.l (by rw[hrec];simp);rw[hrec]at this;exact this,?_⟩;exact hdone _ _ (Nat.le_refl _) hall ((World.putObj_heap_other (by omega)).trans hI.r) ((World.putObj_heap_other (by omega)).trans hI.d) (hbE _ _ hI.b hsz)
  ·have hsz:w.heap.size+1<W2.heap.size:=(Array.getElem?_eq_some_iff.1 hI.l).1;refine⟨some .ret,_,by have:=run_endLoop (P:=Tryz.prog) hI.l (by rw[hrec];simp);rw[hrec]at this;exact this,?_⟩;exact hstop _ _ (Nat.le_refl _) hall ((World.putObj_heap_other (by omega)).trans hI.r) ((World.putObj_heap_other (by omega)).trans hI.d) (hbE _ _ hI.b hsz)
theorem yL(w:World)(s p:ByteArray):CallsIn Fence.wide 3 Tryz.prog 227 #[.string s,.string p,.int .i64 0] w fun e w' =>
  e=.returned (.func (.func 285) #[] #[.pointer (some ⟨w.heap.size+1,0,none⟩),.pointer (some ⟨w.heap.size,0,none⟩),.pointer (some ⟨w.heap.size+1+1,0,none⟩)]) /\
  w'=((w.alloc (.cells #[.string s] 9)).alloc (.cells #[.string p] 9)).alloc (.cells #[.int .i64 0] 3):=by
 have hmf:∀(fn:Fn) (first cap:Array Value) (w:World),(Instr.makeFunc fn first cap).run Tryz.prog w=.ok (.func fn first cap) w:=fun _ _ _ _=>rfl;refine callsIn_of_wp Tryz.func227 rfl trivial ?_ rfl;simp only[Tryz.ntmps227,List.size_toArray,VD,VI,Nat.reduceAdd,Nat.reduceSub,Array.replicate_succ,Array.replicate_zero,List.push_toArray,List.append_toArray,WF,WE]
 gi_wp2
 go_ret
 exact⟨rfl,rfl⟩
theorem yM(w:World)(s p:ByteArray):CallsIn Fence.wide 4 Tryz.prog 166 #[.string s,.string p] w fun e w' =>
  e=.returned (.func (.func 285) #[] #[.pointer (some ⟨w.heap.size+1,0,none⟩),.pointer (some ⟨w.heap.size,0,none⟩),.pointer (some ⟨w.heap.size+1+1,0,none⟩)]) /\
  w'=((w.alloc (.cells #[.string s] 9)).alloc (.cells #[.string p] 9)).alloc (.cells #[.int .i64 0] 3):=by
 refine callsIn_of_wp Tryz.func166 rfl trivial ?_ rfl;simp only[Tryz.ntmps166,List.size_toArray,VD,VI,Nat.reduceAdd,Nat.reduceSub,Array.replicate_succ,Array.replicate_zero,List.push_toArray,List.append_toArray,WF,WE]
 gi_wp2_with (refine⟨trivial,?_⟩;gi_at_call 227;refine (yL _ _ _).mono ?_;rintro e w' ⟨rfl,rfl⟩)
 go_ret
 exact⟨rfl,rfl⟩
theorem kC{tmps:Array Value}{b:Nat}{v:Value}{W:World}(ht:tmps[2]?.getD undef=.pointer (some ⟨b,0,none⟩))(hc:W.heap[b]?=some (.cells #[v] 33 (0,0))):(results Tryz.f117 tmps).run Tryz.prog W=.ok v W:=by
 have h1:=(U2 hc).1;simp[results,Tryz.results117,go_sem,h1,ht]
theorem vI(p:Str)(hp:p.length<=1073741824)
  (hIdx:∀(s:Str) (w:World),Calls Tryz.prog 226 #[.string ⟨s.toArray⟩,.string ⟨#[47]⟩] w (fun e w'=>e=.returned (.int .i64 (Lib.indexByte s 47))/\w'=w))
  (hCon:∀(s:Str) (w:World),Calls Tryz.prog 165 #[.string ⟨s.toArray⟩,.string ⟨#[0]⟩] w (fun e w'=>e=.returned (.bool (decide (0<=Lib.indexByte s 0)))/\w'=w)) (w:World) :
  CallsIn Fence.wide 5 Tryz.prog 117 #[.string ⟨p.toArray⟩] w (fun e w'=>e=.returned (.int .i64 (if p.length>200\/0<=Lib.indexByte p 0 then 210 else if (I4 [] p).all P1=true then 0 else 210))/\Below w.heap.size w w'):=by
 refine callsIn_of_wp_marks Tryz.func117 rfl trivial ?_ rfl;simp only[Tryz.ntmps117,List.size_toArray,VD,VI,Nat.reduceAdd,Nat.reduceSub,Array.replicate_succ,Array.replicate_zero,List.push_toArray,List.append_toArray,WF,WE];have hnew:=U2 (World.alloc_heap_new w (.cells #[.int .i64 0] 33));have hB:Below w.heap.size w (w.alloc (.cells #[.int .i64 0] 33)):=(Below.refl _ w).alloc (Nat.le_refl _) _;by_cases h1:200<p.length
 ·rw[A4 (.inl h1)]
  gi_wp2_with (refine⟨trivial,?_⟩)
  exact⟨_,kC rfl (World.alloc_heap_new w _),rfl,(Below.refl _ w).alloc (Nat.le_refl _) _⟩
 by_cases h2:0<=Lib.indexByte p 0
 ·rw[A4 (.inr h2)]
  gi_wp2_with (refine⟨trivial,?_⟩;gi_at_call 165;refine (callsIn_wide.2 (hCon p _)).mono ?_;rintro e w' ⟨rfl,rfl⟩)
  exact⟨_,kC rfl (World.alloc_heap_new w _),rfl,(Below.refl _ w).alloc (Nat.le_refl _) _⟩
 ·rw[A5 (by omega)];obtain⟨r,hr0⟩:∃r:Int,(if (I4 [] p).all P1=true then 0 else 210:Int)=r:=⟨_,rfl⟩
  rw[hr0]
  gi_wp2_with (first | (refine⟨trivial,?_⟩;gi_at_call 165;refine (callsIn_wide.2 (hCon p _)).mono ?_;rintro e w' ⟨rfl,rfl⟩) | (refine⟨trivial,?_⟩;gi_at_call 166;refine (yM _ _ _).mono ?_;rintro e w' ⟨rfl,rfl⟩))
  obtain⟨W0,hW0⟩:∃W0,(((w.alloc (.cells #[.int .i64 0] 33)).alloc (.cells #[.string ⟨p.toArray⟩] 9)).alloc (.cells #[.string ⟨#[47]⟩] 9)).alloc (.cells #[.int .i64 0] 3)=W0:=⟨_,rfl⟩
  have hsz:W0.heap.size=w.heap.size+4:=by rw[<-hW0];simp
  have g0:W0.heap[w.heap.size]?=some (.cells #[.int .i64 0] 33 (0,0)):=by
   rw[<-hW0];refine (Below.heap_alloc _ _ _ (by simp;omega)).trans ((Below.heap_alloc _ _ _ (by simp;omega)).trans ((Below.heap_alloc _ _ _ (by simp)).trans (World.alloc_heap_new w _)))
  have g1:W0.heap[w.heap.size+1]?=some (.cells #[.string ⟨p.toArray⟩] 9 (0,0)):=by
   rw[<-hW0];refine (Below.heap_alloc _ _ _ (by simp)).trans ((Below.heap_alloc _ _ _ (by simp)).trans ?_);have:=World.alloc_heap_new (w.alloc (.cells #[.int .i64 0] 33)) (.cells #[.string ⟨p.toArray⟩] 9)
   rwa[World.size_alloc]at this
  have g2:W0.heap[w.heap.size+1+1]?=some (.cells #[.string ⟨#[47]⟩] 9 (0,0)):=by
   rw[<-hW0];refine (Below.heap_alloc _ _ _ (by simp)).trans ?_;have:=World.alloc_heap_new ((w.alloc (.cells #[.int .i64 0] 33)).alloc (.cells #[.string ⟨p.toArray⟩] 9)) (.cells #[.string ⟨#[47]⟩] 9);simp only[World.size_alloc]at this;exact this
  have g3:W0.heap[w.heap.size+1+1+1]?=some (.cells #[.int .i64 0] 3 (0,0)):=by
   rw[<-hW0];have:=World.alloc_heap_new (((w.alloc (.cells #[.int .i64 0] 33)).alloc (.cells #[.string ⟨p.toArray⟩] 9)).alloc (.cells #[.string ⟨#[47]⟩] 9)) (.cells #[.int .i64 0] 3);simp only[World.size_alloc]at this;exact this
  have hb0:Below w.heap.size w W0:=by
   rw[<-hW0];exact (((hB.alloc (by simp) _).alloc (by simp;omega) _).alloc (by simp;omega) _)
  rw[hW0];refine yK (b2:=w.heap.size) (bs:=w.heap.size+1) (bp:=w.heap.size+1+1) (bv:=w.heap.size+1+1+1) (n0:=w.heap.size) (w0:=w) (p:=p) hp (by omega) (by omega) rfl hIdx rfl g1 g2 g3 g0 hb0 (fun x=>{ tmps:=#[.string ⟨p.toArray⟩,undef,.pointer (some ⟨w.heap.size,0,none⟩),.string ⟨x.toArray⟩,.string ⟨p.toArray⟩,.int .i64 p.length,.bool (decide (200<(p.length:Int))),.bool (decide (200<(p.length:Int))),.string ⟨p.toArray⟩,.bool (decide (0<=Lib.indexByte p 0)),.bool (decide (200<(p.length:Int))||decide (0<=Lib.indexByte p 0)),.string ⟨p.toArray⟩,.func (.func 285) #[] #[.pointer (some ⟨w.heap.size+1+1,0,none⟩),.pointer (some ⟨w.heap.size+1,0,none⟩),.pointer (some ⟨w.heap.size+1+1+1,0,none⟩)],.string ⟨x.toArray⟩,undef,undef,undef,undef,undef,undef,undef,undef,undef,undef],defers:=[] }) ?assign ?body ?done ?stop
  case assign =>
   intro l x W K hK
   gi_wp2
   exact hK
  case body =>
   intro l x W hr;obtain⟨hc1,hc2⟩:=U2 hr;by_cases e1:x=[]
   ·subst e1
    gi_wp2
    exact⟨rfl,rfl⟩
   by_cases e2:x=[46]
   ·subst e2
    gi_wp2
    exact⟨rfl,rfl⟩
   by_cases e3:x=[46,46]
   ·subst e3
    gi_wp2
    exact⟨rfl,rfl⟩
   have f1:x.isEmpty=false:=by cases x with | nil=>exact absurd rfl e1 | cons _ _=>rfl
   have f2:(x == [46])=false:=by simpa using e2
   have f3:(x == [46,46])=false:=by simpa using e3
   have hok:P1 x=true:=A2 ⟨e1,e2,e3⟩;clear e1 e2 e3
   gi_wp2
   all_goals exact⟨hok,rfl⟩
  case done =>
   intro D W hD hall hr hK hb;obtain⟨hc1,hc2⟩:=U2 hr;rw[A4 hall]at hr0;subst hr0;clear hall
   gi_wp2
   have hK2:(W.setCell ⟨w.heap.size,0,none⟩ (.int .i64 0)).heap[D]?=some (.deferred (some [])):=(Below.heap_setCell W _ _ _ (by show D≠w.heap.size;omega)).trans hK;refine⟨by simp,.inl ⟨_,_,rfl,run_takeDeferred hK2,?_⟩⟩;refine⟨_,kC rfl ((World.putObj_heap_other (by omega)).trans (j5 hr)),rfl,?_⟩;have hb3:=hb.setCell (p:=⟨w.heap.size,0,none⟩) (Nat.le_refl _) (.int .i64 0);exact hb3.grown (grownBy_putObj' _ _ _) (by have:=hb3.size;omega) (fun k e=>by cases e;omega)
  case stop =>
   intro D W hD hall hr hK hb;rw[hall,A5 (by decide)]at hr0;subst hr0;clear hall
   gi_wp2
   refine⟨by simp,.inl ⟨_,_,rfl,run_takeDeferred hK,?_⟩⟩;refine⟨_,kC rfl ((World.putObj_heap_other (by omega)).trans hr),rfl,?_⟩;exact hb.grown (grownBy_putObj' W _ _) (by have:=hb.size;omega) (fun k e=>by cases e;omega)
theorem rT(p:Str)(b:p.length<=1073741824):FnOk Tryz.prog 117 [H1 p] (fun c=>c=[E6 (Z4 p)]) :=
 UN (xs:=[.string ⟨p.toArray⟩]) ⟨_,rfl,rfl,rfl⟩ rfl fun w d=>by
  have h:=callsIn_wide.1 (vI p b (fun s w=>by simpa using Tryz.strings_Index_one ⟨s.toArray⟩ 47 w) (fun s w=>by simpa using Tryz.strings_Contains_one ⟨s.toArray⟩ 0 w) w);refine h.mono ?_;rintro e w' ⟨rfl,hb⟩;refine⟨?_,hb⟩;rw[vY];have a:p.contains 0=true↔0<=Lib.indexByte p 0:=by rw[sA,List.contains_iff_mem]
  simp only[a]
set_option maxHeartbeats 1000000
structure FewF (l:List File):Prop where
 len:l.length<=1073741824
 path:∀f∈l,f.Path.length<=1073741824
 blob:∀f∈l,f.Blob.length<=16777216
theorem BR(f:File)(a:f.Path.length<=1073741824):FnOk Tryz.prog 116 [EQ f] (fun rs=>rs=[H5 (decide (Z4 f.Path≠0))]):=by
 refine FnOk.intro Tryz.func116 (by decide) Z Z Z Z ?_;refine k2 ?_;refine A7 (D3 (dE 1 Z Z Z) Z (A6 (A9 Z Z) Z (B0 ?_)));refine k1 (k2 ?_);refine A7 (A6 (B2 Z) Z (A6 (B4 Z Z Z) Z (C8 (rT f.Path a) Z Z Z ?_)));rintro _ rfl;refine A6 (P5 Z Z) Z (A6 (A9 Z Z) Z (B0 ?_));refine k1 (I8 ?_);exact B9 (I5 rfl rfl rfl) rfl
theorem BS(f:File)(a:f.Blob.length<=16777216):FnOk Tryz.prog 119 [EQ f] (fun rs=>rs=[H5 (decide (V5 f.Blob≠0))]):=by
 refine FnOk.intro Tryz.func119 (by decide) Z Z Z Z ?_;refine k2 ?_;refine A7 (D3 (dE 1 Z Z Z) Z (A6 (A9 Z Z) Z (B0 ?_)));refine k1 (k2 ?_);refine A7 (A6 (B2 Z) Z (A6 (B4 Z Z Z) Z (C8 (tD f.Blob (by omega)) Z Z Z ?_)));rintro _ rfl;refine A6 (P5 Z Z) Z (A6 (A9 Z Z) Z (B0 ?_));refine k1 (I8 ?_);exact B9 (I5 rfl rfl rfl) rfl
theorem iU(l:List File)(h:FewF l):FnOk Tryz.prog 73 [R7 l] (fun rs=>rs=[E6 (F5 l)]):=by
 have d:=h.len;refine FnOk.intro Tryz.func73 (by decide) Z Z Z Z ?_;refine k2 ?_;refine A7 (A6 (A9 Z Z) Z (B0 ?_));refine k1 (k2 (k3 (k2 ?_)));refine A7 (A6 (A8 Z Z) Z (A6 (F7 Z (.pure _ _ _ _)) Z (A6 (N5 Z Z) Z (A6 (A9 Z Z) Z (B0 ?_)))));refine k1 ?_;refine B5 rfl (fun a=>?_) (fun a=>?_)
 ·have i:(200:Int)<l.length:=A0 a;refine k2 ?_;refine A7 (A6 (A9 Z Z) Z (B0 ?_));refine k1 (I8 (X4 (M6 ?_)));exact B9 (rs:=[E6 1]) (I5 rfl rfl rfl) (by unfold F5;rw[A4 (by omega)])
 have i:¬(200:Int)<l.length:=A1 a;refine k2 ?_;refine A7 (A6 (A8 Z Z) Z (C8 (dH 116 (fun f=>decide (Z4 f.Path≠0)) l d (fun f c=>BR f (h.path f c))) Z Z Z ?_));rintro _ rfl;refine A6 (A9 Z Z) Z (B0 ?_);refine k1 ?_;refine B5 rfl (fun a=>?_) (fun a=>?_)
 ·refine k2 ?_;refine A7 (A6 (A9 Z Z) Z (B0 ?_));refine k1 (I8 (X4 (M6 ?_)));exact B9 (rs:=[E6 210]) (I5 rfl rfl rfl) (by unfold F5;rw[A5 (by omega),A4 a])
 have b:=a;refine k2 ?_;refine A7 (A6 (A8 Z Z) Z (C8 (yI l d h.path) Z Z Z ?_));rintro _ rfl;refine A6 (Y7 Z) Z (A6 (A9 Z Z) Z (B0 ?_));refine k1 ?_;refine B5 rfl (fun a=>?_) (fun a=>?_)
 ·refine k2 ?_;refine A7 (A6 (A9 Z Z) Z (B0 ?_));refine k1 (I8 (X4 (M6 ?_)));exact B9 (rs:=[E6 211]) (I5 rfl rfl rfl) (by unfold F5;rw[A5 (by omega),A5 (by rw[b];decide),A4 (by simpa using a)])
 have g:V6 l=true:=by simpa using a
 refine k2 ?_;refine A7 (A6 (A8 Z Z) Z (C8 (dH 119 (fun f=>decide (V5 f.Blob≠0)) l d (fun f c=>BS f (h.blob f c))) Z Z Z ?_));rintro _ rfl;refine A6 (A9 Z Z) Z (B0 ?_);refine k1 ?_;refine B5 rfl (fun a=>?_) (fun a=>?_)
 ·refine k2 ?_;refine A7 (A6 (A9 Z Z) Z (B0 ?_));refine k1 (I8 (X4 (M6 ?_)));exact B9 (rs:=[E6 1]) (I5 rfl rfl rfl) (by unfold F5;rw[A5 (by omega),A5 (by rw[b];decide),A5 (by rw[g];decide),A4 a])
 ·refine k5 (k2 ?_);refine A7 (A6 (A9 Z Z) Z (B0 ?_));refine k1 (I8 ?_);exact B9 (rs:=[E6 0]) (I5 rfl rfl rfl) (by unfold F5;rw[A5 (by omega),A5 (by rw[b];decide),A5 (by rw[g];decide),A5 (by rw[a];decide)])
theorem JR(a b:List File)(ha:FewF a)(hb:FewF b):FnOk Tryz.prog 231 [R7 a,R7 b] (fun rs=>rs=[E6 (if F5 a≠0 then F5 a else F5 b)]):=by
 refine FnOk.intro Tryz.func231 (by decide) Z Z Z Z ?_;refine k2 ?_;refine A7 (A6 (A9 Z Z) Z (B0 ?_));refine k1 (k2 (k2 ?_));refine A7 (A6 (A8 Z Z) Z (C8 (iU a ha) Z Z Z ?_));rintro _ rfl;refine A6 (A9 Z Z) Z (B0 ?_);refine k1 (k2 ?_);refine A7 (A6 (A8 Z Z) Z (A6 (P5 Z Z) Z (B0 ?_)));refine k1 ?_;refine B5 rfl (fun d=>?_) (fun d=>?_)
 ·have c:F5 a≠0:=A0 d;refine k2 ?_;refine A7 (A6 (A8 Z Z) Z (A6 (A9 Z Z) Z (B0 ?_)));refine k1 (I8 (M6 ?_));exact B9 (rs:=[E6 (F5 a)]) (I5 rfl rfl rfl) (by rw[A4 c])
 ·have c:¬F5 a≠0:=A1 d;refine k5 (k1 (k2 ?_));refine A7 (A6 (A8 Z Z) Z (C8 (iU b hb) Z Z Z ?_));rintro _ rfl;refine A6 (A9 Z Z) Z (B0 ?_);refine k1 (I8 ?_);exact B9 (rs:=[E6 (F5 b)]) (I5 rfl rfl rfl) (by rw[A5 c])
theorem yN(l:List File)(p:Str)(q:l.length<=1073741824):FnOk Tryz.prog 90 [R7 l,H1 p] (fun rs=>rs=[H1 ((I2 l p).getD []),H5 (I2 l p).isSome]):=by
 refine FnOk.intro Tryz.func90 (by decide) Z Z Z Z ?_;refine k2 ?_;refine A7 (A6 (A9 Z Z) Z (A6 (A9 Z Z) Z (B0 ?_)));refine k1 (k2 (k2 ?_));refine A7 (A6 (A8 Z Z) Z (A6 (F7 Z (.pure _ _ _ _)) Z (A6 (A8 Z Z) Z (B0 ?_))));refine k1 (k3 ?_);refine D9 (X:=Nat) (fun i=>([(1,P4 p),(8,E2 File 2 Q4 l),(9,D1 l.length),(10,D1 i)],[])) (fun i=>i<=l.length/\I2 l p=I2 (l.drop i) p) (fun i=>l.length-i) 0 ⟨Nat.zero_le _,rfl⟩ (Sees.of ⟨B1 rfl,B1 rfl,B1 rfl,B1 rfl,trivial⟩ trivial) ?_;rintro i ⟨k,a⟩;dsimp only at k a ⊢;refine k2 ?_;refine A7 (A6 (F1 Z Z) Z (B0 ?_));refine k1 (k2 ?_);refine B5 rfl (fun d=>?_) (fun d=>?_);rotate_left
 ·have b:i=l.length:=by have b:=A1 d;(try dsimp only at b);omega
  rw[WU (by omega)]at a;rw[a];refine k6 (k2 ?_);refine A7 (A6 (A9 Z Z) Z (A6 (A9 Z Z) Z (B0 ?_)));refine k1 (I8 ?_);exact B9 (rs:=[H1 [],H5 false]) (V2 rfl rfl rfl rfl rfl) rfl
 have c:i<l.length:=by have b:=A0 d;(try dsimp only at b);omega
 obtain⟨f,h⟩:∃f,f=l[i]:=⟨_,rfl⟩
 have n:l[i]?=some f:=by rw[h];simp[c]
 rw[VN c,<-h]at a;have j:I2 (f::l.drop (i+1)) p=if f.Path=p then some f.Blob else I2 (l.drop (i+1)) p:=rfl
 rw[j]at a;refine k5 (k1 (k2 (k3 (k2 ?_))));refine A7 (A6 (B6 Z (.pure _ _ _ _) Z (by omega) n) Z (A6 (H7 Z Z) Z (D3 (L4 7 Z) Z (H3 (D5 TySz.out Z Z Z Z Z Z) (B0 ?_)))));refine k1 (k2 ?_);refine A7 (A6 (B2 Z) Z (A6 (B4 Z Z Z) Z (A6 (A8 Z Z) Z (A6 (a8 Z Z) Z (B0 ?_)))));refine k1 ?_;refine B5 rfl (fun d=>?_) (fun d=>?_)
 ·have b:f.Path=p:=A0 d;rw[A4 b]at a;rw[a];refine k2 ?_;refine A7 (A6 (B2 Z) Z (A6 (B4 Z Z Z) Z (A6 (A9 Z Z) Z (A6 (A9 Z Z) Z (B0 ?_)))));refine k1 (I8 (X4 (M6 (M6 (X4 (M6 ?_))))));exact B9 (rs:=[H1 f.Blob,H5 true]) (V2 rfl rfl rfl rfl rfl) rfl
 ·have b:¬f.Path=p:=A1 d;rw[A5 b]at a;refine k5 (k4 (k1 ?_));refine A7 (A6 (D8 Z Z (by omega)) Z (A6 (A8 Z Z) Z (B0 ?_)));refine k1 ?_;exact⟨i+1,⟨c,a⟩,by omega,(Sees.of ⟨B1 rfl,B1 rfl,B1 rfl,B1 rfl,trivial⟩ trivial)⟩
structure FewT (g:Graph):Prop where
 few:FewG g
 tree:∀c∈g,FewF c.Files
theorem FewT.files{g:Graph}(h:FewT g)(c:Nat):FewF (J9 g c):=by
 unfold J9;by_cases a:c<g.length
 ·rw[VA a];exact h.tree _ (VE a)
 ·rw[VS (by omega)];exact⟨by simp,(fun _ h=>by cases h),(fun _ h=>by cases h)⟩
theorem gS:∀{g:List Commit} {i:Nat},(∀k,k<i->∀h:k<g.length,F5 g[k].Files=0)->U7 g=U7 (g.drop i)
 | g,0,_=>rfl
 | [],i+1,_=>by simp
 | c::r,i+1,h=>by
  have a:=h 0 (by omega) (by simp);rw[U7,A5 (by simpa using a),List.drop_succ_cons];exact gS fun k d b=>h (k+1) (by omega) (by simpa using b)
theorem nZ(g:Graph)(h:FewT g):FnOk Tryz.prog 30 [F4 g] (fun rs=>rs=[E6 (K2 g)]):=by
 have E:=h.few.len;refine FnOk.intro Tryz.func30 (by decide) Z Z Z Z ?_;refine k2 ?_;refine A7 (A6 (A9 Z Z) Z (B0 ?_));refine k1 (k2 (k3 (k2 ?_)));refine A7 (A6 (A8 Z Z) Z (C8 (yD g h.few (by omega)) Z Z Z ?_));rintro _ rfl;refine A6 (Y7 Z) Z (A6 (A9 Z Z) Z (B0 ?_));refine k1 ?_;refine B5 rfl (fun a=>?_) (fun a=>?_)
 ·have f:d8 g=false:=by simpa using a
  refine k2 ?_;refine A7 (A6 (A9 Z Z) Z (B0 ?_));refine k1 (I8 (X4 (M6 ?_)));exact B9 (rs:=[E6 1]) (I5 rfl rfl rfl) (by unfold K2;rw[A4 f])
 have m:d8 g=true:=by simpa using a
 refine k2 ?_;refine A7 (A6 (A8 Z Z) Z (C8 (yE g h.few (by omega)) Z Z Z ?_));rintro _ rfl;refine A6 (Y7 Z) Z (A6 (A9 Z Z) Z (B0 ?_));refine k1 ?_;refine B5 rfl (fun a=>?_) (fun a=>?_)
 ·have f:related g=false:=by simpa using a
  refine k2 ?_;refine A7 (A6 (A9 Z Z) Z (B0 ?_));refine k1 (I8 (X4 (M6 ?_)));exact B9 (rs:=[E6 230]) (I5 rfl rfl rfl) (by unfold K2;rw[A5 (by rw[m];decide),A4 f])
 have d:related g=true:=by simpa using a
 have o:K2 g=if cyclic g=true then 231 else if lB g=true then 3 else U7 g:=by unfold K2;rw[A5 (by rw[m];decide),A5 (by rw[d];decide)]
 rw[o];refine k2 ?_;refine A7 (A6 (A8 Z Z) Z (C8 (BP g h.few d) Z Z Z ?_));rintro _ ⟨D,y,rfl,z⟩;refine A6 (F7 Z (.pure _ _ _ _)) Z (A6 (A8 Z Z) Z (A6 (F7 Z (.pure _ _ _ _)) Z (A6 (F1 Z Z) Z (A6 (A9 Z Z) Z (B0 ?_)))));have n:=z.done d;have n:decide ((y.length:Int)<g.length)=cyclic g:=by rw[<-n,decide_eq_decide];omega
 refine k1 ?_;rw[n];refine B5 rfl (fun a=>?_) (fun a=>?_)
 ·rw[A4 a];refine k2 ?_;refine A7 (A6 (A9 Z Z) Z (B0 ?_));refine k1 (I8 (X4 (M6 ?_)));exact B9 (rs:=[E6 231]) (I5 rfl rfl rfl) rfl
 rw[a,A5 (by decide)];refine k2 ?_;refine A7 (A6 (A8 Z Z) Z (C8 (y8 72 (fun c=>decide (c.Date<0\/c.Date>2147483647)) g (by omega) (fun c _=>BN c)) Z Z Z ?_));rintro _ rfl;refine A6 (A9 Z Z) Z (B0 ?_);refine k1 ?_;refine B5 rfl (fun a=>?_) (fun a=>?_)
 ·have f:lB g=true:=a;rw[A4 f];refine k2 ?_;refine A7 (A6 (A9 Z Z) Z (B0 ?_));refine k1 (I8 (X4 (M6 ?_)));exact B9 (rs:=[E6 3]) (I5 rfl rfl rfl) rfl
 have v:lB g=false:=a;rw[v,A5 (by decide)];refine k5 (k2 (k2 ?_));refine A7 (A6 (A8 Z Z) Z (A6 (F7 Z (.pure _ _ _ _)) Z (A6 (A8 Z Z) Z (B0 ?_))));refine k1 (k3 ?_);refine D9 (X:=Nat) (fun i=>([(24,E2 Commit 3 E7 g),(25,D1 g.length),(26,D1 i)],[])) (fun i=>i<=g.length/\∀k,k<i->∀h:k<g.length,F5 g[k].Files=0) (fun i=>g.length-i) 0 ⟨Nat.zero_le _,fun c h=>by omega⟩ (Sees.of ⟨B1 rfl,B1 rfl,B1 rfl,trivial⟩ trivial) ?_;rintro i ⟨A,x⟩;dsimp only at A x ⊢;have b:=gS x;refine k2 ?_;refine A7 (A6 (F1 Z Z) Z (B0 ?_));refine k1 (k2 ?_);refine B5 rfl (fun a=>?_) (fun a=>?_)
 ·have j:i<g.length:=by have f:=A0 a;(try dsimp only at f);omega
  obtain⟨c,q⟩:∃c,c=g[i]:=⟨_,rfl⟩
  have C:g[i]?=some c:=by rw[q];simp[j]
  have B:c∈g:=by rw[q];exact VE j
  rw[VN j,<-q,U7]at b;refine k5 (k1 (k2 (k3 (k2 ?_))));refine A7 (A6 (B6 Z (.pure _ _ _ _) Z (by omega) C) Z (A6 (H7 Z Z) Z (D3 (L4 4 Z) Z (H3 (D5 TySz.out Z Z Z Z Z Z) (B0 ?_)))));refine k1 (k2 ?_);refine A7 (A6 (B2 Z) Z (A6 (B4 Z Z Z) Z (C8 (iU c.Files (h.tree c B)) Z Z Z ?_)));rintro _ rfl;refine A6 (A9 Z Z) Z (B0 ?_);refine k1 (k2 ?_);refine A7 (A6 (A8 Z Z) Z (A6 (P5 Z Z) Z (B0 ?_)));refine k1 ?_;refine B5 rfl (fun a=>?_) (fun a=>?_)
  ·have t:F5 c.Files≠0:=A0 a;rw[A4 t]at b;rw[b];refine k2 ?_;refine A7 (A6 (A8 Z Z) Z (A6 (A9 Z Z) Z (B0 ?_)));refine k1 (I8 (X4 (M6 (M6 (X4 (M6 ?_))))));exact B9 (rs:=[E6 (F5 c.Files)]) (I5 rfl rfl rfl) rfl
  ·have t:¬F5 c.Files≠0:=A1 a;refine k5 (k4 (k1 ?_));refine A7 (A6 (D8 Z Z (by omega)) Z (A6 (A8 Z Z) Z (B0 ?_)));refine k1 ?_;refine⟨i+1,⟨j,fun k G hkl=>?_⟩,by omega,(Sees.of ⟨B1 rfl,B1 rfl,B1 rfl,trivial⟩ trivial)⟩;by_cases e:k=i
   ·subst e;rw[<-q];exact Decidable.not_not.1 t
   ·exact x k (by omega) hkl
 have w:i=g.length:=by have f:=A1 a;(try dsimp only at f);omega
 rw[w,List.drop_length]at b;rw[b];refine k6 (k2 ?_);refine A7 (A6 (A9 Z Z) Z (B0 ?_));refine k1 (I8 ?_);exact B9 (rs:=[E6 0]) (I5 rfl rfl rfl) rfl
theorem yO{b s:Str}{p:Nat}{a:List Int}{f:Nat}(h:x9 b s f p a=V1 b s):a.length<=(V1 b s).length:=by
 have c:∀(f p:Nat) (a:List Int),a.length<=(x9 b s f p a).length:=by
  intro f;induction f with
  | zero=>intro p a;exact Nat.le_refl _
  | succ f d =>
   intro p a;rw[x9];split
   ·exact Nat.le_refl _
   ·rename_i i _;have:=d (i+b.length) (a++[(i:Int)]);rw[VF]at this;omega
 rw[<-h];exact c f p a
theorem yP{w:World}(h:Grd Tryz.prog (fun _=>False) w):∃m,w.cell? ⟨1,0,none⟩=some (.int .i64 m):=by
 obtain⟨b,⟨d,_⟩,g,f⟩:=h;obtain⟨m,e⟩:=Tryz.laysM143.s1_3 b d;refine⟨m,?_⟩;have c:1<b.heap.size:=World.block_lt_of_cell? b _ e;rw[World.cell?_of_block (w:=b) (a:=⟨1,0,none⟩) (f _ c).1];exact e
theorem JS(s a:Str)(d:s.length<4294967281):FnOk Tryz.prog 226 [H1 s,H1 a] (fun rs=>rs=[E6 (Lib.index s a)]) :=
 UN (xs:=[.string ⟨s.toArray⟩,.string ⟨a.toArray⟩]) ⟨_,rfl,rfl,rfl⟩ rfl fun w b=>by
  obtain⟨m,c⟩:=yP b;refine (Tryz.strings_Index ⟨s.toArray⟩ ⟨a.toArray⟩ m w d c).mono ?_;rintro e w' ⟨rfl,rfl⟩;exact⟨by simp,rfl,rfl,rfl,Nat.le_refl _,fun _ _=>rfl⟩
theorem yQ(b s:Str)(p:Nat)(A:b.length<=1073741824)(B:s.length<=1073741824):FnOk Tryz.prog 162 [H1 b,H1 s,E6 p] (fun rs=>rs=[E6 ((S0 b s p).getD 0:Nat),H5 (S0 b s p).isSome]):=by
 refine FnOk.intro Tryz.func162 (by decide) Z Z Z Z ?_;refine k2 ?_;refine A7 (A6 (A9 Z Z) Z (A6 (A9 Z Z) Z (B0 ?_)));refine k1 (k2 (k2 ?_));refine A7 (A6 (A8 Z Z) Z (A6 (a8 Z Z) Z (A6 (A8 Z Z) Z (B3 Z Z Z Z (fun c=>by rw[c];exact A8 Z Z) ?_))));refine B3 Z Z Z Z (fun c=>by rw[c];exact F1 Z Z) ?_;refine A6 (C3 Z (fun h=>by first | rfl | (rw[h];rfl)) (fun h=>by first | rfl | (rw[h];rfl))) Z ?_;refine A6 (A8 Z Z) Z (B3 Z Z Z Z (fun c=>by rw[c];exact A8 Z Z) ?_);refine B3 Z Z Z Z (fun c=>by rw[c];exact A8 Z Z) ?_;refine B3 Z Z Z Z (fun c=>by rw[c];exact L1 Z) ?_;refine B3 Z Z Z Z (fun c=>by rw[c];exact N5 Z Z) ?_;refine A6 (C3 Z (fun h=>by first | rfl | (rw[h];rfl)) (fun h=>by first | rfl | (rw[h];rfl))) Z ?_;refine B0 ?_;refine k1 ?_;refine B5 rfl (fun d=>?_) (fun d=>?_)
 ·simp only[or_pick]at d;have h:=A0 d;have w:S0 b s p=none:=by
   unfold S0;rw[A4 (by rcases h with (h | h) | h<;>first | exact .inl h | exact absurd h (by omega) | exact .inr (.inl (by omega)))]
  rw[w];refine k2 ?_;refine A7 (A6 (A9 Z Z) Z (A6 (A9 Z Z) Z (B0 ?_)));refine k1 (I8 (M6 ?_));exact B9 (rs:=[E6 0,H5 false]) (V2 rfl rfl rfl rfl rfl) rfl
 simp only[or_pick]at d;have h:=A1 d;have v:b≠[]:=fun e=>h (.inl (.inl e));have z:p<=s.length:=by
  apply Classical.byContradiction;intro e;exact h (.inr (by omega))
 have y:(s.drop p).length<=s.length:=by rw[WA];omega
 have u:=Lib.index_ge (s.drop p) b;have j:=Lib.index_room (s.drop p) b;rw[WA]at j;have f:S0 b s p=if Lib.index (s.drop p) b<0 then none else some (p+(Lib.index (s.drop p) b).toNat):=by
  unfold S0;by_cases k:Lib.index (s.drop p) b<0
  ·rw[A4 (.inr (.inr k)),A4 k]
  ·rw[A5 (by simp only[not_or];exact⟨v,by omega,k⟩),A5 k]
 obtain⟨i,x⟩:∃i,i=Lib.index (s.drop p) b:=⟨_,rfl⟩
 refine k5 (k1 (k2 ?_));refine A7 (A6 (A8 Z Z) Z (A6 (A8 Z Z) Z (A6 (EB Z Z (by omega) (by omega)) Z (A6 (A8 Z Z) Z (C8 (JS (s.drop p) b (by omega)) Z Z Z ?_)))));rintro _ rfl;refine A6 (A9 Z Z) Z (B0 ?_);rw[VC,<-x];rw[<-x]at f u j;refine k1 (k2 (k2 ?_));refine A7 (A6 (A8 Z Z) Z (A6 (F1 Z Z) Z (B0 ?_)));refine k1 ?_;refine B5 rfl (fun d=>?_) (fun d=>?_)
 ·have q:i<0:=A0 d;rw[f,A4 q];refine k2 ?_;refine A7 (A6 (A9 Z Z) Z (A6 (A9 Z Z) Z (B0 ?_)));refine k1 (I8 (M6 ?_));exact B9 (rs:=[E6 0,H5 false]) (V2 rfl rfl rfl rfl rfl) rfl
 ·have q:¬i<0:=A1 d;rw[f,A5 q];refine k5 (k1 (k2 ?_));refine A7 (A6 (A8 Z Z) Z (A6 (A8 Z Z) Z (A6 (D8 Z Z (by omega)) Z (A6 (A9 Z Z) Z (A6 (A9 Z Z) Z (B0 ?_))))));refine k1 (I8 ?_);refine B9 (V2 Z Z Z Z Z) ?_;dsimp only[Option.getD,Option.isSome];rw[show (p:Int)+i=((p+i.toNat:Nat):Int) by omega]
theorem rU(d s:Str)(v:d.length<=1073741824)(B:s.length<=16777216):FnOk Tryz.prog 110 [H1 d,H1 s] (fun rs=>rs=[K0 (V1 d s)]):=by
 have A:=iF d s;refine FnOk.intro Tryz.func110 (by decide) Z Z Z Z ?_;refine k2 ?_;refine A7 (A6 (A9 Z Z) Z (B0 ?_));refine k1 (k2 ?_);refine A7 (D3 (V3 5 _ G2 Z) Z (B0 ?_));refine k1 (k2 ?_);refine A7 (A6 (A8 Z Z) Z (A6 (A8 Z Z) Z (C8 (yQ d s 0 v (by omega)) Z Z Z ?_)));rintro _ rfl;refine A6 (A8 Z Z) Z (A6 (C1 Z Z) Z (A6 (C1 Z Z) Z (A6 (A9 Z Z) Z (A6 (A9 Z Z) Z (B0 ?_)))));refine k1 (k2 (k3 ?_));refine D9 (X:=Nat×List Int) (fun x=>([(0,P4 d),(1,P4 s),(5,.s (.one (.buf 5 Int 1 G2 x.2))),(6,D1 ((S0 d s x.1).getD 0:Nat)),(7,O8 (S0 d s x.1).isSome)],[(5,.spare x.2.length 1 3)])) (fun x=>x.1<=s.length/\x9 d s (s.length+2-x.1) x.1 x.2=V1 d s) (fun x=>s.length+1-x.1) (0,[]) ⟨Nat.zero_le _,rfl⟩ (Sees.of ⟨B1 rfl,B1 rfl,B1 rfl,B1 rfl,B1 rfl,trivial⟩ ⟨rfl,trivial⟩) ?_;rintro⟨p,l⟩ ⟨z,j⟩;dsimp only at z j ⊢;have y:=yO j;refine k2 (k2 ?_);refine A7 (A6 (A8 Z Z) Z (B0 ?_));refine k1 ?_;cases h:S0 d s p with
 | none =>
  rw[bQ h]at j;refine B5 rfl (fun k=>?_) (fun k=>?_)
  ·cases k
  ·refine k6 (k2 ?_);refine A7 (A6 (A8 Z Z) Z (A6 (A9 Z Z) Z (B0 ?_)));refine k1 (I8 ?_);exact B9 (rs:=[K0 l]) (I5 rfl rfl rfl) (by rw[j])
 | some i =>
  have q:=aD h;have w:0<d.length:=List.length_pos_iff.2 q.1;rw[jI (by omega) h]at j;refine B5 rfl (fun k=>?_) (fun k=>?_)
  ·refine k5 (k1 (k3 (k2 ?_)));refine A7 (A6 (A8 Z Z) Z (A6 (A8 Z Z) Z (A6 (D2 (c:=G2) (ys:=[(i:Int)]) (D6 Z Z Z Z G1) Z Z Z) Z (D3 (L2 Z Z Z (.pure _ _ _ _) (by (simp only[VD,VI];omega)) Z) Z (A6 (A9 Z Z) Z (B0 ?_))))));refine k1 ?_;dsimp only[Option.getD];refine A7 (A6 (A8 Z Z) Z (A6 (A8 Z Z) Z (A6 (A8 Z Z) Z (A6 (A8 Z Z) Z (A6 (L1 Z) Z (A6 (D8 Z Z (by omega)) Z (C8 ((show FnOk Tryz.prog 162 [H1 d,H1 s,E6 ((i:Int)+(d.length:Int))] (fun rs=>rs=[E6 ((S0 d s (i+d.length)).getD 0:Nat),H5 (S0 d s (i+d.length)).isSome]) from by rw[show (i:Int)+(d.length:Int)=((i+d.length:Nat):Int) by omega];exact yQ d s (i+d.length) v (by omega))) Z Z Z ?_)))))));rintro _ rfl;refine A6 (A8 Z Z) Z (A6 (C1 Z Z) Z (A6 (C1 Z Z) Z (A6 (A9 Z Z) Z (A6 (A9 Z Z) Z (B0 ?_)))));refine k4 (k1 ?_);refine⟨(i+d.length,l++[(i:Int)]),⟨by dsimp only;omega,?_⟩,by dsimp only;omega,(Sees.of ⟨B1 rfl,B1 rfl,B1 rfl,B1 rfl,B1 rfl,trivial⟩ ⟨rfl,trivial⟩)⟩;dsimp only;rw[<-j];exact rC _ _ _ _ (by omega) (by omega)
  ·cases k
theorem tE(a s:Str)(b:a.length<=1073741824)(d:s.length<=16777216):FnOk Tryz.prog 65 [H1 a,H1 s] (fun f=>f=[E6 (wM a s)]):=by
 have c:=iF a s;refine FnOk.intro Tryz.func65 (by decide) Z Z Z Z ?_;refine k2 ?_;refine A7 (A6 (A9 Z Z) Z (B0 ?_));refine k1 (k2 ?_);refine A7 (A6 (A8 Z Z) Z (A6 (A8 Z Z) Z (C8 (rU a s b d) Z Z Z ?_)));rintro _ rfl;refine A6 (F7 Z (.pure _ _ _ _)) Z (A6 (A9 Z Z) Z (B0 ?_));refine k1 (I8 ?_);exact B9 (I5 rfl rfl rfl) rfl
theorem lP{g:Graph}{c:Nat}{a:Commit}(h:g[c]?=some a):J9 g c=a.Files:=by unfold J9;rw[h];rfl
def l3(g:Graph)(ps:List Int)(i:Nat):List (List File):=(ps.take i).map fun p=>J9 g p.toNat
theorem vJ{g:Graph}{ps:List Int}{i:Nat}(h:i<ps.length):l3 g ps (i+1)=l3 g ps i++[J9 g ps[i].toNat]:=by
 unfold l3;rw[List.take_add_one,VA h,Option.toList_some,WC];rfl
theorem yR(g:Graph)(ps:List Int)(i:Nat):(l3 g ps i).length<=i:=by
 unfold l3;rw[VW,VM];omega
theorem FY(d c:List Str):(w9 d c).length<=d.length+c.length:=by
 have j:∀(d:List Str),∀c,(w9 d c).length<=d.length+c.length:=by
  intro d;induction d with
  | nil=>intro c;simp[w9]
  | cons a d f =>
   intro c;rw[w9];induction c with
   | nil=>rw[l5];have:=f [];simp only[VI,VD]at this ⊢;omega
   | cons b c i =>
    rw[l5];split
    ·have:=f (b::c);simp only[VD]at this ⊢;omega
    ·split
     ·simp only[VD]at i ⊢;omega
     ·have:=f c;simp only[VD]at this ⊢;omega
 exact j d c
theorem pQ(a b:List File):(S4 a b).length<=a.length+b.length:=by
 unfold S4;have d:=List.length_filterMap_le (cN a b) (w9 (a.map (·.Path)) (b.map (·.Path)));have c:=FY (a.map (·.Path)) (b.map (·.Path));rw[VW,VW]at c;omega
theorem Valid.files{g:Graph}(h:Valid g)(c:Nat):(J9 g c).length<=200:=by
 unfold J9;by_cases a:c<g.length
 ·rw[VA a];exact (aU (h.tree _ (VE a))).2.1
 ·rw[VS (by omega)];simp
theorem Valid.trees{g:Graph}(h:Valid g)(c:Nat):∀t∈N4 g c,t.length<=200:=by
 intro t a;unfold N4 at a;split at a
 ·rw[List.mem_singleton.1 a];simp
 ·obtain⟨p,_,rfl⟩:=VT.1 a;exact Valid.files h _
theorem eI{g:Graph}(h:Valid g)(c:Nat):(N4 g c).length<=33:=by
 unfold N4;split
 ·simp
 ·rw[VW];by_cases a:c<g.length
  ·rw[U6 a];have:=h.pars _ (VE a);omega
  ·rw[eX a];simp
theorem yS{l:List File}(h:FewF l)(p:Str):(t6 l p).length<=16777216:=by
 unfold t6;cases a:I2 l p with
 | none=>simp
 | some x =>
  obtain⟨f,b,_,rfl⟩:=x3 a;exact h.blob f b
structure FewB (B:List (List (Str×Str))):Prop where
 len:B.length<=33
 lens:∀l∈B,l.length<=400
 strs:∀l∈B,∀x∈l,x.1.length<=16777216/\x.2.length<=16777216
theorem tF{g:Graph}(h:FewT g)(e:Valid g)(c:Nat):FewB (Q6 g c) where
 len:=by unfold Q6;rw[VW];exact eI e c
 lens:=fun l b=>by
  unfold Q6 at b;obtain⟨t,a,rfl⟩:=VT.1 b;unfold dB;rw[VW];have i:=pQ t (J9 g c);have j:=Valid.trees e c t a;have k:=Valid.files e c;omega
 strs:=fun l b x f=>by
  unfold Q6 at b;obtain⟨t,a,rfl⟩:=VT.1 b;unfold dB at f;obtain⟨d,_,rfl⟩:=VT.1 f;refine⟨yS ?_ _,yS (h.files c) _⟩;unfold N4 at a;split at a
  ·rw[List.mem_singleton.1 a];exact⟨by simp,(fun _ h=>by cases h),(fun _ h=>by cases h)⟩
  ·obtain⟨p,_,rfl⟩:=VT.1 a;exact h.files _
def X6(b:List (List File))(u:List File)(i:Nat):List (List (Str×Str)):=(b.take i).map fun t=>dB t u
theorem vK{a:List (List File)}{u:List File}{i:Nat}(h:i<a.length):X6 a u (i+1)=X6 a u i++[dB a[i] u]:=by
 unfold X6;rw[List.take_add_one,VA h,Option.toList_some,WC];rfl
theorem yT(a:List (List File))(u:List File)(i:Nat):(X6 a u i).length<=a.length:=by
 unfold X6;rw[VW,VM];omega
def l4(t u:List File)(b:List Delta)(i:Nat):List (Str×Str):=(b.take i).map (DM t u)
theorem vL{t u:List File}{a:List Delta}{i:Nat}(h:i<a.length):l4 t u a (i+1)=l4 t u a i++[DM t u a[i]]:=by
 unfold l4;rw[List.take_add_one,VA h,Option.toList_some,WC];rfl
theorem mQ(t u:List File)(a:List Delta)(i:Nat):(l4 t u a i).length<=a.length:=by
 unfold l4;rw[VW,VM];omega
theorem JT:∀(a b:Str),decide (Lib.compareBytes a b<0)=aY a b
 | [],[]=>rfl
 | [],_::_=>rfl
 | _::_,[]=>rfl
 | a::x,b::y=>by
  rw[Lib.compareBytes,bL];have f:=JT x y;by_cases c:a<b
  ·simp[c]
  ·by_cases d:b<a
   ·have:¬a=b:=fun e=>by subst e;exact c d
    simp[c,d,this]
   ·have:a=b:=UInt8.toNat_inj.1 (by rw[UInt8.lt_iff_toNat_lt]at c d;omega);subst this;simpa[c] using f
theorem BT(a b:Str):FnOk Tryz.prog 234 [H1 a,H1 b] (fun c=>c=[E6 (Lib.compareBytes a b)]) :=
 UI (xs:=[.string ⟨a.toArray⟩,.string ⟨b.toArray⟩]) ⟨_,rfl,rfl,rfl⟩ rfl fun w=>by simpa using Tryz.strings_Compare ⟨a.toArray⟩ ⟨b.toArray⟩ w
theorem FZ(x y:Delta):FnOk Tryz.prog 233 [KL x,KL y] (fun a=>a=[E6 (Lib.compareBytes x.Path y.Path)]):=by
 refine FnOk.intro Tryz.func233 (by decide) Z Z Z Z ?_;refine k2 ?_;refine A7 (D3 (dE 2 Z Z Z) Z (D3 (dE 3 Z Z Z) Z (A6 (A9 Z Z) Z (B0 ?_))));refine k1 (k2 ?_);refine A7 (A6 (B2 Z) Z (A6 (B4 Z Z Z) Z (A6 (B2 Z) Z (A6 (B4 Z Z Z) Z (C8 (BT x.Path y.Path) Z Z Z ?_)))));rintro _ rfl;refine A6 (A9 Z Z) Z (B0 ?_);refine k1 (I8 ?_);exact B9 (I5 rfl rfl rfl) rfl
def i8(a:List Delta)(x:Delta)(m:Nat)(rest:List Delta):List Delta:=(a.drop m).reverse++x::((a.take m).reverse++rest)
theorem GA{a:List Delta}{x:Delta}{m:Nat}{rest:List Delta}(b:m<=a.length):(i8 a x m rest).length=a.length+1+rest.length:=by
 unfold i8;simp only[VF,XA,WA,VD,VM];omega
theorem MW{a:List Delta}{x:Delta}{m:Nat}{rest:List Delta}(_hm:m<=a.length):(i8 a x m rest)[a.length-m]?=some x:=by
 unfold i8;rw[VO (by simp),XA,WA,WN];rfl
theorem MX{a:List Delta}{x:Delta}{m:Nat}{rest:List Delta}(b:m<a.length):(i8 a x m rest)[a.length-m-1]?=some a[m]:=by
 unfold i8;rw[VP (by simp;omega),List.getElem?_reverse (by simp;omega),WA,WD];rw[show m+(a.length-m-1-(a.length-m-1))=m by omega,VA b]
theorem BU{a:List Delta}{x:Delta}{m:Nat}{rest:List Delta}(c:m<a.length):((i8 a x m rest).set (a.length-m) a[m]).set (a.length-m-1) x=i8 a x (m+1) rest:=by
 have d:(a.drop m).reverse=(a.drop (m+1)).reverse++[a[m]]:=by rw[VN c,List.reverse_cons]
 have f:(a.take (m+1)).reverse=a[m]::(a.take m).reverse:=by rw[List.take_add_one,VA c,Option.toList_some,List.reverse_append];rfl
 have b:(a.drop (m+1)).reverse.length=a.length-m-1:=by rw[XA,WA];omega
 unfold i8;rw[d,f,VV,WE,WF];generalize (a.drop (m+1)).reverse=P at b ⊢;rw[<-b,show a.length-m=P.length+1 by omega];rw[List.set_append_right _ _ (by omega),show P.length+1-P.length=1 by omega];rw[List.set_append_right _ _ (by omega),WN];rfl
theorem MY{b:List Delta}{x:Delta}:∀{m:Nat},m<=b.length->(∀k,(h:k<m)->(c:k<b.length)->aY x.Path b[k].Path=true)->(∀h:m<b.length,aY x.Path b[m].Path=false)->fZ x b=b.take m++x::b.drop m:=by
 induction b with
 | nil=>intro m _ _ _;rw[List.take_nil,List.drop_nil];rfl
 | cons y r i =>
  intro m g e c;cases m with
  | zero =>
   have:=c (by simp);unfold fZ;rw[A5 (by rw[show y.Path=((y::r)[0]).Path from rfl,this];decide)];rfl
  | succ m =>
   have f:aY x.Path y.Path=true:=e 0 (by omega) (by simp);unfold fZ;rw[A4 f,i (m:=m) (by simpa using g) (fun k j d=>e (k+1) (by omega) (by simpa using d)) (fun h=>c (by simpa using h))];rfl
theorem BV{b:List Delta}{x:Delta}{m:Nat}{rest:List Delta}(f:m<=b.length)(d:∀k,(h:k<m)->(c:k<b.length)->aY x.Path b[k].Path=true)(c:∀h:m<b.length,aY x.Path b[m].Path=false):i8 b x m rest=(fZ x b).reverse++rest:=by
 rw[MY f d c];unfold i8;rw[List.reverse_append,List.reverse_cons];simp only[VV,List.singleton_append,WE,WF]
theorem tG(l a:List Delta):(j1 a l).length=a.length+l.length:=by
 induction l generalizing a with
 | nil=>rfl
 | cons x r b=>rw[j1,b,mY,VD];omega
theorem BW(l:List Delta)(i:Nat)(h:i<l.length):j1 [] (l.take (i+1))=fZ l[i] (j1 [] (l.take i)):=by
 have d:∀(a b c:List Delta),j1 c (a++b)=j1 (j1 c a) b:=by
  intro a;induction a with
  | nil=>intro b c;rfl
  | cons x r e=>intro b c;exact e b _
 rw[List.take_add_one,VA h,Option.toList_some,d];rfl
def w7(l:List Delta)(i:Nat):List Delta:=(j1 [] (l.take i)).reverse++l.drop i
theorem BX(l:List Delta)(i:Nat):(w7 l i).length=l.length:=by
 unfold w7;rw[VF,XA,tG,VM,WA,VI];omega
theorem BY(l:List Delta):w7 l 1=l:=by
 cases l with
 | nil=>rfl
 | cons x r=>rfl
theorem BZ{l:List Delta}{i:Nat}(h:i<l.length):i8 (j1 [] (l.take i)) l[i] 0 (l.drop (i+1))=w7 l i:=by
 unfold i8 w7;rw[List.drop_zero,List.take_zero,VN h];rfl
theorem yU{l:List Delta}{i:Nat}(h:i<l.length):w7 l (i+1)=(fZ l[i] (j1 [] (l.take i))).reverse++l.drop (i+1):=by
 unfold w7;rw[BW l i h]
abbrev gT(l:List Delta):Ob:=.grow 274 Delta 2 cL l
theorem yV{gf:Fr}{ob:Obs}(l:List Delta)(hl:l.length<=1048576)(h0:C5 ob 802=some (gT l)) :
  AL.Met Tryz.prog 311 [.one (.mut 802),.one (.p (.v (.int .i64 0))),.one (.p (.v (.int .i64 l.length))),.one (.p (.v (.func (.func 233) #[] #[])))] gf ob []
   (fun rs ob'=>rs=[]/\ob'=(802,gT (hJ l))::ob):=by
 refine AL.Met.introH Tryz.func311 (by decide) rfl rfl rfl (fun R=>?_);refine k2 ?_;refine A7 (A6 (A8 Z Z) Z (A6 (D8 Z Z (by omega)) Z (A6 (A9 Z Z) Z (B0 ?_))));refine k1 (k3 ?_);refine D9 (X:=Nat) (fun i=>([(0,.s (.one (.mut 802))),(1,D1 0),(2,D1 l.length),(3,H6 (.func (.func 233) #[] #[])),(8,D1 i)]++gf,(802,gT (w7 l i))::ob)) (fun i=>1<=i/\(i<=l.length\/(i=1/\l=[]))) (fun i=>l.length-i) 1 ⟨Nat.le_refl _,by cases l;exact .inr ⟨rfl,rfl⟩;left;simp⟩ ?_ ?_
 ·rw[BY];exact UF ⟨B1 rfl,B1 rfl,B1 rfl,B1 rfl,B1 rfl,trivial⟩ R (by repeat (first | exact B7 | refine B8 rfl ?_)) (M3 (L:=[(802,_)]) ⟨h0,trivial⟩ J6)
 rintro i ⟨V,I⟩;dsimp only at V I ⊢;have ab:=BX l i;refine k2 (k2 ?_);refine A7 (A6 (A8 Z Z) Z (A6 (A8 Z Z) Z (A6 (F1 Z Z) Z (B0 ?_))));refine k1 ?_;refine B5 rfl (fun B=>?_) (fun B=>?_);rotate_left
 ·have U:=A1 B;have he:w7 l i=hJ l:=by
   rcases I with G | ⟨G,h3⟩
   ·have:i=l.length:=by omega
    rw[this];unfold w7 hJ;rw[VJ,List.drop_length,WL]
   ·rw[G,h3];rfl
  rw[he];refine k6 (k7 (k7 (k8 Z ?_)));exact R6 (gF rfl) (by repeat (first | exact B7 | refine B8 rfl ?_ | refine E1 _ ?_)) (fun _ _ h=>h) ⟨rfl,rfl⟩
 have J:i<l.length:=by have U:=A0 B;omega
 obtain⟨x,hx⟩:∃x,x=l[i]:=⟨_,rfl⟩
 obtain⟨b,E⟩:∃b,b=j1 [] (l.take i):=⟨_,rfl⟩
 obtain⟨rest,A⟩:∃rest,rest=l.drop (i+1):=⟨_,rfl⟩
 have K:b.length=i:=by rw[E,tG,VM,VI];omega
 have S:rest.length=l.length-(i+1):=by rw[A,WA]
 have e0:=BZ J;have e1:=yU J;rw[<-hx,<-E,<-A]at e0 e1;rw[<-e0];refine k5 (k1 (k2 (k3 (k2 ?_))));refine A7 (A6 (A8 Z Z) Z (A6 (A9 Z Z) Z (B0 ?_)));refine k1 (k3 ?_);refine D9 (X:=Nat) (fun m=>([(0,.s (.one (.mut 802))),(1,D1 0),(2,D1 l.length),(3,H6 (.func (.func 233) #[] #[])),(8,D1 i),(9,D1 ((i-m:Nat):Int))]++gf,(802,gT (i8 b x m rest))::ob)) (fun m=>m<=i/\∀k,(h:k<m)->(G:k<b.length)->aY x.Path b[k].Path=true) (fun m=>i-m) 0 ⟨Nat.zero_le _,fun k h=>by omega⟩ ?_ ?_
 ·exact UF ⟨B1 rfl,B1 rfl,B1 rfl,B1 rfl,B1 rfl,B1 rfl,trivial⟩ R (by repeat (first | exact B7 | refine B8 rfl ?_)) (M3 (L:=[(802,_)]) ⟨rfl,trivial⟩ (by repeat (first | exact J6 | refine N2 rfl ?_)))
 rintro m ⟨hm,z⟩;dsimp only at hm z ⊢;have g:=GA (x:=x) (rest:=rest) (show m<=b.length by omega);have w:=MW (x:=x) (rest:=rest) (show m<=b.length by omega);rw[K]at g w;have w:(i8 b x m rest)[((i-m:Nat):Int).toNat]?=some x:=by rw[VC];exact w
 have q:(0:Int)<((i-m:Nat):Int)->(i8 b x m rest)[(((i-m:Nat):Int)-1).toNat]?=some (b.getD m ⟨[],0⟩):=fun h=>by
  have:=MX (x:=x) (rest:=rest) (show m<b.length by omega);rw[show (((i-m:Nat):Int)-1).toNat=b.length-m-1 by omega,this,VK,VA (by omega)];rfl
 obtain⟨y,Y⟩:∃y,y=b.getD m ⟨[],0⟩:=⟨_,rfl⟩
 rw[<-Y]at q;have D:=JT x.Path y.Path;refine k2 (k2 ?_);refine H2 (by kernel_rfl) (by kernel_rfl) (C2 (A8 Z Z) Z Z (C2 (A8 Z Z) Z Z (C2 (N5 Z Z) Z Z (C2 (A8 Z Z) Z Z (F8 Z Z (fun d=>by rw[d];exact A8 Z Z) Z Z ?_)))));refine F8 Z Z (fun d=>by rw[d];exact A8 Z Z) Z Z ?_;refine F8 Z Z (fun d=>by rw[d];exact A8 Z Z) Z Z ?_;refine F8 Z Z (fun d=>by have F:=d;(try simp at F);rw[d];exact F0 Z Z Z (by omega) (by (rw[g];omega))) Z Z ?_;refine F8 Z Z (fun d=>by rw[d];exact fJ Z Z w Z) Z Z ?_;refine F8 Z Z (fun d=>by rw[d];exact A8 Z Z) Z Z ?_;refine F8 Z Z (fun d=>by rw[d];exact A8 Z Z) Z Z ?_;refine F8 Z Z (fun d=>by have F:=d;(try simp at F);rw[d];exact O3 Z Z (by omega)) Z Z ?_;refine F8 Z Z (fun d=>by have F:=d;(try simp at F);rw[d];exact F0 Z Z Z (by omega) (by (rw[g];omega))) Z Z ?_;refine F8 Z Z (fun d=>by have F:=d;(try simp at F);rw[d];exact fJ Z Z (q (by omega)) Z) Z Z ?_;refine F8 Z Z (fun d=>by rw[d];exact uY (FZ x y) Z Z Z) Z Z ?_;refine F8 Z Z (fun d=>by rw[d];exact F1 Z Z) Z Z ?_;refine C2 (C3 Z (fun h=>by first | rfl | (rw[h];rfl)) (fun h=>by first | rfl | (rw[h];rfl))) Z Z ?_;refine i7 ?_;refine k1 ?_;refine B5 rfl (fun B=>?_) (fun B=>?_)
 ·rw[dK,VB,decide_eq_true_eq,D]at B;have C:m<b.length:=by omega
  have Q:y=b[m]:=by rw[Y,VK,VA C];rfl
  have M:=BU (x:=x) (rest:=rest) C;rw[K,<-Q]at M;have q:=q B.1;have O:((i8 b x m rest).set ((i-m:Nat):Int).toNat y)[(((i-m:Nat):Int)-1).toNat]?=some y:=by
   rw[List.getElem?_set_ne (by omega)];exact q
  refine k5 (k1 (k2 (k3 ?_)));refine bV [17,15] [[],[15],[17,15]] [(15,([],[])),(17,([],[]))] [(0,[]),(1,[]),(2,[]),(3,[]),(4,[]),(5,[]),(6,[]),(7,[]),(8,[]),(9,[]),(10,[]),(11,[]),(12,[]),(13,[]),(14,[]),(15,[]),(16,[15]),(17,[15])] [(2,[15]),(3,[15]),(4,[15])] (by kernel_rfl) (by kernel_rfl) (J0 Z Z (by kernel_rfl) Z Z (A8 Z Z) (J0 Z Z (by kernel_rfl) Z Z (A8 Z Z) (J0 Z Z (by kernel_rfl) Z Z (A8 Z Z) (J0 Z Z (by kernel_rfl) Z Z (A8 Z Z) (J0 Z Z (by kernel_rfl) Z Z (O3 Z Z (by omega)) (J0 Z Z (by kernel_rfl) Z Z (A8 Z Z) (J0 Z Z (by kernel_rfl) Z Z (A8 Z Z) (J0 Z Z (by kernel_rfl) Z Z (O3 Z Z (by omega)) (J0 Z Z (by kernel_rfl) Z Z (F0 Z Z Z (by omega) (by (rw[g];omega))) ?_)))))))));refine J0 Z Z (by kernel_rfl) Z Z (fJ Z Z q Z) (J0 Z Z (by kernel_rfl) Z Z (A8 Z Z) (J0 Z Z (by kernel_rfl) Z Z (A8 Z Z) (J0 Z Z (by kernel_rfl) Z Z (F0 Z Z Z (by omega) (by (first | (rw[g];omega) | (rw[VY,g];omega)))) ?_)));refine J0 Z Z (by kernel_rfl) Z Z (fJ Z Z w Z) (J0 Z Z (by kernel_rfl) Z Z (F0 Z Z Z (by omega) (by (rw[g];omega))) ?_);refine sT Z Z (by kernel_rfl) Z Z (xR (fun T H=>Z1 (y) TySz.out (nM H Z) Z w (nM H Z) Z Z Z (fun _ _ _ h=>W8 h) (by intro j U G;rcases j with _ | _ | _ | _ | _ | _ | _ | j<;>first | rfl | omega))) Z ?_;refine J0 Z Z (by kernel_rfl) Z Z (F0 Z Z Z (by omega) (by (rw[VY,g];omega))) ?_;refine sT Z Z (by kernel_rfl) Z Z (xR (fun T H=>Z1 (x) TySz.out (nM H Z) Z O (nM H Z) Z Z Z (fun _ _ _ h=>W8 h) (by intro j U G;rcases j with _ | _ | _ | _ | _ | _ | _ | j<;>first | rfl | omega))) Z ?_;refine JD (by kernel_rfl) rfl ?_ ?_
  ·refine xQ Z Z (by kernel_rfl) Z Z (A8 Z Z) (xQ Z Z (by kernel_rfl) Z Z (A8 Z Z) (xQ Z Z (by kernel_rfl) Z Z (O3 Z Z (by omega)) ?_));exact JE
  refine k4 (k1 ?_);refine A7 (A6 (A8 Z Z) Z (A6 (O3 Z Z (by omega)) Z (A6 (A9 Z Z) Z (B0 ?_))));refine k1 ?_;refine⟨m+1,⟨by omega,fun k hk W=>?_⟩,by omega,?_⟩
  ·by_cases e:k=m
   ·subst e;rw[<-Q];exact B.2
   ·exact z k (by omega) W
  ·rw[VC,show (((i-m:Nat):Int)-1).toNat=i-m-1 by omega,M,show ((i-(m+1):Nat):Int)=((i-m:Nat):Int)-1 by omega];exact UF ⟨B1 rfl,B1 rfl,B1 rfl,B1 rfl,B1 rfl,B1 rfl,trivial⟩ R (by repeat (first | exact B7 | refine tail_drop rfl ?_ | refine B8 rfl ?_)) (M3 (L:=[(802,_)]) ⟨rfl,trivial⟩ (by repeat (first | exact J6 | refine N2 rfl ?_)))
 ·rw[dK,Bool.and_eq_false_iff,decide_eq_false_iff_not,D]at B;have hd:i8 b x m rest=w7 l (i+1):=by
   rw[e1];refine BV (by omega) z fun C=>?_;rcases B with h | h
   ·omega
   ·rw[Y,VK,VA C]at h;exact h
  rw[hd];refine k6 (k7 (k7 (k8 Z (k4 (k1 ?_)))));refine A7 (A6 (A8 Z Z) Z (A6 (D8 Z Z (by omega)) Z (A6 (A9 Z Z) Z (B0 ?_))));refine k1 ?_;refine⟨i+1,⟨by omega,.inl (by omega)⟩,by omega,?_⟩;exact UF ⟨B1 rfl,B1 rfl,B1 rfl,B1 rfl,B1 rfl,trivial⟩ R (by repeat (first | exact B7 | refine B8 rfl ?_)) (M3 (L:=[(802,_)]) ⟨rfl,trivial⟩ (by repeat (first | exact J6 | refine N2 rfl ?_)))
theorem MZ{gf:Fr}{ob:Obs}(l:List Delta)(n:Int)(k:l.length<=12)(b:C5 ob 802=some (gT l)) :
  AL.Met Tryz.prog 287 [.one (.mut 802),.one (.p (.v (.int .i64 0))),.one (.p (.v (.int .i64 l.length))),.one (.p (.v (.int .i64 n))),.one (.p (.v (.func (.func 233) #[] #[])))] gf ob []
   (fun g ob'=>g=[]/\ob'=(802,gT (hJ l))::ob):=by
 refine AL.Met.introH Tryz.func287 (by decide) rfl rfl rfl (fun d=>?_);refine k2 ?_;refine A7 (A6 (A9 Z Z) Z (B0 ?_));refine k1 (k2 ?_);refine A7 (A6 (A9 Z Z) Z (B0 ?_));refine k1 (k3 ?_);refine D9 (X:=Nat) (fun _=>([(0,.s (.one (.mut 802))),(1,D1 0),(2,D1 l.length),(3,D1 n),(4,H6 (.func (.func 233) #[] #[])),(10,O8 true),(11,O8 true)]++gf,ob)) (fun _=>True) (fun _=>0) 0 trivial ?_ ?_
 ·exact UF ⟨B1 rfl,B1 rfl,B1 rfl,B1 rfl,B1 rfl,B1 rfl,B1 rfl,trivial⟩ d (by repeat (first | exact B7 | refine B8 rfl ?_)) (fun _ _ h=>h)
 intro _ _;dsimp only;refine k3 (k2 ?_);refine A7 (A6 (A8 Z Z) Z (A6 (A8 Z Z) Z (A6 (O3 Z Z (by omega)) Z (A6 (A9 Z Z) Z (B0 ?_)))));refine k1 (k2 (k2 ?_));refine A7 (A6 (A8 Z Z) Z (A6 (DZ Z Z) Z (B0 ?_)));refine k1 ?_;refine B5 rfl (fun a=>?_) (fun a=>?_)
 ·refine k2 ?_;refine A7 (A6 (A8 Z Z) Z (A6 (A8 Z Z) Z (A6 (A8 Z Z) Z (A6 (A8 Z Z) Z (W7 (yV l (by omega) b) Z Z Z ?_)))));rintro _ _ ⟨rfl,rfl⟩;refine B0 ?_;refine k1 (I8 (M6 (X4 (M6 (X4 ?_)))));exact G9 (gF rfl) (by repeat (first | exact B7 | refine B8 rfl ?_ | refine E1 _ ?_)) (fun _ _ h=>h) ⟨rfl,rfl⟩
 ·have j:=A1 a;omega
theorem JU(n:Nat)(b:n<256):FnOk Tryz.prog 280 [.one (.v (.int .u64 n))] (fun a=>a=[E6 (Lib.bitLen n:Nat)]) :=
 UI (xs:=[.int .u64 n]) ⟨_,rfl,rfl,rfl⟩ rfl fun w=>by simpa using Tryz.bits_Len64 (n:Int) w (by omega) (by omega)
theorem CA(n:Nat)(a:n<256):FnOk Tryz.prog 288 [.one (.v (.int .u64 n))] (fun b=>∃r:Int,b=[E6 r]):=by
 refine FnOk.intro Tryz.func288 (by decide) Z Z Z Z ?_;refine k2 ?_;refine A7 (A6 (A9 Z Z) Z (B0 ?_));refine k1 (k2 ?_);refine MQ ?_;refine k5 (k1 (k2 ?_));refine A7 (A6 (A8 Z Z) Z (C8 (JU n a) Z Z Z ?_));rintro _ rfl;refine A6 (A9 Z Z) Z (B0 ?_);refine k1 (I8 ?_);exact B9 (I5 rfl rfl rfl) ⟨_,rfl⟩
theorem vM{gf:Fr}{ob:Obs}(l:List Delta)(b:l.length<=12)(a:C5 ob 802=some (gT l)) :
  AL.Met Tryz.prog 232 [.one (.mut 802),.one (.p (.v (.func (.func 233) #[] #[])))] gf ob []
   (fun rs ob'=>rs=[]/\ob'=(802,gT (hJ l))::ob):=by
 have d:IntKind.u64.wrap (l.length:Int)=(l.length:Nat):=by unfold IntKind.wrap;simp[IntKind.signed,IntKind.bits];omega
 refine AL.Met.intro Tryz.func232 (by decide) Z Z Z ?_;refine k2 ?_;refine A7 (A6 (A8 Z Z) Z (A6 (P9 Z a) Z (A6 (A9 Z Z) Z (B0 ?_))));refine k1 ?_;refine A7 (A6 (A8 Z Z) Z (A6 (A8 Z Z) Z (A6 (A8 Z Z) Z (A6 (Z0 Z) Z (C8 ((by rw[d];exact CA l.length (by omega))) Z Z Z ?_)))));rintro _ ⟨r,rfl⟩;refine A6 (A8 Z Z) Z (W7 (MZ l r b a) Z Z Z ?_);rintro _ _ ⟨rfl,rfl⟩;refine B0 ?_;skip;exact R6 (gF rfl) (by repeat (first | exact B7 | refine B8 rfl ?_ | refine E1 _ ?_)) (fun _ _ h=>h) ⟨rfl,rfl⟩
def eJ(b:List File)(a:List File)(i:Nat):List Delta:=(a.take i).filterMap (aT b)
theorem yW{b a:List File}{i:Nat}(h:i<a.length):eJ b a (i+1)=eJ b a i++(aT b a[i]).toList:=by
 have e:[a[i]].filterMap (aT b)=(aT b a[i]).toList:=by
  cases c:aT b a[i] with
  | none=>rw[List.filterMap_cons_none c];rfl
  | some d=>rw[List.filterMap_cons_some c];rfl
 unfold eJ;rw[List.take_add_one,VA h,Option.toList_some,List.filterMap_append,e]
def aN(a:List File)(b:List File)(i:Nat):List Delta:=(b.take i).filterMap (fY a)
theorem yX{a b:List File}{i:Nat}(h:i<b.length):aN a b (i+1)=aN a b i++(fY a b[i]).toList:=by
 have e:[b[i]].filterMap (fY a)=(fY a b[i]).toList:=by
  cases c:fY a b[i] with
  | none=>rw[List.filterMap_cons_none c];rfl
  | some d=>rw[List.filterMap_cons_some c];rfl
 unfold aN;rw[List.take_add_one,VA h,Option.toList_some,List.filterMap_append,e]
theorem CB(b a:List File)(i:Nat):(eJ b a i).length<=a.length:=by
 unfold eJ;have:=List.length_filterMap_le (aT b) (a.take i);rw[VM]at this;omega
theorem CC(a b:List File)(i:Nat):(aN a b i).length<=b.length:=by
 unfold aN;have:=List.length_filterMap_le (fY a) (b.take i);rw[VM]at this;omega
def eK(a b:List File):Int:=if F5 a≠0 then F5 a else F5 b
theorem JV(a b:List File)(ha:FewF a)(hb:FewF b)(G:eK a b=0->a.length+b.length<=12):FnOk Tryz.prog 171 [R7 a,R7 b] (fun rs=>rs=[vW (if eK a b≠0 then [] else S4 a b),E6 (eK a b)]):=by
 have H:=ha.len;have J:=hb.len;refine FnOk.intro Tryz.func171 (by decide) Z Z Z Z ?_;refine k2 ?_;refine A7 (A6 (A9 Z Z) Z (A6 (A9 Z Z) Z (B0 ?_)));refine k1 (k2 (k2 ?_));refine A7 (A6 (A8 Z Z) Z (A6 (A8 Z Z) Z (C8 (JR a b ha hb) Z Z Z ?_)));rintro _ rfl;refine A6 (A9 Z Z) Z (B0 ?_);refine k1 (k2 ?_);refine A7 (A6 (A8 Z Z) Z (A6 (P5 Z Z) Z (B0 ?_)));refine k1 ?_;refine B5 rfl (fun d=>?_) (fun d=>?_)
 ·have q:eK a b≠0:=A0 d;refine k2 ?_;refine A7 (A6 (A8 Z Z) Z (A6 (G8 _ 2 cL) Z (A6 (A9 Z Z) Z (B0 ?_))));refine k1 (I8 (M6 ?_));exact B9 (rs:=[vW [],E6 (eK a b)]) (V2 rfl rfl rfl rfl rfl) (by rw[A4 q])
 have q:¬eK a b≠0:=A1 d;have w:eK a b=0:=Decidable.not_not.1 q;have O:=G w;have B:F5 a=0:=by
  apply Classical.byContradiction;intro h;unfold eK at w;rw[A4 h]at w;exact h w
 have I:F5 b=0:=by unfold eK at w;rw[A5 (fun h=>h B)]at w;exact w
 have C:=(aU B).1;have D:=(aU I).1;have K:=kB C;have L:=kB D;rw[w,A5 (show ¬(0:Int)≠0 from fun h=>h rfl),<-HN C D];refine k5 (k1 (k2 ?_));refine A7 (A6 (A8 Z Z) Z (bF (yG a H) Z Z Z Z ?_));rintro _ _ ⟨rfl,rfl⟩;refine⟨rfl,?_⟩;refine A6 (A8 Z Z) Z (bF (pO b J) Z Z Z Z ?_);rintro _ _ ⟨rfl,rfl⟩;refine⟨rfl,?_⟩;refine A6 (A9 Z Z) Z (A6 (A9 Z Z) Z (B0 ?_));refine k1 (k2 ?_);refine A7 (D3 (oQ 802 _ cL Z) Z (B0 ?_));refine k1 (k2 (k2 ?_));refine A7 (A6 (A8 Z Z) Z (A6 (F7 Z (.pure _ _ _ _)) Z (A6 (A8 Z Z) Z (B0 ?_))));refine k1 (k3 ?_);refine D9 (X:=Nat) (fun i=>([(1,E2 File 2 Q4 b),(7,.s (.one (.mut 801))),(8,.s (.one (.mut 800))),(9,.s (.one (.mut 802))),(28,E2 File 2 Q4 a),(29,D1 a.length),(30,D1 i)],[(800,.map Str iP (P6 b)),(801,.map Str iP (P6 a)),(802,gT (eJ b a i))])) (fun i=>i<=a.length) (fun i=>a.length-i) 0 (Nat.zero_le _) (Sees.of ⟨B1 rfl,B1 rfl,B1 rfl,B1 rfl,B1 rfl,B1 rfl,B1 rfl,trivial⟩ ⟨rfl,rfl,rfl,trivial⟩) ?_;intro i M;dsimp only at M ⊢;have U:=CB b a i;refine k2 ?_;refine A7 (A6 (F1 Z Z) Z (B0 ?_));refine k1 (k2 ?_);refine B5 rfl (fun d=>?_) (fun d=>?_)
 ·have v:i<a.length:=by have q:=A0 d;(try dsimp only at q);omega
  obtain⟨f,E⟩:∃f,f=a[i]:=⟨_,rfl⟩
  have N:a[i]?=some f:=by rw[E];simp[v]
  have l:=yW (b:=b) v;rw[<-E]at l;refine k5 (k1 (k2 (k3 (k2 ?_))));refine A7 (A6 (B6 Z (.pure _ _ _ _) Z (by omega) N) Z (A6 (H7 Z Z) Z (D3 (L4 11 Z) Z (H3 (D5 TySz.out Z Z Z Z Z Z) (B0 ?_)))));refine k1 (k2 ?_);refine A7 (A6 (A8 Z Z) Z (A6 (B2 Z) Z (A6 (B4 Z Z Z) Z (A6 (oZ (f.Path) (r:=((I2 b f.Path).map rS)) Z Z Z dZ eC (L f.Path)) Z (A6 (A8 Z Z) Z (A6 (C1 Z Z) Z (A6 (C1 Z Z) Z (A6 (A9 Z Z) Z (A6 (A9 Z Z) Z (B0 ?_))))))))));refine k1 (k2 ?_);refine A7 (A6 (A8 Z Z) Z (A6 (Y7 Z) Z (B0 ?_)));refine k1 ?_;cases j:I2 b f.Path with
  | none =>
   have g:aT b f=some ⟨f.Path,2⟩:=by unfold aT;rw[j]
   rw[g]at l;refine B5 rfl (fun d=>?_) (fun d=>?_)
   ·skip;refine A7 (A6 (A8 Z Z) Z (A6 (B2 Z) Z (A6 (B4 Z Z Z) Z (A6 (I9 Z) Z (A6 (D2 (c:=cL) (ys:=[⟨f.Path,2⟩]) (D6 Z Z Z Z G1) Z Z Z) Z (D3 (T9 Z Z Z (.pure _ _ _ _) (by (simp only[VD,VI];omega)) Z) Z (A6 (A9 Z Z) Z (B0 ?_))))))));refine k4 (k1 ?_);refine A7 (A6 (D8 Z Z (by omega)) Z (A6 (A8 Z Z) Z (B0 ?_)));refine k1 ?_;refine⟨i+1,by omega,by omega,?_⟩;rw[l];exact (Sees.of ⟨B1 rfl,B1 rfl,B1 rfl,B1 rfl,B1 rfl,B1 rfl,B1 rfl,trivial⟩ ⟨rfl,rfl,rfl,trivial⟩)
   ·cases d
  | some y =>
   refine B5 rfl (fun d=>?_) (fun d=>?_)
   ·cases d
   refine k2 ?_;refine A7 (A6 (A8 Z Z) Z (A6 (B2 Z) Z (A6 (B4 Z Z Z) Z (A6 (nV Z Z) Z (B0 ?_)))));refine k1 ?_;refine B5 rfl (fun d=>?_) (fun d=>?_)
   ·have F:y≠f.Blob:=A0 d;have g:aT b f=some ⟨f.Path,3⟩:=by unfold aT;rw[j];dsimp only;rw[A4 F]
    rw[g]at l;skip;refine A7 (A6 (A8 Z Z) Z (A6 (B2 Z) Z (A6 (B4 Z Z Z) Z (A6 (I9 Z) Z (A6 (D2 (c:=cL) (ys:=[⟨f.Path,3⟩]) (D6 Z Z Z Z G1) Z Z Z) Z (D3 (T9 Z Z Z (.pure _ _ _ _) (by (simp only[VD,VI];omega)) Z) Z (A6 (A9 Z Z) Z (B0 ?_))))))));refine k4 (k1 ?_);refine A7 (A6 (D8 Z Z (by omega)) Z (A6 (A8 Z Z) Z (B0 ?_)));refine k1 ?_;refine⟨i+1,by omega,by omega,?_⟩;rw[l];exact (Sees.of ⟨B1 rfl,B1 rfl,B1 rfl,B1 rfl,B1 rfl,B1 rfl,B1 rfl,trivial⟩ ⟨rfl,rfl,rfl,trivial⟩)
   ·have F:¬y≠f.Blob:=A1 d;have g:aT b f=none:=by unfold aT;rw[j];dsimp only;rw[A5 F]
    rw[g]at l;refine k5 (k4 (k1 ?_));refine A7 (A6 (D8 Z Z (by omega)) Z (A6 (A8 Z Z) Z (B0 ?_)));refine k1 ?_;refine⟨i+1,by omega,by omega,?_⟩;rw[l];simp only[Option.toList_none,WL];exact (Sees.of ⟨B1 rfl,B1 rfl,B1 rfl,B1 rfl,B1 rfl,B1 rfl,B1 rfl,trivial⟩ ⟨rfl,rfl,rfl,trivial⟩)
 have z:i=a.length:=by have q:=A1 d;(try dsimp only at q);omega
 have Q:eJ b a a.length=a.filterMap (aT b):=by unfold eJ;rw[VJ]
 obtain⟨A,x⟩:∃A,A=a.filterMap (aT b):=⟨_,rfl⟩
 have R:A.length<=a.length:=by rw[x];exact List.length_filterMap_le _ _
 rw[z,Q,<-x];refine k6 (k2 (k2 ?_));refine A7 (A6 (A8 Z Z) Z (A6 (F7 Z (.pure _ _ _ _)) Z (A6 (A8 Z Z) Z (B0 ?_))));refine k1 (k3 ?_);refine D9 (X:=Nat) (fun i=>([(7,.s (.one (.mut 801))),(9,.s (.one (.mut 802))),(60,E2 File 2 Q4 b),(61,D1 b.length),(62,D1 i)],[(801,.map Str iP (P6 a)),(802,gT (A++aN a b i))])) (fun i=>i<=b.length) (fun i=>b.length-i) 0 (Nat.zero_le _) (by rw[show A++aN a b 0=A by unfold aN;simp];exact (Sees.of ⟨B1 rfl,B1 rfl,B1 rfl,B1 rfl,B1 rfl,trivial⟩ ⟨rfl,rfl,trivial⟩)) ?_;intro i M;dsimp only at M ⊢;have P:=CC a b i;refine k2 ?_;refine A7 (A6 (F1 Z Z) Z (B0 ?_));refine k1 (k2 ?_);refine B5 rfl (fun d=>?_) (fun d=>?_)
 ·have v:i<b.length:=by have q:=A0 d;(try dsimp only at q);omega
  obtain⟨f,E⟩:∃f,f=b[i]:=⟨_,rfl⟩
  have N:b[i]?=some f:=by rw[E];simp[v]
  have l:=yX (a:=a) v;rw[<-E]at l;refine k5 (k1 (k2 (k3 (k2 ?_))));refine A7 (A6 (B6 Z (.pure _ _ _ _) Z (by omega) N) Z (A6 (H7 Z Z) Z (D3 (L4 15 Z) Z (H3 (D5 TySz.out Z Z Z Z Z Z) (B0 ?_)))));refine k1 (k2 ?_);refine A7 (A6 (A8 Z Z) Z (A6 (B2 Z) Z (A6 (B4 Z Z Z) Z (A6 (oZ (f.Path) (r:=((I2 a f.Path).map rS)) Z Z Z dZ eC (K f.Path)) Z (A6 (A8 Z Z) Z (A6 (C1 Z Z) Z (A6 (C1 Z Z) Z (A6 (A9 Z Z) Z (A6 (A9 Z Z) Z (B0 ?_))))))))));refine k1 (k2 ?_);refine A7 (A6 (A8 Z Z) Z (A6 (Y7 Z) Z (B0 ?_)));refine k1 ?_;cases j:I2 a f.Path with
  | none =>
   have g:fY a f=some ⟨f.Path,1⟩:=by unfold fY;rw[j]
   rw[g]at l;refine B5 rfl (fun d=>?_) (fun d=>?_)
   ·skip;refine A7 (A6 (A8 Z Z) Z (A6 (B2 Z) Z (A6 (B4 Z Z Z) Z (A6 (I9 Z) Z (A6 (D2 (c:=cL) (ys:=[⟨f.Path,1⟩]) (D6 Z Z Z Z G1) Z Z Z) Z (D3 (T9 Z Z Z (.pure _ _ _ _) (by (simp only[VF,VD,VI];omega)) Z) Z (A6 (A9 Z Z) Z (B0 ?_))))))));refine k4 (k1 ?_);refine A7 (A6 (D8 Z Z (by omega)) Z (A6 (A8 Z Z) Z (B0 ?_)));refine k1 ?_;refine⟨i+1,by omega,by omega,?_⟩;rw[l,<-VV];exact (Sees.of ⟨B1 rfl,B1 rfl,B1 rfl,B1 rfl,B1 rfl,trivial⟩ ⟨rfl,rfl,trivial⟩)
   ·cases d
  | some y =>
   have g:fY a f=none:=by unfold fY;rw[j]
   rw[g]at l;refine B5 rfl (fun d=>?_) (fun d=>?_)
   ·cases d
   ·refine k5 (k4 (k1 ?_));refine A7 (A6 (D8 Z Z (by omega)) Z (A6 (A8 Z Z) Z (B0 ?_)));refine k1 ?_;refine⟨i+1,by omega,by omega,?_⟩;rw[l];simp only[Option.toList_none,WL];exact (Sees.of ⟨B1 rfl,B1 rfl,B1 rfl,B1 rfl,B1 rfl,trivial⟩ ⟨rfl,rfl,trivial⟩)
 have z:i=b.length:=by have q:=A1 d;(try dsimp only at q);omega
 have S:A++aN a b b.length=l6 a b:=by unfold aN l6;rw[VJ,x]
 have T:=DC a b;rw[z,S];refine k6 (k2 ?_);refine A7 (A6 (A8 Z Z) Z (W7 (vM (l6 a b) (by omega) Z) Z Z Z ?_));rintro _ _ ⟨rfl,rfl⟩;refine B0 ?_;refine k1 (k2 ?_);refine I7 (Sees.freezeG (k:=802) Z Z) ?_;refine A7 (A6 (A8 Z Z) Z (A6 (A9 Z Z) Z (A6 (A9 Z Z) Z (B0 ?_))));refine k1 (I8 ?_);exact B9 (rs:=[vW (KN a b),E6 0]) (V2 rfl rfl rfl rfl rfl) rfl
theorem yY{g:Graph}{c:Int}(h:wN g c=0):Valid g/\0<=c/\c<g.length:=by
 unfold wN at h;split at h
 ·rename_i a;exact absurd h a
 ·rename_i a;split at h
  ·rename_i b;exact⟨U8 (Decidable.not_not.1 a),b⟩
  ·cases h
theorem mR(g:Graph)(c:Nat)(F:FewG g)(J:related g=true)(y:c<g.length):FnOk Tryz.prog 124 [F4 g,E6 c] (fun rs=>rs=[vX (N4 g c)]):=by
 obtain⟨d,m⟩:∃d,d=g[c]:=⟨_,rfl⟩
 have E:g[((c:Nat):Int).toNat]?=some d:=by rw[m];simp[y]
 have w:D4 g c=d.Parents:=by rw[U6 y,m]
 have hpr:=(I3 J c).1;have I:=F.pars d (by rw[m];exact VE y);have A:N4 g c=if d.Parents=[] then [[]] else l3 g d.Parents d.Parents.length:=by unfold N4 l3;rw[w,VJ]
 rw[w]at hpr;rw[A];refine FnOk.intro Tryz.func124 (by decide) Z Z Z Z ?_;refine k2 ?_;refine A7 (A6 (A9 Z Z) Z (B0 ?_));refine k1 (k2 (k2 ?_));refine A7 (A6 (A8 Z Z) Z (A6 (A8 Z Z) Z (A6 (B6 Z (.pure _ _ _ _) Z (by omega) E) Z (A6 (G5 Z) Z (A6 (C0 Z Z) Z (A6 (F7 Z (.pure _ _ _ _)) Z (A6 (J1 Z Z) Z (B0 ?_))))))));refine k1 ?_;refine B5 rfl (fun v=>?_) (fun v=>?_)
 ·have j:d.Parents=[]:=by
   have j:=A0 v;exact List.length_eq_zero_iff.1 (by omega)
  rw[A4 j];refine k2 ?_;refine A7 (A6 (D2 (c:=eO) (ys:=[[]]) (JI Z Z G1) Z Z Z) Z (A6 (A9 Z Z) Z (B0 ?_)));refine k1 (I8 (M6 ?_));exact B9 (rs:=[vX [[]]]) (I5 rfl rfl rfl) rfl
 have j:¬d.Parents=[]:=fun e=>by
  have j:=A1 v;rw[e]at j;exact j rfl
 rw[A5 j];refine k5 (k1 (k2 ?_));refine A7 (D3 (V3 5 _ eO Z) Z (B0 ?_));refine k1 (k2 (k2 ?_));refine A7 (A6 (A8 Z Z) Z (A6 (A8 Z Z) Z (A6 (B6 Z (.pure _ _ _ _) Z (by omega) E) Z (A6 (G5 Z) Z (A6 (C0 Z Z) Z (A6 (F7 Z (.pure _ _ _ _)) Z (A6 (A8 Z Z) Z (B0 ?_))))))));refine k1 (k3 ?_);refine D9 (X:=Nat) (fun i=>([(0,E2 Commit 3 E7 g),(5,.s (.one (.buf 5 (List File) 1 eO (l3 g d.Parents i)))),(20,E2 Int 1 G2 d.Parents),(21,D1 d.Parents.length),(22,D1 i)],[(5,.spare (l3 g d.Parents i).length 1 30)])) (fun i=>i<=d.Parents.length) (fun i=>d.Parents.length-i) 0 (Nat.zero_le _) (Sees.of ⟨B1 rfl,B1 rfl,B1 rfl,B1 rfl,B1 rfl,trivial⟩ ⟨rfl,trivial⟩) ?_;intro i G;dsimp only at G ⊢;have K:=yR g d.Parents i;refine k2 ?_;refine A7 (A6 (F1 Z Z) Z (B0 ?_));refine k1 (k2 ?_);refine B5 rfl (fun v=>?_) (fun v=>?_)
 ·have q:i<d.Parents.length:=by have j:=A0 v;(try dsimp only at j);omega
  have H:=hpr _ (VE q);obtain⟨p,C⟩:∃p:Nat,d.Parents[i]=(p:Int):=⟨d.Parents[i].toNat,by omega⟩
  have B:d.Parents[i]?=some (p:Int):=by rw[VA q,C]
  obtain⟨x,hpm⟩:∃x,x=g[p]:=⟨_,rfl⟩
  have k:g[((p:Nat):Int).toNat]?=some x:=by rw[hpm,VC];simp[show p<g.length by omega]
  have D:=vJ (g:=g) q;rw[C,VC,lP (by rw[VC]at k;exact k)]at D;refine k5 (k1 (k2 (k3 (k2 ?_))));refine A7 (A6 (B6 Z (.pure _ _ _ _) Z (by omega) B) Z (A6 (C0 Z Z) Z (A6 (A9 Z Z) Z (B0 ?_))));refine k1 ?_;refine A7 (A6 (A8 Z Z) Z (A6 (A8 Z Z) Z (A6 (A8 Z Z) Z (A6 (B6 Z (.pure _ _ _ _) Z (by omega) k) Z (A6 (G5 Z) Z (A6 (C0 Z Z) Z (A6 (D2 (c:=eO) (ys:=[x.Files]) (D6 Z Z Z Z G1) Z Z Z) Z (D3 (L2 Z Z Z (.pure _ _ _ _) (by (simp only[VD,VI];omega)) Z) Z (A6 (A9 Z Z) Z (B0 ?_))))))))));refine k4 (k1 ?_);refine A7 (A6 (D8 Z Z (by omega)) Z (A6 (A8 Z Z) Z (B0 ?_)));refine k1 ?_;refine⟨i+1,by omega,by omega,?_⟩;rw[D];exact (Sees.of ⟨B1 rfl,B1 rfl,B1 rfl,B1 rfl,B1 rfl,trivial⟩ ⟨rfl,trivial⟩)
 ·have z:i=d.Parents.length:=by have j:=A1 v;(try dsimp only at j);omega
  rw[z];refine k6 (k2 ?_);refine A7 (A6 (A8 Z Z) Z (A6 (A9 Z Z) Z (B0 ?_)));refine k1 (I8 ?_);exact B9 (rs:=[vX (l3 g d.Parents d.Parents.length)]) (I5 rfl rfl rfl) rfl
def Short(g:Graph):Prop:=∀c:Nat,(J9 g c).length<=6
theorem Short.tree{g:Graph}(h:Short g){c:Nat}{t:List File}(a:t∈N4 g c):t.length<=6:=by
 unfold N4 at a;split at a
 ·rw[List.mem_singleton.1 a];simp
 ·obtain⟨p,_,rfl⟩:=VT.1 a;exact h _
theorem GC{g:Graph}(h:FewT g){c:Nat}{t:List File}(a:t∈N4 g c):FewF t:=by
 unfold N4 at a;split at a
 ·rw[List.mem_singleton.1 a];exact⟨by simp,(fun _ h=>by cases h),(fun _ h=>by cases h)⟩
 ·obtain⟨p,_,rfl⟩:=VT.1 a;exact h.files _
theorem Valid.check{g:Graph}(h:Valid g)(c:Nat):F5 (J9 g c)=0:=by
 unfold J9;by_cases a:c<g.length
 ·rw[VA a];exact h.tree _ (VE a)
 ·rw[VS (by omega)];decide
theorem Valid.checks{g:Graph}(h:Valid g){c:Nat}{t:List File}(a:t∈N4 g c):F5 t=0:=by
 unfold N4 at a;split at a
 ·rw[List.mem_singleton.1 a];decide
 ·obtain⟨p,_,rfl⟩:=VT.1 a;exact Valid.check h _
def bH(g:Graph)(c:Nat):List (List Delta):=(N4 g c).map fun t=>S4 t (J9 g c)
def M7(b:List (List File))(u:List File)(i:Nat):List (List Delta):=(b.take i).map fun t=>S4 t u
theorem pR{a:List (List File)}{u:List File}{i:Nat}(h:i<a.length):M7 a u (i+1)=M7 a u i++[S4 a[i] u]:=by
 unfold M7;rw[List.take_add_one,VA h,Option.toList_some,WC];rfl
theorem rV(a:List (List File))(u:List File)(i:Nat):(M7 a u i).length<=a.length:=by
 unfold M7;rw[VW,VM];omega
theorem PF(g:Graph)(c:Nat)(h:FewT g)(F:Valid g)(A:Short g)(Q:c<g.length):FnOk Tryz.prog 161 [F4 g,E6 c] (fun rs=>rs=[.one (.list (List Delta) 1 cM (bH g c))]):=by
 obtain⟨x,H⟩:∃x,x=g[c]:=⟨_,rfl⟩
 have w:g[((c:Nat):Int).toNat]?=some x:=by rw[H];simp[Q]
 have y:J9 g c=x.Files:=lP (by rw[VC]at w;exact w);have L:=eI F c;have B:∀t∈N4 g c,FewF t/\F5 t=0/\t.length<=6:=fun t m=>⟨GC h m,Valid.checks F m,A.tree m⟩
 have E:=h.files c;have D:=Valid.check F c;have O:=A c;obtain⟨d,v⟩:∃d,d=N4 g c:=⟨_,rfl⟩
 obtain⟨u,M⟩:∃u,u=x.Files:=⟨_,rfl⟩
 have z:bH g c=M7 d u d.length:=by unfold bH M7;rw[VJ,y,v,M]
 rw[y,<-M]at E D O;rw[<-v]at L B;rw[z];refine FnOk.intro Tryz.func161 (by decide) Z Z Z Z ?_;refine k2 ?_;refine A7 (A6 (A9 Z Z) Z (B0 ?_));refine k1 (k2 ?_);refine A7 (D3 (V3 5 _ cM Z) Z (B0 ?_));refine k1 (k2 (k2 ?_));refine A7 (A6 (A8 Z Z) Z (A6 (A8 Z Z) Z (C8 (mR g c h.few F.rel Q) Z Z Z ?_)));rintro _ rfl;refine A6 (F7 Z (.pure _ _ _ _)) Z (A6 (A8 Z Z) Z (B0 ?_));rw[<-v];refine k1 (k3 ?_);refine D9 (X:=Nat) (fun p=>([(0,E2 Commit 3 E7 g),(1,D1 c),(5,.s (.one (.buf 5 (List Delta) 1 cM (M7 d u p)))),(12,E2 (List File) 1 eO d),(13,D1 d.length),(14,D1 p)],[(5,.spare (M7 d u p).length 1 272)])) (fun p=>p<=d.length) (fun p=>d.length-p) 0 (Nat.zero_le _) (Sees.of ⟨B1 rfl,B1 rfl,B1 rfl,B1 rfl,B1 rfl,B1 rfl,trivial⟩ ⟨rfl,trivial⟩) ?_;intro p T;dsimp only at T ⊢;have S:=rV d u p;refine k2 ?_;refine A7 (A6 (F1 Z Z) Z (B0 ?_));refine k1 (k2 ?_);refine B5 rfl (fun m=>?_) (fun m=>?_)
 ·have k:p<d.length:=by have G:=A0 m;(try dsimp only at G);omega
  have R:=pR (u:=u) k;obtain⟨t,q⟩:∃t,t=d[p]:=⟨_,rfl⟩
  have P:d[p]?=some t:=by rw[q];simp[k]
  obtain⟨C,J,U⟩:=B t (by rw[q];exact VE k);rw[<-q]at R;have K:eK t u=0:=by unfold eK;rw[J,A5 (fun h=>h rfl),D]
  have j:=JV t u C E (fun _=>by omega);rw[K,A5 (fun h=>h rfl),show R7 u=R7 x.Files by rw[M]]at j;refine k5 (k1 (k2 (k3 (k2 ?_))));refine A7 (A6 (B6 Z (.pure _ _ _ _) Z (by omega) P) Z (A6 (C0 Z Z) Z (A6 (A9 Z Z) Z (B0 ?_))));refine k1 (k2 ?_);refine A7 (A6 (A8 Z Z) Z (A6 (A8 Z Z) Z (A6 (A8 Z Z) Z (A6 (B6 Z (.pure _ _ _ _) Z (by omega) w) Z (A6 (G5 Z) Z (A6 (C0 Z Z) Z (C8 (j) Z Z Z ?_)))))));rintro _ rfl;refine A6 (A8 Z Z) Z (A6 (C1 Z Z) Z (A6 (C1 Z Z) Z (A6 (A9 Z Z) Z (A6 (A9 Z Z) Z (B0 ?_)))));refine k1 ?_;refine A7 (A6 (A8 Z Z) Z (A6 (A8 Z Z) Z (A6 (D2 (c:=cM) (ys:=[S4 t u]) (D6 Z Z Z Z G1) Z Z Z) Z (D3 (L2 Z Z Z (.pure _ _ _ _) (by (simp only[VD,VI];omega)) Z) Z (A6 (A9 Z Z) Z (B0 ?_))))));refine k4 (k1 ?_);refine A7 (A6 (D8 Z Z (by omega)) Z (A6 (A8 Z Z) Z (B0 ?_)));refine k1 ?_;refine⟨p+1,by omega,by omega,?_⟩;rw[R];exact (Sees.of ⟨B1 rfl,B1 rfl,B1 rfl,B1 rfl,B1 rfl,B1 rfl,trivial⟩ ⟨rfl,trivial⟩)
 ·have I:p=d.length:=by have G:=A1 m;(try dsimp only at G);omega
  rw[I];refine k6 (k2 ?_);refine A7 (A6 (A8 Z Z) Z (A6 (A9 Z Z) Z (B0 ?_)));refine k1 (I8 ?_);exact B9 (rs:=[.one (.list (List Delta) 1 cM (M7 d u d.length))]) (I5 rfl rfl rfl) rfl
theorem GD(g:Graph)(c:Nat)(h:FewT g)(W:Valid g)(C:Short g)(M:c<g.length):FnOk Tryz.prog 109 [F4 g,E6 c] (fun rs=>rs=[wO (Q6 g c)]):=by
 obtain⟨E,O⟩:∃E,E=g[c]:=⟨_,rfl⟩
 have D:g[((c:Nat):Int).toNat]?=some E:=by rw[O];simp[M]
 have B:J9 g c=E.Files:=lP (by rw[VC]at D;exact D);have V:=eI W c;have I:∀t∈N4 g c,t.length<=6:=fun t v=>C.tree v;have J:=C c;rw[B]at J;obtain⟨j,x⟩:∃j,j=N4 g c:=⟨_,rfl⟩
 obtain⟨u,L⟩:∃u,u=E.Files:=⟨_,rfl⟩
 have G:Q6 g c=X6 j u j.length:=by unfold Q6 X6;rw[VJ,B,x,L]
 have Q:bH g c=M7 j u j.length:=by unfold bH M7;rw[VJ,B,x,L]
 rw[<-L]at J;rw[<-x]at V I;rw[G];obtain⟨DS,A⟩:∃DS,DS=M7 j u j.length:=⟨_,rfl⟩
 have ae:DS.length=j.length:=by rw[A];unfold M7;rw[VW,VJ]
 refine FnOk.intro Tryz.func109 (by decide) Z Z Z Z ?_;refine k2 ?_;refine A7 (A6 (A9 Z Z) Z (B0 ?_));refine k1 (k2 ?_);refine A7 (D3 (V3 5 _ fB Z) Z (B0 ?_));refine k1 (k2 ?_);refine A7 (A6 (A8 Z Z) Z (A6 (A8 Z Z) Z (C8 (mR g c h.few W.rel M) Z Z Z ?_)));rintro _ rfl;refine A6 (A9 Z Z) Z (B0 ?_);rw[<-x];refine k1 (k2 (k2 ?_));refine A7 (A6 (A8 Z Z) Z (A6 (A8 Z Z) Z (C8 (PF g c h W C M) Z Z Z ?_)));rintro _ rfl;refine A6 (F7 Z (.pure _ _ _ _)) Z (A6 (A8 Z Z) Z (B0 ?_));rw[Q,<-A];refine k1 (k3 ?_);refine D9 (X:=Nat) (fun p=>([(0,E2 Commit 3 E7 g),(1,D1 c),(5,.s (.one (.buf 5 (List (Str×Str)) 1 fB (X6 j u p)))),(6,E2 (List File) 1 eO j),(21,.s (.one (.p (.list (List Delta) 1 cM DS)))),(22,D1 DS.length),(23,D1 p)],[(5,.spare (X6 j u p).length 1 191)])) (fun p=>p<=j.length) (fun p=>j.length-p) 0 (Nat.zero_le _) (Sees.of ⟨B1 rfl,B1 rfl,B1 rfl,B1 rfl,B1 rfl,B1 rfl,B1 rfl,trivial⟩ ⟨rfl,trivial⟩) ?_;intro p hp;dsimp only at hp ⊢;have af:=yT j u p;refine k2 ?_;refine A7 (A6 (F1 Z Z) Z (B0 ?_));refine k1 (k2 ?_);refine B5 rfl (fun v=>?_) (fun v=>?_);rotate_left
 ·have S:p=j.length:=by have z:=A1 v;(try dsimp only at z);omega
  rw[S];refine k6 (k2 ?_);refine A7 (A6 (A8 Z Z) Z (A6 (A9 Z Z) Z (B0 ?_)));refine k1 (I8 ?_);exact B9 (rs:=[wO (X6 j u j.length)]) (I5 rfl rfl rfl) rfl
 have m:p<j.length:=by have z:=A0 v;(try dsimp only at z);omega
 have U:=vK (u:=u) m;obtain⟨t,w⟩:∃t,t=j[p]:=⟨_,rfl⟩
 have ab:j[p]?=some t:=by rw[w];simp[m]
 have ad:=I t (by rw[w];exact VE m);rw[<-w]at U;have P:=pQ t u;obtain⟨k,q⟩:∃k,k=S4 t u:=⟨_,rfl⟩
 have Y:DS[p]?=some k:=by
  rw[A,q,w];unfold M7;rw[VJ,WK,VA m];rfl
 have T:dB t u=l4 t u k k.length:=by unfold dB l4;rw[VJ,q]
 rw[T]at U;rw[<-q]at P;refine k5 (k1 (k2 (k3 (k2 ?_))));refine A7 (A6 (A8 Z Z) Z (A6 (B6 Z (.pure _ _ _ _) Z (by omega) Y) Z (A6 (C0 Z Z) Z (A6 (A9 Z Z) Z (A6 (A9 Z Z) Z (B0 ?_))))));refine k1 (k2 ?_);refine A7 (D3 (V3 9 _ aE Z) Z (B0 ?_));refine k1 (k2 (k2 ?_));refine A7 (A6 (A8 Z Z) Z (A6 (F7 Z (.pure _ _ _ _)) Z (A6 (A8 Z Z) Z (B0 ?_))));refine k1 (k3 ?_);refine D9 (X:=Nat) (fun i=>([(0,E2 Commit 3 E7 g),(1,D1 c),(5,.s (.one (.buf 5 (List (Str×Str)) 1 fB (X6 j u p)))),(6,E2 (List File) 1 eO j),(7,D1 p),(9,.s (.one (.buf 9 (Str×Str) 2 aE (l4 t u k i)))),(21,.s (.one (.p (.list (List Delta) 1 cM DS)))),(22,D1 DS.length),(23,D1 p),(28,E2 Delta 2 cL k),(29,D1 k.length),(30,D1 i)],[(5,.spare (X6 j u p).length 1 191),(9,.spare (l4 t u k i).length 2 124)])) (fun i=>i<=k.length) (fun i=>k.length-i) 0 (Nat.zero_le _) (Sees.of ⟨B1 rfl,B1 rfl,B1 rfl,B1 rfl,B1 rfl,B1 rfl,B1 rfl,B1 rfl,B1 rfl,B1 rfl,B1 rfl,B1 rfl,trivial⟩ ⟨rfl,rfl,trivial⟩) ?_;intro i hi;dsimp only at hi ⊢;have ag:=mQ t u k i;refine k2 ?_;refine A7 (A6 (F1 Z Z) Z (B0 ?_));refine k1 (k2 ?_);refine B5 rfl (fun v=>?_) (fun v=>?_)
 ·have y:i<k.length:=by have z:=A0 v;(try dsimp only at z);omega
  have H:=vL (t:=t) (u:=u) y;obtain⟨d,hd⟩:∃d,d=k[i]:=⟨_,rfl⟩
  have K:k[i]?=some d:=by rw[hd];simp[y]
  rw[<-hd]at H;have F:=yN u d.Path (by omega);rw[show R7 u=R7 E.Files by rw[L]]at F;refine k5 (k1 (k2 (k3 (k2 ?_))));refine A7 (A6 (B6 Z (.pure _ _ _ _) Z (by omega) K) Z (A6 (H7 Z Z) Z (D3 (L4 11 Z) Z (H3 (D5 TySz.out Z Z Z Z Z Z) (B0 ?_)))));refine k1 (k2 ?_);refine H2 (by kernel_rfl) (by kernel_rfl) (C2 (A8 Z Z) Z Z (C2 (A8 Z Z) Z Z (C2 (B6 Z (.pure _ _ _ _) Z (by omega) ab) Z Z (C2 (C0 Z Z) Z Z (C2 (B2 Z) Z Z (C2 (B4 Z Z Z) Z Z (C2 (L3 (yN t d.Path (by omega)) Z Z) Z Z (C2 (A8 Z Z) Z Z (C2 (C1 Z Z) Z Z (C2 (C1 Z Z) Z Z (C2 (A9 Z Z) Z Z (C2 (A9 Z Z) Z Z (i7 ?_)))))))))))));refine k1 (k2 ?_);refine H2 (by kernel_rfl) (by kernel_rfl) (C2 (A8 Z Z) Z Z (C2 (A8 Z Z) Z Z (C2 (B6 Z (.pure _ _ _ _) Z (by omega) D) Z Z (C2 (G5 Z) Z Z (C2 (C0 Z Z) Z Z (C2 (B2 Z) Z Z (C2 (B4 Z Z Z) Z Z (C2 (L3 (F) Z Z) Z Z (C2 (A8 Z Z) Z Z (C2 (C1 Z Z) Z Z (C2 (C1 Z Z) Z Z (C2 (A9 Z Z) Z Z (C2 (A9 Z Z) Z Z (i7 ?_))))))))))))));refine k1 ?_;refine A7 (A6 (A8 Z Z) Z (A6 (A8 Z Z) Z (A6 (A8 Z Z) Z (A6 (BJ Z) Z (A6 (D2 (c:=aE) (ys:=[(t6 t d.Path,t6 u d.Path)]) (D6 Z Z Z Z G1) Z Z Z) Z (D3 (L2 Z Z Z (.pure _ _ _ _) (by (simp only[VD,VI];omega)) Z) Z (A6 (A9 Z Z) Z (B0 ?_))))))));refine k4 (k1 ?_);refine A7 (A6 (D8 Z Z (by omega)) Z (A6 (A8 Z Z) Z (B0 ?_)));refine k1 ?_;refine⟨i+1,by omega,by omega,?_⟩;rw[H];exact (Sees.of ⟨B1 rfl,B1 rfl,B1 rfl,B1 rfl,B1 rfl,B1 rfl,B1 rfl,B1 rfl,B1 rfl,B1 rfl,B1 rfl,B1 rfl,trivial⟩ ⟨rfl,rfl,trivial⟩)
 ·have R:i=k.length:=by have z:=A1 v;(try dsimp only at z);omega
  rw[R];have ac:=mQ t u k k.length;refine k6 (k7 (k7 (k8 Z (k1 ?_))));refine A7 (A6 (A8 Z Z) Z (A6 (A8 Z Z) Z (A6 (D2 (c:=fB) (ys:=[l4 t u k k.length]) (D6 Z Z Z Z G1) Z Z Z) Z (D3 (L2 Z Z Z (.pure _ _ _ _) (by (simp only[VD,VI];omega)) Z) Z (A6 (A9 Z Z) Z (B0 ?_))))));refine k4 (k1 ?_);refine A7 (A6 (D8 Z Z (by omega)) Z (A6 (A8 Z Z) Z (B0 ?_)));refine k1 ?_;refine⟨p+1,by omega,by omega,?_⟩;rw[U];exact (Sees.of ⟨B1 rfl,B1 rfl,B1 rfl,B1 rfl,B1 rfl,B1 rfl,B1 rfl,trivial⟩ ⟨rfl,trivial⟩)
abbrev cE(a:Str):Unit->Nat->Cell:=fun _ _=>.v (.string ⟨a.toArray⟩)
abbrev EM(x:Str×Str):S1:=.agg [.p (aE x 0),.p (aE x 1)]
abbrev gU(b:Bool):S1:=.one (.p (.v (.bool b)))
abbrev pS(i:Int):S1:=.one (.p (.v (.int .i64 i)))
theorem JW(a:Str)(x:Str×Str)(b:a.length<=1073741824)(c:x.1.length<=16777216)(d:x.2.length<=16777216) :
  AL.Met Tryz.prog 64 [EM x,.one (.eref Unit 1 (cE a) () 0)] [] [] [] (fun rs ob'=>rs=[gU (differs a x)]/\ob'=[]):=by
 refine AL.Met.intro Tryz.func64 (by decide) Z Z Z ?_;refine k2 ?_;refine A7 (D3 (dE 2 Z Z Z) Z (A6 (A9 Z Z) Z (B0 ?_)));refine k1 (k2 ?_);refine H2 (by kernel_rfl) (by kernel_rfl) (C2 (C0 Z Z) Z Z (C2 (bG Z Z (by first | omega | decide) (by omega)) Z Z (C2 (B4 Z Z Z) Z Z (C2 (L3 (tE a x.1 b c) Z Z) Z Z (C2 (C0 Z Z) Z Z (C2 (bG Z Z (by first | omega | decide) (by omega)) Z Z (C2 (B4 Z Z Z) Z Z (C2 (L3 (tE a x.2 b d) Z Z) Z Z (C2 (P5 Z Z) Z Z (C2 (A9 Z Z) Z Z (i7 ?_)))))))))));refine k1 (I8 ?_);exact G9 (O9 rfl rfl) (by repeat (first | exact B7 | refine B8 rfl ?_ | refine E1 _ ?_)) (ObIn.spec (ob':=[]) trivial) ⟨rfl,rfl⟩
theorem rW(f:FuncId)(α:Type)(j:Nat)(c:α->Nat->Cell)(v:α)(q:Str×Str->Bool)(l:List (Str×Str))(C:l.length<=1073741824)(A:∀x∈l,AL.Met Tryz.prog f [EM x,.one (.eref α j c v 0)] [] [] [] (fun w ob'=>w=[gU (q x)]/\ob'=[])) :
  AL.Met Tryz.prog 159 [.one (.p (.list (Str×Str) 2 aE l)),.one (.fncE f α j c v)] [] [] [] (fun w ob'=>(∃i:Int,w=[pS i]/\decide (0<=i)=l.any q)/\ob'=[]):=by
 refine AL.Met.intro Tryz.func159 (by decide) Z Z Z ?_;refine k2 ?_;refine A7 (A6 (A9 Z Z) Z (B0 ?_));refine k1 (k2 (k2 ?_));refine A7 (A6 (A8 Z Z) Z (A6 (F7 Z (.pure _ _ _ _)) Z (A6 (A8 Z Z) Z (B0 ?_))));refine k1 (k3 ?_);refine D9 (X:=Nat) (fun i=>([(0,E2 (Str×Str) 2 aE l),(1,.s (.one (.fncE f α j c v))),(7,D1 l.length),(8,D1 i)],[])) (fun i=>i<=l.length/\(l.take i).any q=false) (fun i=>l.length-i) 0 ⟨Nat.zero_le _,rfl⟩ (Sees.of ⟨B1 rfl,B1 rfl,B1 rfl,B1 rfl,trivial⟩ trivial) ?_;rintro i ⟨B,h⟩;dsimp only at B h ⊢;refine k2 ?_;refine A7 (A6 (F1 Z Z) Z (B0 ?_));refine k1 (k2 ?_);refine B5 rfl (fun d=>?_) (fun d=>?_);rotate_left
 ·have g:i=l.length:=by have g:=A1 d;(try dsimp only at g);omega
  rw[g,VJ]at h;refine k6 (k2 ?_);refine A7 (A6 (A9 Z Z) Z (B0 ?_));refine k1 (I8 ?_);exact G9 (O9 rfl rfl) (by repeat (first | exact B7 | refine B8 rfl ?_ | refine E1 _ ?_)) (ObIn.spec (ob':=[]) trivial) ⟨⟨-1,rfl,by rw[h];rfl⟩,rfl⟩
 have b:i<l.length:=by have g:=A0 d;(try dsimp only at g);omega
 obtain⟨x,m⟩:∃x,x=l[i]:=⟨_,rfl⟩
 have z:l[i]?=some x:=by rw[m];simp[b]
 have k:=A x (by rw[m];exact VE b);refine k5 (k1 (k2 (k3 (k2 ?_))));refine A7 (A6 (A8 Z Z) Z (A6 (A9 Z Z) Z (B0 ?_)));refine k1 (k2 ?_);refine A7 (A6 (A8 Z Z) Z (A6 (A8 Z Z) Z (A6 (A8 Z Z) Z (A6 (B6 Z (.pure _ _ _ _) Z (by omega) z) Z (A6 (H7 Z Z) Z (A6 (nY (k) Z Z Z) Z (B0 ?_)))))));refine k1 ?_;refine B5 rfl (fun d=>?_) (fun d=>?_)
 ·refine k2 ?_;refine A7 (A6 (A8 Z Z) Z (A6 (A9 Z Z) Z (B0 ?_)));refine k1 (I8 (X4 (M6 (M6 (X4 (M6 ?_))))));refine G9 (O9 rfl rfl) (by repeat (first | exact B7 | refine B8 rfl ?_ | refine E1 _ ?_)) (ObIn.spec (ob':=[]) trivial) ⟨⟨i,rfl,?_⟩,rfl⟩;rw[List.any_eq_true.2 ⟨x,by rw[m];exact VE b,d⟩];exact A2 (by omega)
 ·refine k5 (k4 (k1 ?_));refine A7 (A6 (D8 Z Z (by omega)) Z (A6 (A8 Z Z) Z (B0 ?_)));refine k1 ?_;refine⟨i+1,⟨b,?_⟩,by omega,(Sees.of ⟨B1 rfl,B1 rfl,B1 rfl,B1 rfl,trivial⟩ trivial)⟩;rw[List.take_add_one,z,Option.toList_some,List.any_append,h,Bool.false_or,List.any_cons,List.any_nil,Bool.or_false];exact d
theorem lQ(f:FuncId)(α:Type)(a:Nat)(c:α->Nat->Cell)(v:α)(b:Str×Str->Bool)(l:List (Str×Str))(j:l.length<=1073741824)(g:∀x∈l,AL.Met Tryz.prog f [EM x,.one (.eref α a c v 0)] [] [] [] (fun d ob'=>d=[gU (b x)]/\ob'=[])) :
  AL.Met Tryz.prog 107 [.one (.p (.list (Str×Str) 2 aE l)),.one (.fncE f α a c v)] [] [] [] (fun d ob'=>d=[gU (l.any b)]/\ob'=[]):=by
 refine AL.Met.intro Tryz.func107 (by decide) Z Z Z ?_;refine k2 ?_;refine A7 (A6 (A9 Z Z) Z (B0 ?_));refine k1 (k2 ?_);refine A7 (A6 (A8 Z Z) Z (A6 (A8 Z Z) Z (bF (rW f α a c v b l j g) Z Z Z Z ?_)));rintro _ _ ⟨⟨i,rfl,h⟩,rfl⟩;refine⟨rfl,?_⟩;refine A6 (jL Z Z) Z (A6 (A9 Z Z) Z (B0 ?_));refine k1 (I8 ?_);exact G9 (O9 rfl rfl) (by repeat (first | exact B7 | refine B8 rfl ?_ | refine E1 _ ?_)) (ObIn.spec (ob':=[]) trivial) ⟨by rw[<-h],rfl⟩
def c7(B:List (List (Str×Str)))(i:Nat):List (Str×Str):=(B.take i).flatten
theorem mS{B:List (List (Str×Str))}{i:Nat}(h:i<B.length):c7 B (i+1)=c7 B i++B[i]:=by
 unfold c7;rw[List.take_add_one,VA h,Option.toList_some,WP];simp
theorem tH:∀{B:List (List (Str×Str))},(∀l∈B,l.length<=400)->B.flatten.length<=400*B.length
 | [],_=>by simp
 | l::B,h=>by
  have:=tH fun x a=>h x (List.mem_cons_of_mem l a);have:=h l List.mem_cons_self;rw[WO,VF,VD];omega
theorem cH{B:List (List (Str×Str))}(a:FewB B)(i:Nat):(c7 B i).length<=13200:=by
 have b:=tH (B:=B.take i) fun l c=>a.lens l (List.mem_of_mem_take c);have d:=a.len;rw[VM]at b;unfold c7;omega
abbrev EN(l:List (Str×Str)):Ob:=.grow 124 (Str×Str) 2 aE l
theorem pT(k q:Nat)(o:Ob):(o.forget q).forget k=(o.forget k).forget q:=by
 cases o with
 | box l=>simp only[Ob.forget,WV];congr 1;exact List.map_congr_left fun t _=>TC.forget_comm k q t
 | tbx e l=>simp only[Ob.forget,WV];congr 1;exact List.map_congr_left fun t _=>TC.forget_comm k q t
 | tarr n m l=>simp only[Ob.forget,WV];congr 1;exact List.map_congr_left fun t _=>TC.forget_comm k q t
 | growT e n m l=>simp only[Ob.forget,WV];congr 1;exact List.map_congr_left fun t _=>TC.forget_comm k q t
 | growA e α a c b p l=>simp only[Ob.forget,WV];congr 1;exact List.map_congr_left fun t _=>TC.forget_comm k q t
 | _=>rfl
theorem nO(k q:Nat)(ob:Obs):Obs.forget k (Obs.forget q ob)=Obs.forget q (Obs.forget k ob):=by
 simp only[Obs.forget,WV,Function.comp_def,pT k q]
end Go.Proofs.YtbflhoahmmfkmaaGreatDoor
