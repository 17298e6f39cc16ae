/- Walks of the program's functions. -/
import Derived.RangeFuncBound
import Derived.RangeFuncOwn
import Derived.OwnWalkIn
import Derived.TacticsInMore
import Derived.LoopNIn
import Derived.LoopIn
import Derived.Test.YtbflhoahmmfkmaaGreatDoorFa
import Derived.Lib.Bytealg
import Derived.RecoverIn
set_option linter.all false
namespace Go.Proofs.YtbflhoahmmfkmaaGreatDoor
open Go Go.RowKit Go.AL
attribute [local go_sem] Oper.semAt_some
set_option maxRecDepth 100000
set_option maxHeartbeats 2000000
theorem bK:∀(a r b:Str),47∉a->G3 b (a++47::r)=(b++a)::G3 [] r
 | [],r,b,_=>by simp[G3]
 | x::a,r,b,h=>by
  have c:x≠47:=fun e=>h (by simp[e]);rw[IR,G3,A5 c,bK a r _ (fun e=>h (by simp[e])),IL];rfl
theorem bL:∀(a b:Str),47∉a->G3 b a=[b++a]
 | [],b,_=>by simp[G3]
 | x::a,b,h=>by
  have c:x≠47:=fun e=>h (by simp[e]);rw[G3,A5 c,bL a _ (fun e=>h (by simp[e])),IL];rfl
theorem O7{W:World}{B:Nat}{v:Value}{t:TypeId}(h:W.heap[B]?=some (.cells #[v] t (0,0))):W.cell? ⟨B,0,none⟩=some v/\W.frozen? ⟨B,0,none⟩=false:=by
 constructor<;>simp[World.cell?,World.frozen?,h]
structure RInv (rec:LoopState->Option Code->Loop) (n0:Nat) (w0:World) (l D b2 bs bp bv:Nat) (rest:Str) (W:World):Prop where
 s:W.heap[bs]?=some (.cells #[.string ⟨rest.toArray⟩] 9 (0,0))
 p:W.heap[bp]?=some (.cells #[.string ⟨#[47]⟩] 9 (0,0))
 v:W.heap[bv]?=some (.cells #[.int .i64 0] 3 (0,0))
 r:W.heap[b2]?=some (.cells #[.int .i64 0] 33 (0,0))
 l:W.heap[l]?=some (.loop (rec .ready none))
 d:W.heap[D]?=some (.deferred (some []))
 b:Below n0 w0 W
structure RFin (rec:LoopState->Option Code->Loop) (n0:Nat) (w0:World) (l D b2:Nat) (W:World):Prop where
 r:W.heap[b2]?=some (.cells #[.int .i64 210] 33 (0,0))
 l:W.heap[l]?=some (.loop (rec .done (some .ret)))
 d:W.heap[D]?=some (.deferred (some []))
 b:Below n0 w0 W
def yE(a:Nat)(W:World):Nat:=match W.cell? ⟨a,0,none⟩ with | some (.string s)=>s.size | _=>0
theorem U5{W:World}{B:Nat}{v f:Value}{t:TypeId}(h:W.heap[B]?=some (.cells #[v] t (0,0))):(W.setCell ⟨B,0,none⟩ f).heap[B]?=some (.cells #[f] t (0,0)):=by
 obtain⟨d,b⟩:=Array.getElem?_eq_some_iff.1 h;show (W.heap.modify B _)[B]?=_;rw[Array.getElem?_eq_getElem (by rw[Array.size_modify];exact d),Array.getElem_modify_self,b];rfl
theorem RInv.step{rec:LoopState->Option Code->Loop}{m:Nat}{o:World}{l D e c f j:Nat}{rest:Str}{W:World}(h:RInv rec m o l D e c f j rest W)(k:c≠f/\c≠j/\c≠e/\c≠l/\c≠D/\m<=c)(r:Str) :
  RInv rec m o l D e c f j r (W.setCell ⟨c,0,none⟩ (.string ⟨r.toArray⟩)):=by
 obtain⟨q,u,w,x,y,z⟩:=k;exact⟨U5 h.s,(Below.heap_setCell W _ _ _ (Ne.symm q)).trans h.p,(Below.heap_setCell W _ _ _ (Ne.symm u)).trans h.v,(Below.heap_setCell W _ _ _ (Ne.symm w)).trans h.r,(Below.heap_setCell W _ _ _ (Ne.symm x)).trans h.l,(Below.heap_setCell W _ _ _ (Ne.symm y)).trans h.d,h.b.setCell (p:=⟨c,0,none⟩) z _⟩
theorem pU{rec:LoopState->Option Code->Loop}{n0:Nat}{w0:World}{l D b2 bs bp bv:Nat}(hne:bs≠bp/\bs≠bv/\bs≠b2/\bs≠l/\bs≠D/\n0<=bs)
  (hIdx:∀(s:Str) (w:World),Calls Tryz.prog 226 #[.string ⟨s.toArray⟩,.string ⟨#[47]⟩] w (fun e w'=>e=.returned (.int .i64 (Lib.indexByte s 47))/\w'=w))
  (hY:∀rest x W,RInv rec n0 w0 l D b2 bs bp bv rest W->YieldAt Fence.wide 3 Tryz.prog l #[.string ⟨x.toArray⟩] W (fun e W'=>(J1 x=true/\e=.returned (.bool true)/\RInv rec n0 w0 l D b2 bs bp bv rest W')\/(J1 x=false/\e=.returned (.bool false)/\RFin rec n0 w0 l D b2 W')))
  (p:Str) (hp:p.length<=1073741824) (W:World) (hI:RInv rec n0 w0 l D b2 bs bp bv p W) :
  CallsIn Fence.wide 4 Tryz.prog 285 #[.func (.yield l) #[] #[],.pointer (some ⟨bp,0,none⟩),.pointer (some ⟨bs,0,none⟩),.pointer (some ⟨bv,0,none⟩)] W (fun e W'=>(∃v,e=.returned v) /\
   (((G3 [] p).all J1=true/\∃rest,RInv rec n0 w0 l D b2 bs bp bv rest W')\/((G3 [] p).all J1=false/\RFin rec n0 w0 l D b2 W'))):=by
 refine callsIn_of_wp Tryz.func285 rfl trivial ?_ rfl;simp only[Tryz.ntmps285,List.size_toArray,HU,IM,Nat.reduceAdd,Nat.reduceSub,Array.replicate_succ,Array.replicate_zero,List.push_toArray,List.append_toArray,JA,IR];have hcp:=O7 hI.p
 gi_wp2
 gi_loopw [7] (fun v wr=>∃rest:Str,rest.length<=p.length/\(G3 [] p).all J1=(G3 [] rest).all J1/\RInv rec n0 w0 l D b2 bs bp bv rest wr) (fun v wr=>yE bs wr)
 case atStart=>exact⟨p,Nat.le_refl _,rfl,hI⟩
 case round =>
  obtain⟨rest,hl,hall,hR⟩:=hrel;obtain⟨hs1,hs2⟩:=O7 hR.s;obtain⟨hp1,hp2⟩:=O7 hR.p;obtain⟨hv1,hv2⟩:=O7 hR.v;rcases Q0 47 rest with ⟨h1,h2⟩ | ⟨x,r,h1,h2,h3⟩
  ·rw[bL _ _ h1]at hall;obtain⟨fn,tmps,assign,body,hy,hRd⟩:=hY rest rest wr hR
   gi_wp2_with (refine⟨trivial,?_⟩;gi_at_call 226;refine (callsIn_wide.2 (hIdx rest _)).mono ?_;rintro e w' ⟨rfl,rfl⟩;rw[h2])
   refine hRd.mono ?_;rintro e W' (⟨h5,rfl,h6⟩ | ⟨h5,rfl,h6⟩)
   ·gi_wp2
    go_end0
    exact⟨⟨_,rfl⟩,.inl ⟨by simp[hall,h5],rest,h6⟩⟩
   ·gi_wp2
    go_end0
    exact⟨⟨_,rfl⟩,.inr ⟨by simp[hall,h5],h6⟩⟩
  ·subst h1;rw[bK _ _ _ h2,List.all_cons]at hall;have hxl:x.length<(x++47::r).length:=by simp
   have hex:(⟨(x++47::r).toArray⟩:ByteArray).extract 0 x.length=⟨x.toArray⟩:=by
    apply ByteArray.ext;rw[ByteArray.data_extract];simp
   have hex2:(⟨(x++47::r).toArray⟩:ByteArray).extract (x.length+1) (x.length+(r.length+1))=⟨r.toArray⟩:=by
    apply ByteArray.ext;rw[ByteArray.data_extract];simp;exact IV (by omega)
   obtain⟨fn,tmps,assign,body,hy,hRd⟩:=hY _ x wr hR
   gi_wp2_with (refine⟨trivial,?_⟩;gi_at_call 226;refine (callsIn_wide.2 (hIdx _ _)).mono ?_;rintro e w' ⟨rfl,rfl⟩;rw[h3])
   refine hRd.mono ?_;rintro e W' (⟨h5,rfl,h6⟩ | ⟨h5,rfl,h6⟩)
   ·obtain⟨hs3,hs4⟩:=O7 h6.s;obtain⟨hp3,hp4⟩:=O7 h6.p
    gi_wp2
    try rw[hex2]
    have h7:=h6.step hne r;refine⟨⟨r,by simp at hl;omega,by simp[hall,h5],h7⟩,?_⟩;unfold yE;rw[(O7 h7.s).1,hs1];show r.toArray.size<(x++47::r).toArray.size;simp;omega
   ·gi_wp2
    refine bodyPost_ret (results_none Z _ _ _) Z ?_;exact⟨⟨_,rfl⟩,.inr ⟨by simp[hall,h5],h6⟩⟩
def AK(b:Nat)(x:Str)(W:World):Exit->Act->World->Prop
 | .normal,_,W'=>J1 x=true/\W'=W
 | .ret,_,W'=>J1 x=false/\W'=W.setCell ⟨b,0,none⟩ (.int .i64 210)
 | _,_,_=>False
theorem pV{ps:Array Tmp}{assign body:Code}{Q:Exit->Act->World->Prop}{a:Act}{w:World}{g:Operand}{b2 bs bp bv:Nat}{n0:Nat}{w0:World}{p:Str}(hp:p.length<=1073741824)
  (hne:bs≠bp/\bs≠bv/\bs≠b2/\n0<=bs/\n0<=b2) (hlt:bs<w.heap.size/\b2<w.heap.size/\n0<=w.heap.size) (hps:ps.size=1)
  (hIdx:∀(s:Str) (w:World),Calls Tryz.prog 226 #[.string ⟨s.toArray⟩,.string ⟨#[47]⟩] w (fun e w'=>e=.returned (.int .i64 (Lib.indexByte s 47))/\w'=w))
  (hg:a.eval g=.func (.func 285) #[] #[.pointer (some ⟨bp,0,none⟩),.pointer (some ⟨bs,0,none⟩),.pointer (some ⟨bv,0,none⟩)])
  (hs:w.heap[bs]?=some (.cells #[.string ⟨p.toArray⟩] 9 (0,0))) (hsp:w.heap[bp]?=some (.cells #[.string ⟨#[47]⟩] 9 (0,0))) (hsv:w.heap[bv]?=some (.cells #[.int .i64 0] 3 (0,0))) (hr:w.heap[b2]?=some (.cells #[.int .i64 0] 33 (0,0))) (hb:Below n0 w0 w)
  (a₁:Str->Act)
  (hassign:∀(l:Nat) (x:Str) (W:World) (K:Act->World->Prop),K (a₁ x) W ->
   assign.wpIn (Fence.wide.inRound l) 3 Tryz.prog (Exit.then K (fun _ _ _=>False)) { tmps:=(ps.zip #[Value.string ⟨x.toArray⟩]).foldl (fun t (p,v)=>t.setIfInBounds p v) a.tmps,defers:=[] } W)
  (hbody:∀(l:Nat) (x:Str) (W:World),W.heap[b2]?=some (.cells #[.int .i64 0] 33 (0,0))->body.wpIn (Fence.wide.inRound l) 3 Tryz.prog (AK b2 x W) (a₁ x) W)
  (hdone:∀(D:Nat) (W:World),w.heap.size<=D->(G3 [] p).all J1=true->W.heap[b2]?=some (.cells #[.int .i64 0] 33 (0,0))->W.heap[D]?=some (.deferred (some []))->Below n0 w0 W->Q .normal { a with defers:={ target:=.collected D,args:=#[] }::a.defers } W)
  (hstop:∀(D:Nat) (W:World),w.heap.size<=D->(G3 [] p).all J1=false->W.heap[b2]?=some (.cells #[.int .i64 210] 33 (0,0))->W.heap[D]?=some (.deferred (some []))->Below n0 w0 W->Code.ret.wpIn Fence.wide 5 Tryz.prog Q { a with defers:={ target:=.collected D,args:=#[] }::a.defers } W) :
  (Code.rangeFunc g ps assign body).wpIn Fence.wide 5 Tryz.prog Q a w:=by
 refine wpIn_rangeFunc ?_;intro fn hfn;obtain⟨rec,hrec⟩:∃rec:LoopState->Option Code->Loop,rec=fun st pe=>{ state:=st,pending:=pe,fn,tmps:=a.tmps,params:=ps,assign,body,defers:=w.heap.size }:=⟨_,rfl⟩
 obtain⟨W1,hW1⟩:∃W1,(w.alloc (.deferred (some []))).alloc (.loop (rec .ready none))=W1:=⟨_,rfl⟩
 have old:∀k o,w.heap[k]?=some o->W1.heap[k]?=some o:=fun k o h=>by
  have hlt:=(Array.getElem?_eq_some_iff.1 h).1;rw[<-hW1];exact (Below.heap_alloc _ _ _ (by rw[World.size_alloc];omega)).trans ((Below.heap_alloc _ _ _ hlt).trans h)
 have hL1:W1.heap[w.heap.size+1]?=some (.loop (rec .ready none)):=by
  rw[<-hW1];have:=World.alloc_heap_new (w.alloc (.deferred (some []))) (.loop (rec .ready none));rwa[World.size_alloc]at this
 have hK1:W1.heap[w.heap.size]?=some (.deferred (some [])):=by
  rw[<-hW1];exact (Below.heap_alloc _ _ _ (by simp)).trans (World.alloc_heap_new w _)
 have hb1:Below n0 w0 W1:=by
  rw[<-hW1];exact hb.trans (((Below.refl n0 w).alloc hlt.2.2 _).alloc (by simp;omega) _)
 refine⟨w.heap.size+1,[{ target:=.collected w.heap.size,args:=#[] }],W1,{ target:=.fn (.func 285) #[.pointer (some ⟨bp,0,none⟩),.pointer (some ⟨bs,0,none⟩),.pointer (some ⟨bv,0,none⟩)],args:=#[.func (.yield (w.heap.size+1)) #[] #[]] },W1,285,
  #[.func (.yield (w.heap.size+1)) #[] #[],.pointer (some ⟨bp,0,none⟩),.pointer (some ⟨bs,0,none⟩),.pointer (some ⟨bv,0,none⟩)],W1,?_,?_,?_,?_,fun _=>by omega,?_⟩
 ·rw[<-hW1,hrec];exact run_enterLoop_outer _ _ _ _ _
 ·simp only[resolve,hg];simp[go_sem]
 ·intro f' hf';trivial
 ·simp[invoke,go_sem]
 ·have hY:∀rest x W,RInv rec n0 w0 (w.heap.size+1) w.heap.size b2 bs bp bv rest W->YieldAt Fence.wide 3 Tryz.prog (w.heap.size+1) #[.string ⟨x.toArray⟩] W (fun e W'=>(J1 x=true/\e=.returned (.bool true)/\RInv rec n0 w0 (w.heap.size+1) w.heap.size b2 bs bp bv rest W')\/(J1 x=false/\e=.returned (.bool false)/\RFin rec n0 w0 (w.heap.size+1) w.heap.size b2 W')):=by
   intro rest x W hI;have hy:=run_yield (P:=Tryz.prog) (args:=#[Value.string ⟨x.toArray⟩]) hI.l (by rw[hrec];exact hps.symm);rw[hrec]at hy;refine⟨fn,_,assign,body,hy,roundIn_of_wpIn hfn (hassign _ x W _ ⟨_,run_beginRound hI.l (by rw[hrec]),?_⟩)⟩;have hltl:w.heap.size+1<W.heap.size:=(Array.getElem?_eq_some_iff.1 hI.l).1;obtain⟨W2,hW2⟩:∃W2,W.putObj (w.heap.size+1) (.loop { rec .ready none with state:=.busy })=W2:=⟨_,rfl⟩
   rw[hW2];have oth:∀k,k≠w.heap.size+1->W2.heap[k]?=W.heap[k]?:=fun k hk=>by rw[<-hW2];exact World.putObj_heap_other hk
   have hl2:W2.heap[w.heap.size+1]?=some (.loop { rec .ready none with state:=.busy }):=by rw[<-hW2];exact World.putObj_heap_same hltl
   have hbB:∀(o:Obj) (X:World),Below n0 w0 X->w.heap.size+1<X.heap.size->Below n0 w0 (X.putObj (w.heap.size+1) o):=fun o X hX hXs=>hX.grown (grownBy_putObj' X _ o) (by have:=hX.size;omega) (fun k e=>by cases e;omega);have hb2:Below n0 w0 W2:=by rw[<-hW2];exact hbB _ _ hI.b hltl
   refine wpIn_mono (hbody _ x W2 ((oth _ (by omega)).trans hI.r)) ?_;rintro e a3 W3 hp;cases e with
   | normal =>
    obtain⟨hok,rfl⟩:=hp;refine⟨_,_,run_endRound none hl2,.inl ⟨hok,rfl,?_⟩⟩;have fin:∀k,k≠w.heap.size+1->(W3.putObj (w.heap.size+1) (.loop { rec .ready none with state:=.ready,pending:=none })).heap[k]?=W.heap[k]?:=fun k hk=>(World.putObj_heap_other hk).trans (oth k hk);have hsz:w.heap.size+1<W3.heap.size:=(Array.getElem?_eq_some_iff.1 hl2).1;have hbs:=(Array.getElem?_eq_some_iff.1 hs).1;have hbp:=(Array.getElem?_eq_some_iff.1 hsp).1;have hbv:=(Array.getElem?_eq_some_iff.1 hsv).1;refine⟨(fin _ (by omega)).trans hI.s,(fin _ (by omega)).trans hI.p,(fin _ (by omega)).trans hI.v,(fin _ (by omega)).trans hI.r,?_,(fin _ (by omega)).trans hI.d,hbB _ _ hb2 hsz⟩;refine (World.putObj_heap_same hsz).trans ?_;rw[hrec];rfl
   | ret =>
    obtain⟨hok,rfl⟩:=hp;have hl3:(W2.setCell ⟨b2,0,none⟩ (.int .i64 210)).heap[w.heap.size+1]?=some (.loop { rec .ready none with state:=.busy }):=(Below.heap_setCell W2 _ _ _ (by show w.heap.size+1≠b2;omega)).trans hl2;have hsz:w.heap.size+1<(W2.setCell ⟨b2,0,none⟩ (.int .i64 210)).heap.size:=(Array.getElem?_eq_some_iff.1 hl3).1;refine⟨_,_,run_endRound (some .ret) hl3,.inr ⟨hok,rfl,?_⟩⟩;refine⟨(World.putObj_heap_other (by omega)).trans (U5 ((oth _ (by omega)).trans hI.r)),?_,?_,hbB _ _ (hb2.setCell (p:=⟨b2,0,none⟩) hne.2.2.2.2 _) hsz⟩
    ·refine (World.putObj_heap_same hsz).trans ?_;rw[hrec];rfl
    ·exact (World.putObj_heap_other (by omega)).trans ((Below.heap_setCell W2 _ _ _ (by show w.heap.size≠b2;omega)).trans ((oth _ (by omega)).trans hI.d))
   | _=>exact hp.elim
  refine (pU ⟨hne.1,hne.2.1,hne.2.2.1,by omega,by omega,hne.2.2.2.1⟩ hIdx hY p hp W1 ⟨old _ _ hs,old _ _ hsp,old _ _ hsv,old _ _ hr,hL1,hK1,hb1⟩).mono ?_;have hbE:∀(o:Obj) (X:World),Below n0 w0 X->w.heap.size+1<X.heap.size->Below n0 w0 (X.putObj (w.heap.size+1) o):=fun o X hX hXs=>hX.grown (grownBy_putObj' X _ o) (by have:=hX.size;omega) (fun k e=>by cases e;omega);rintro e W2 ⟨⟨v,rfl⟩,(⟨hall,rest,hI⟩ | ⟨hall,hI⟩)⟩
  ·have hsz:w.heap.size+1<W2.heap.size:=(Array.getElem?_eq_some_iff.1 hI.l).1;refine⟨none,_,by have:=run_endLoop (P:=Tryz.prog) hI.l (by rw[hrec];simp);rw[hrec]at this;exact this,?_⟩;exact hdone _ _ (Nat.le_refl _) hall ((World.putObj_heap_other (by omega)).trans hI.r) ((World.putObj_heap_other (by omega)).trans hI.d) (hbE _ _ hI.b hsz)
  ·have hsz:w.heap.size+1<W2.heap.size:=(Array.getElem?_eq_some_iff.1 hI.l).1;refine⟨some .ret,_,by have:=run_endLoop (P:=Tryz.prog) hI.l (by rw[hrec];simp);rw[hrec]at this;exact this,?_⟩;exact hstop _ _ (Nat.le_refl _) hall ((World.putObj_heap_other (by omega)).trans hI.r) ((World.putObj_heap_other (by omega)).trans hI.d) (hbE _ _ hI.b hsz)
theorem pW(w:World)(s p:ByteArray):CallsIn Fence.wide 3 Tryz.prog 227 #[.string s,.string p,.int .i64 0] w fun e w' =>
  e=.returned (.func (.func 285) #[] #[.pointer (some ⟨w.heap.size+1,0,none⟩),.pointer (some ⟨w.heap.size,0,none⟩),.pointer (some ⟨w.heap.size+1+1,0,none⟩)]) /\
  w'=((w.alloc (.cells #[.string s] 9)).alloc (.cells #[.string p] 9)).alloc (.cells #[.int .i64 0] 3):=by
 have hmf:∀(fn:Fn) (first cap:Array Value) (w:World),(Instr.makeFunc fn first cap).run Tryz.prog w=.ok (.func fn first cap) w:=fun _ _ _ _=>rfl;refine callsIn_of_wp Tryz.func227 rfl trivial ?_ rfl;simp only[Tryz.ntmps227,List.size_toArray,HU,IM,Nat.reduceAdd,Nat.reduceSub,Array.replicate_succ,Array.replicate_zero,List.push_toArray,List.append_toArray,JA,IR]
 gi_wp2
 go_ret
 exact⟨rfl,rfl⟩
theorem pX(w:World)(s p:ByteArray):CallsIn Fence.wide 4 Tryz.prog 166 #[.string s,.string p] w fun e w' =>
  e=.returned (.func (.func 285) #[] #[.pointer (some ⟨w.heap.size+1,0,none⟩),.pointer (some ⟨w.heap.size,0,none⟩),.pointer (some ⟨w.heap.size+1+1,0,none⟩)]) /\
  w'=((w.alloc (.cells #[.string s] 9)).alloc (.cells #[.string p] 9)).alloc (.cells #[.int .i64 0] 3):=by
 refine callsIn_of_wp Tryz.func166 rfl trivial ?_ rfl;simp only[Tryz.ntmps166,List.size_toArray,HU,IM,Nat.reduceAdd,Nat.reduceSub,Array.replicate_succ,Array.replicate_zero,List.push_toArray,List.append_toArray,JA,IR]
 gi_wp2_with (refine⟨trivial,?_⟩;gi_at_call 227;refine (pW _ _ _).mono ?_;rintro e w' ⟨rfl,rfl⟩)
 go_ret
 exact⟨rfl,rfl⟩
theorem dM{tmps:Array Value}{b:Nat}{v:Value}{W:World}(ht:tmps[2]?.getD undef=.pointer (some ⟨b,0,none⟩))(hc:W.heap[b]?=some (.cells #[v] 33 (0,0))):(results Tryz.f117 tmps).run Tryz.prog W=.ok v W:=by
 have h1:=(O7 hc).1;simp[results,Tryz.results117,go_sem,h1,ht]
theorem nI(p:Str)(hp:p.length<=1073741824)
  (hIdx:∀(s:Str) (w:World),Calls Tryz.prog 226 #[.string ⟨s.toArray⟩,.string ⟨#[47]⟩] w (fun e w'=>e=.returned (.int .i64 (Lib.indexByte s 47))/\w'=w))
  (hCon:∀(s:Str) (w:World),Calls Tryz.prog 165 #[.string ⟨s.toArray⟩,.string ⟨#[0]⟩] w (fun e w'=>e=.returned (.bool (decide (0<=Lib.indexByte s 0)))/\w'=w)) (w:World) :
  CallsIn Fence.wide 5 Tryz.prog 117 #[.string ⟨p.toArray⟩] w (fun e w'=>e=.returned (.int .i64 (if p.length>200\/0<=Lib.indexByte p 0 then 210 else if (G3 [] p).all J1=true then 0 else 210))/\Below w.heap.size w w'):=by
 refine callsIn_of_wp_marks Tryz.func117 rfl trivial ?_ rfl;simp only[Tryz.ntmps117,List.size_toArray,HU,IM,Nat.reduceAdd,Nat.reduceSub,Array.replicate_succ,Array.replicate_zero,List.push_toArray,List.append_toArray,JA,IR];have hnew:=O7 (World.alloc_heap_new w (.cells #[.int .i64 0] 33));have hB:Below w.heap.size w (w.alloc (.cells #[.int .i64 0] 33)):=(Below.refl _ w).alloc (Nat.le_refl _) _;by_cases h1:200<p.length
 ·rw[A4 (.inl h1)]
  gi_wp2_with (refine⟨trivial,?_⟩)
  exact⟨_,dM rfl (World.alloc_heap_new w _),rfl,(Below.refl _ w).alloc (Nat.le_refl _) _⟩
 by_cases h2:0<=Lib.indexByte p 0
 ·rw[A4 (.inr h2)]
  gi_wp2_with (refine⟨trivial,?_⟩;gi_at_call 165;refine (callsIn_wide.2 (hCon p _)).mono ?_;rintro e w' ⟨rfl,rfl⟩)
  exact⟨_,dM rfl (World.alloc_heap_new w _),rfl,(Below.refl _ w).alloc (Nat.le_refl _) _⟩
 ·rw[A5 (by omega)];obtain⟨r,hr0⟩:∃r:Int,(if (G3 [] p).all J1=true then 0 else 210:Int)=r:=⟨_,rfl⟩
  rw[hr0]
  gi_wp2_with (first | (refine⟨trivial,?_⟩;gi_at_call 165;refine (callsIn_wide.2 (hCon p _)).mono ?_;rintro e w' ⟨rfl,rfl⟩) | (refine⟨trivial,?_⟩;gi_at_call 166;refine (pX _ _ _).mono ?_;rintro e w' ⟨rfl,rfl⟩))
  obtain⟨W0,hW0⟩:∃W0,(((w.alloc (.cells #[.int .i64 0] 33)).alloc (.cells #[.string ⟨p.toArray⟩] 9)).alloc (.cells #[.string ⟨#[47]⟩] 9)).alloc (.cells #[.int .i64 0] 3)=W0:=⟨_,rfl⟩
  have hsz:W0.heap.size=w.heap.size+4:=by rw[<-hW0];simp
  have g0:W0.heap[w.heap.size]?=some (.cells #[.int .i64 0] 33 (0,0)):=by
   rw[<-hW0];refine (Below.heap_alloc _ _ _ (by simp;omega)).trans ((Below.heap_alloc _ _ _ (by simp;omega)).trans ((Below.heap_alloc _ _ _ (by simp)).trans (World.alloc_heap_new w _)))
  have g1:W0.heap[w.heap.size+1]?=some (.cells #[.string ⟨p.toArray⟩] 9 (0,0)):=by
   rw[<-hW0];refine (Below.heap_alloc _ _ _ (by simp)).trans ((Below.heap_alloc _ _ _ (by simp)).trans ?_);have:=World.alloc_heap_new (w.alloc (.cells #[.int .i64 0] 33)) (.cells #[.string ⟨p.toArray⟩] 9)
   rwa[World.size_alloc]at this
  have g2:W0.heap[w.heap.size+1+1]?=some (.cells #[.string ⟨#[47]⟩] 9 (0,0)):=by
   rw[<-hW0];refine (Below.heap_alloc _ _ _ (by simp)).trans ?_;have:=World.alloc_heap_new ((w.alloc (.cells #[.int .i64 0] 33)).alloc (.cells #[.string ⟨p.toArray⟩] 9)) (.cells #[.string ⟨#[47]⟩] 9);simp only[World.size_alloc]at this;exact this
  have g3:W0.heap[w.heap.size+1+1+1]?=some (.cells #[.int .i64 0] 3 (0,0)):=by
   rw[<-hW0];have:=World.alloc_heap_new (((w.alloc (.cells #[.int .i64 0] 33)).alloc (.cells #[.string ⟨p.toArray⟩] 9)).alloc (.cells #[.string ⟨#[47]⟩] 9)) (.cells #[.int .i64 0] 3);simp only[World.size_alloc]at this;exact this
  have hb0:Below w.heap.size w W0:=by
   rw[<-hW0];exact (((hB.alloc (by simp) _).alloc (by simp;omega) _).alloc (by simp;omega) _)
  rw[hW0];refine pV (b2:=w.heap.size) (bs:=w.heap.size+1) (bp:=w.heap.size+1+1) (bv:=w.heap.size+1+1+1) (n0:=w.heap.size) (w0:=w) (p:=p) hp (by omega) (by omega) rfl hIdx rfl g1 g2 g3 g0 hb0 (fun x=>{ tmps:=#[.string ⟨p.toArray⟩,undef,.pointer (some ⟨w.heap.size,0,none⟩),.string ⟨x.toArray⟩,.string ⟨p.toArray⟩,.int .i64 p.length,.bool (decide (200<(p.length:Int))),.bool (decide (200<(p.length:Int))),.string ⟨p.toArray⟩,.bool (decide (0<=Lib.indexByte p 0)),.bool (decide (200<(p.length:Int))||decide (0<=Lib.indexByte p 0)),.string ⟨p.toArray⟩,.func (.func 285) #[] #[.pointer (some ⟨w.heap.size+1+1,0,none⟩),.pointer (some ⟨w.heap.size+1,0,none⟩),.pointer (some ⟨w.heap.size+1+1+1,0,none⟩)],.string ⟨x.toArray⟩,undef,undef,undef,undef,undef,undef,undef,undef,undef,undef],defers:=[] }) ?assign ?body ?done ?stop
  case assign =>
   intro l x W K hK
   gi_wp2
   exact hK
  case body =>
   intro l x W hr;obtain⟨hc1,hc2⟩:=O7 hr;by_cases e1:x=[]
   ·subst e1
    gi_wp2
    exact⟨rfl,rfl⟩
   by_cases e2:x=[46]
   ·subst e2
    gi_wp2
    exact⟨rfl,rfl⟩
   by_cases e3:x=[46,46]
   ·subst e3
    gi_wp2
    exact⟨rfl,rfl⟩
   have f1:x.isEmpty=false:=by cases x with | nil=>exact absurd rfl e1 | cons _ _=>rfl
   have f2:(x == [46])=false:=by simpa using e2
   have f3:(x == [46,46])=false:=by simpa using e3
   have hok:J1 x=true:=A2 ⟨e1,e2,e3⟩;clear e1 e2 e3
   gi_wp2
   all_goals exact⟨hok,rfl⟩
  case done =>
   intro D W hD hall hr hK hb;obtain⟨hc1,hc2⟩:=O7 hr;rw[A4 hall]at hr0;subst hr0;clear hall
   gi_wp2
   have hK2:(W.setCell ⟨w.heap.size,0,none⟩ (.int .i64 0)).heap[D]?=some (.deferred (some [])):=(Below.heap_setCell W _ _ _ (by show D≠w.heap.size;omega)).trans hK;refine⟨by simp,.inl ⟨_,_,rfl,run_takeDeferred hK2,?_⟩⟩;refine⟨_,dM rfl ((World.putObj_heap_other (by omega)).trans (U5 hr)),rfl,?_⟩;have hb3:=hb.setCell (p:=⟨w.heap.size,0,none⟩) (Nat.le_refl _) (.int .i64 0);exact hb3.grown (grownBy_putObj' _ _ _) (by have:=hb3.size;omega) (fun k e=>by cases e;omega)
  case stop =>
   intro D W hD hall hr hK hb;rw[hall,A5 (by decide)]at hr0;subst hr0;clear hall
   gi_wp2
   refine⟨by simp,.inl ⟨_,_,rfl,run_takeDeferred hK,?_⟩⟩;refine⟨_,dM rfl ((World.putObj_heap_other (by omega)).trans hr),rfl,?_⟩;exact hb.grown (grownBy_putObj' W _ _) (by have:=hb.size;omega) (fun k e=>by cases e;omega)
theorem kN(p:Str)(b:p.length<=1073741824):FnOk Tryz.prog 117 [F9 p] (fun c=>c=[D0 (H8 p)]) :=
 HF (xs:=[.string ⟨p.toArray⟩]) ⟨_,rfl,rfl,rfl⟩ rfl fun w d=>by
  have h:=callsIn_wide.1 (nI p b (fun s w=>by simpa using Tryz.strings_Index_one ⟨s.toArray⟩ 47 w) (fun s w=>by simpa using Tryz.strings_Contains_one ⟨s.toArray⟩ 0 w) w);refine h.mono ?_;rintro e w' ⟨rfl,hb⟩;refine⟨?_,hb⟩;rw[nS];have a:p.contains 0=true↔0<=Lib.indexByte p 0:=by rw[kQ,List.contains_iff_mem]
  simp only[a]
set_option maxHeartbeats 1000000
structure FewF (l:List File):Prop where
 len:l.length<=1073741824
 path:∀f∈l,f.Path.length<=1073741824
 blob:∀f∈l,f.Blob.length<=16777216
theorem sO(f:File)(a:f.Path.length<=1073741824):FnOk Tryz.prog 116 [uL f] (fun rs=>rs=[G1 (decide (H8 f.Path≠0))]):=by
 refine FnOk.intro Tryz.func116 (by decide) Z Z Z Z ?_;refine k2 ?_;refine A7 (E1 (bC 1 Z Z Z) Z (A6 (A9 Z Z) Z (B0 ?_)));refine k1 (k2 ?_);refine A7 (A6 (B3 Z) Z (A6 (B8 Z Z Z) Z (C9 (kN f.Path a) Z Z Z ?_)));rintro _ rfl;refine A6 (L8 Z Z) Z (A6 (A9 Z Z) Z (B0 ?_));refine k1 (I2 ?_);exact B4 (G8 rfl rfl rfl) rfl
theorem sP(f:File)(a:f.Blob.length<=16777216):FnOk Tryz.prog 119 [uL f] (fun rs=>rs=[G1 (decide (L1 f.Blob≠0))]):=by
 refine FnOk.intro Tryz.func119 (by decide) Z Z Z Z ?_;refine k2 ?_;refine A7 (E1 (bC 1 Z Z Z) Z (A6 (A9 Z Z) Z (B0 ?_)));refine k1 (k2 ?_);refine A7 (A6 (B3 Z) Z (A6 (B8 Z Z Z) Z (C9 (lS f.Blob (by omega)) Z Z Z ?_)));rintro _ rfl;refine A6 (L8 Z Z) Z (A6 (A9 Z Z) Z (B0 ?_));refine k1 (I2 ?_);exact B4 (G8 rfl rfl rfl) rfl
theorem sQ(l:List File)(h:FewF l):FnOk Tryz.prog 73 [jD l] (fun rs=>rs=[D0 (E7 l)]):=by
 have d:=h.len;refine FnOk.intro Tryz.func73 (by decide) Z Z Z Z ?_;refine k2 ?_;refine A7 (A6 (A9 Z Z) Z (B0 ?_));refine k1 (k2 (k3 (k2 ?_)));refine A7 (A6 (A8 Z Z) Z (A6 (F3 Z (.pure _ _ _ _)) Z (A6 (N1 Z Z) Z (A6 (A9 Z Z) Z (B0 ?_)))));refine k1 ?_;refine B2 rfl (fun a=>?_) (fun a=>?_)
 ·have i:(200:Int)<l.length:=A0 a;refine k2 ?_;refine A7 (A6 (A9 Z Z) Z (B0 ?_));refine k1 (I2 (N8 (H9 ?_)));exact B4 (rs:=[D0 1]) (G8 rfl rfl rfl) (by unfold E7;rw[A4 (by omega)])
 have i:¬(200:Int)<l.length:=A1 a;refine k2 ?_;refine A7 (A6 (A8 Z Z) Z (C9 (t6 116 (fun f=>decide (H8 f.Path≠0)) l d (fun f c=>sO f (h.path f c))) Z Z Z ?_));rintro _ rfl;refine A6 (A9 Z Z) Z (B0 ?_);refine k1 ?_;refine B2 rfl (fun a=>?_) (fun a=>?_)
 ·refine k2 ?_;refine A7 (A6 (A9 Z Z) Z (B0 ?_));refine k1 (I2 (N8 (H9 ?_)));exact B4 (rs:=[D0 210]) (G8 rfl rfl rfl) (by unfold E7;rw[A5 (by omega),A4 a])
 have b:=a;refine k2 ?_;refine A7 (A6 (A8 Z Z) Z (C9 (pT l d h.path) Z Z Z ?_));rintro _ rfl;refine A6 (Z4 Z) Z (A6 (A9 Z Z) Z (B0 ?_));refine k1 ?_;refine B2 rfl (fun a=>?_) (fun a=>?_)
 ·refine k2 ?_;refine A7 (A6 (A9 Z Z) Z (B0 ?_));refine k1 (I2 (N8 (H9 ?_)));exact B4 (rs:=[D0 211]) (G8 rfl rfl rfl) (by unfold E7;rw[A5 (by omega),A5 (by rw[b];decide),A4 (by simpa using a)])
 have g:H7 l=true:=by simpa using a
 refine k2 ?_;refine A7 (A6 (A8 Z Z) Z (C9 (t6 119 (fun f=>decide (L1 f.Blob≠0)) l d (fun f c=>sP f (h.blob f c))) Z Z Z ?_));rintro _ rfl;refine A6 (A9 Z Z) Z (B0 ?_);refine k1 ?_;refine B2 rfl (fun a=>?_) (fun a=>?_)
 ·refine k2 ?_;refine A7 (A6 (A9 Z Z) Z (B0 ?_));refine k1 (I2 (N8 (H9 ?_)));exact B4 (rs:=[D0 1]) (G8 rfl rfl rfl) (by unfold E7;rw[A5 (by omega),A5 (by rw[b];decide),A5 (by rw[g];decide),A4 a])
 ·refine k5 (k2 ?_);refine A7 (A6 (A9 Z Z) Z (B0 ?_));refine k1 (I2 ?_);exact B4 (rs:=[D0 0]) (G8 rfl rfl rfl) (by unfold E7;rw[A5 (by omega),A5 (by rw[b];decide),A5 (by rw[g];decide),A5 (by rw[a];decide)])
def x7(f x:File):Bool:=eP f.Path x.Path&&!above f.Path x.Path
theorem dN:∀(l:List File) (x:File),H7 (l++[x])=(H7 l&&l.all fun f=>x7 f x)
 | [],x=>rfl
 | f::r,x=>by
  rw[IR,H7,H7,dN r x,JF,List.all_cons,List.all_cons,List.all_nil];unfold x7;cases (r.all fun x=>eP f.Path x.Path&&!above f.Path x.Path)<;>cases eP f.Path x.Path<;>cases above f.Path x.Path<;>cases H7 r<;>simp
theorem nJ:∀(l:List File) (i:Nat),H7 l=true->H7 (l.take i)=true:=by
 intro l;induction l with
 | nil=>intro i h;simpa using h
 | cons f r b =>
  intro i h;cases i with
  | zero=>rfl
  | succ i =>
   unfold H7 at h;rw[HR,List.all_eq_true]at h;rw[List.take_succ_cons];unfold H7;rw[HR,List.all_eq_true];exact⟨fun x a=>h.1 x (List.mem_of_mem_take a),b i h.2⟩
theorem kO(l:List File)(h:FewF l):FnOk Tryz.prog 59 [jD l] (fun rs=>rs=[D0 (E7 l)]):=by
 have O:=h.len;refine FnOk.intro Tryz.func59 (by decide) Z Z Z Z ?_;refine k2 ?_;refine A7 (A6 (A9 Z Z) Z (B0 ?_));refine k1 (k2 (k2 ?_));refine A7 (A6 (A8 Z Z) Z (A6 (F3 Z (.pure _ _ _ _)) Z (A6 (N1 Z Z) Z (B0 ?_))));refine k1 ?_;refine B2 rfl (fun b=>?_) (fun b=>?_)
 ·have j:(200:Int)<l.length:=A0 b;refine k2 ?_;refine A7 (A6 (A9 Z Z) Z (B0 ?_));refine k1 (I2 (H9 ?_));exact B4 (rs:=[D0 1]) (G8 rfl rfl rfl) (by unfold E7;rw[A4 (by omega)])
 have j:¬(200:Int)<l.length:=A1 b;refine k5 (k1 (k2 (k2 ?_)));refine A7 (A6 (A9 Z Z) Z (B0 ?_));refine k1 (k3 ?_);refine D3 (X:=Nat) (fun i=>([(0,D9 File 2 V4 l),(3,D5 i)],[])) (fun i=>i<=l.length/\((l.take i).any fun f=>decide (H8 f.Path≠0))=false) (fun i=>l.length-i) 0 ⟨Nat.zero_le _,rfl⟩ (Sees.of ⟨B5 rfl,B5 rfl,trivial⟩ trivial) ?_;rintro i ⟨D,s⟩;dsimp only at D s ⊢;refine k2 (k2 ?_);refine A7 (A6 (A8 Z Z) Z (A6 (A8 Z Z) Z (A6 (F3 Z (.pure _ _ _ _)) Z (A6 (E9 Z Z) Z (B0 ?_)))));refine k1 ?_;refine B2 rfl (fun b=>?_) (fun b=>?_)
 ·have d:i<l.length:=by have j:=A0 b;(try dsimp only at j);omega
  obtain⟨f,w⟩:∃f,f=l[i]:=⟨_,rfl⟩
  have v:l[i]?=some f:=by rw[w];simp[d]
  have x:f∈l:=by rw[w];exact HT d
  refine k5 (k1 (k2 (k3 (k2 ?_))));refine A7 (A6 (A8 Z Z) Z (A6 (A8 Z Z) Z (A6 (B7 Z (.pure _ _ _ _) Z (by omega) v) Z (A6 (D7 Z) Z (A6 (B9 Z Z) Z (C9 (kM f.Path (h.path f x)) Z Z Z ?_))))));rintro _ rfl;refine A6 (L8 Z Z) Z (B0 ?_);refine k1 ?_;refine B2 rfl (fun b=>?_) (fun b=>?_)
  ·have m:H8 f.Path≠0:=A0 b;refine k2 ?_;refine A7 (A6 (A9 Z Z) Z (B0 ?_));refine k1 (I2 (N8 (H9 (H9 (N8 (H9 ?_))))));exact B4 (rs:=[D0 210]) (G8 rfl rfl rfl) (by unfold E7;rw[A5 (by omega),A4 (List.any_eq_true.2 ⟨f,x,A2 m⟩)])
  ·have m:¬H8 f.Path≠0:=A1 b;refine k5 (k4 (k1 ?_));refine A7 (A6 (A8 Z Z) Z (A6 (E2 Z Z (by omega)) Z (A6 (A9 Z Z) Z (B0 ?_))));refine k1 ?_;refine⟨i+1,⟨d,?_⟩,by omega,(Sees.of ⟨B5 rfl,B5 rfl,trivial⟩ trivial)⟩;rw[List.take_add_one,v,Option.toList_some,JL,s,Bool.false_or,List.any_cons,List.any_nil,Bool.or_false,A3 m]
 have o:i=l.length:=by have j:=A1 b;(try dsimp only at j);omega
 rw[o,HX]at s;have z:=s;have C:H7 l=false->[D0 211]=[D0 (E7 l)]:=fun e=>by unfold E7;rw[A5 (by omega),A5 (by rw[z];decide),A4 e]
 refine k6 (k2 (k2 ?_));refine A7 (A6 (A9 Z Z) Z (B0 ?_));refine k1 (k3 ?_);refine D3 (X:=Nat) (fun i=>([(0,D9 File 2 V4 l),(4,D5 i)],[])) (fun i=>i<=l.length/\H7 (l.take i)=true) (fun i=>l.length-i) 0 ⟨Nat.zero_le _,rfl⟩ (Sees.of ⟨B5 rfl,B5 rfl,trivial⟩ trivial) ?_;rintro i ⟨D,G⟩;dsimp only at D G ⊢;refine k2 (k2 ?_);refine A7 (A6 (A8 Z Z) Z (A6 (A8 Z Z) Z (A6 (F3 Z (.pure _ _ _ _)) Z (A6 (E9 Z Z) Z (B0 ?_)))));refine k1 ?_;refine B2 rfl (fun b=>?_) (fun b=>?_)
 ·have d:i<l.length:=by have j:=A0 b;(try dsimp only at j);omega
  obtain⟨f,w⟩:∃f,f=l[i]:=⟨_,rfl⟩
  have v:l[i]?=some f:=by rw[w];simp[d]
  have x:f∈l:=by rw[w];exact HT d
  have I:=h.path f x;have H:H7 (l.take (i+1))=(l.take i).all fun g=>x7 g f:=by
   rw[List.take_add_one,v,Option.toList_some,dN,G,Bool.true_and]
  refine k5 (k1 (k2 (k3 (k2 ?_))));refine A7 (A6 (A9 Z Z) Z (B0 ?_));refine k1 (k3 ?_);refine D3 (X:=Nat) (fun k=>([(0,D9 File 2 V4 l),(4,D5 i),(5,D5 k)],[])) (fun k=>k<=i/\((l.take k).all fun g=>x7 g f)=true) (fun k=>i-k) 0 ⟨Nat.zero_le _,rfl⟩ (Sees.of ⟨B5 rfl,B5 rfl,B5 rfl,trivial⟩ trivial) ?_;rintro k ⟨N,q⟩;dsimp only at N q ⊢;refine k2 (k2 ?_);refine A7 (A6 (A8 Z Z) Z (A6 (A8 Z Z) Z (A6 (E9 Z Z) Z (B0 ?_))));refine k1 ?_;refine B2 rfl (fun b=>?_) (fun b=>?_)
  ·have E:k<i:=by have j:=A0 b;(try dsimp only at j);omega
   obtain⟨g,c⟩:∃g,g=l[k]:=⟨_,rfl⟩
   have B:l[k]?=some g:=by rw[c];simp[show k<l.length by omega]
   have F:g∈l.take i:=by
    rw[c];have:(l.take i)[k]'(by rw[IF];omega)=l[k]:=List.getElem_take;rw[<-this];exact HT _
   have J:=h.path g (List.mem_of_mem_take F);refine k5 (k1 (k2 (k3 (k2 ?_))));refine M6 (by kernel_rfl) (by kernel_rfl) (D6 (A8 Z Z) Z Z (D6 (A8 Z Z) Z Z (D6 (B7 Z (.pure _ _ _ _) Z (by omega) B) Z Z (D6 (D7 Z) Z Z (D6 (B9 Z Z) Z Z (D6 (A8 Z Z) Z Z (D6 (A8 Z Z) Z Z (D6 (B7 Z (.pure _ _ _ _) Z (by omega) v) Z Z (D6 (D7 Z) Z Z (D6 (B9 Z Z) Z Z (D6 (mY Z Z) Z Z (D6 (A8 Z Z) Z Z (E5 Z Z (fun c=>by rw[c];exact A8 Z Z) Z Z ?_)))))))))))));refine E5 Z Z (fun c=>by rw[c];exact A8 Z Z) Z Z ?_;refine E5 Z Z (fun c=>by have A:=c;(try simp at A);rw[c];exact B7 Z (.pure _ _ _ _) Z (by omega) B) Z Z ?_;refine E5 Z Z (fun c=>by rw[c];exact D7 Z) Z Z ?_;refine E5 Z Z (fun c=>by rw[c];exact B9 Z Z) Z Z ?_;refine E5 Z Z (fun c=>by rw[c];exact A8 Z Z) Z Z ?_;refine E5 Z Z (fun c=>by rw[c];exact A8 Z Z) Z Z ?_;refine E5 Z Z (fun c=>by have A:=c;(try simp at A);rw[c];exact B7 Z (.pure _ _ _ _) Z (by omega) v) Z Z ?_;refine E5 Z Z (fun c=>by rw[c];exact D7 Z) Z Z ?_;refine E5 Z Z (fun c=>by rw[c];exact B9 Z Z) Z Z ?_;refine E5 Z Z (fun c=>by have A:=c;(try simp at A);rw[c];exact M2 (vJ g.Path f.Path J I) Z Z) Z Z ?_;refine D6 (B6 Z (fun h=>by first | rfl | (rw[h];rfl)) (fun h=>by first | rfl | (rw[h];rfl))) Z Z ?_;refine dB ?_;refine k1 ?_;rw[yQ];refine B2 rfl (fun b=>?_) (fun b=>?_)
   ·have t:x7 g f=false:=by
     unfold x7;rw[IH,Bool.not_eq_true']at b;rcases b with m | m
     ·have m:eP g.Path f.Path=false:=m;rw[m];rfl
     ·rw[m];simp
    refine k2 ?_;refine A7 (A6 (A9 Z Z) Z (B0 ?_));refine k1 (I2 (N8 (H9 (H9 (N8 (N8 (H9 (H9 (N8 (H9 ?_))))))))));refine B4 (rs:=[D0 211]) (G8 rfl rfl rfl) (C ?_);cases A:H7 l
    ·rfl
    ·have L:=nJ l (i+1) A;rw[H,List.all_eq_true]at L;rw[L g F]at t;cases t
   ·have t:x7 g f=true:=by
     unfold x7;rw[IZ,Bool.not_eq_false']at b;have m:eP g.Path f.Path=true:=b.1;rw[m,b.2];rfl
    refine k5 (k4 (k1 ?_));refine A7 (A6 (A8 Z Z) Z (A6 (E2 Z Z (by omega)) Z (A6 (A9 Z Z) Z (B0 ?_))));refine k1 ?_;refine⟨k+1,⟨E,?_⟩,by omega,(Sees.of ⟨B5 rfl,B5 rfl,B5 rfl,trivial⟩ trivial)⟩;rw[List.take_add_one,B,Option.toList_some,JF,q,Bool.true_and,List.all_cons,List.all_nil,t];rfl
  ·have K:k=i:=by have j:=A1 b;(try dsimp only at j);omega
   rw[K]at q;refine k6 (k7 (k7 (k8 Z (k4 (k1 ?_)))));refine A7 (A6 (A8 Z Z) Z (A6 (E2 Z Z (by omega)) Z (A6 (A9 Z Z) Z (B0 ?_))));refine k1 ?_;exact⟨i+1,⟨d,by rw[H];exact q⟩,by omega,(Sees.of ⟨B5 rfl,B5 rfl,trivial⟩ trivial)⟩
 have o:i=l.length:=by have j:=A1 b;(try dsimp only at j);omega
 rw[o,HX]at G;refine k6 (k2 (k2 ?_));refine A7 (A6 (A9 Z Z) Z (B0 ?_));refine k1 (k3 ?_);refine D3 (X:=Nat) (fun i=>([(0,D9 File 2 V4 l),(6,D5 i)],[])) (fun i=>i<=l.length/\((l.take i).any fun f=>decide (L1 f.Blob≠0))=false) (fun i=>l.length-i) 0 ⟨Nat.zero_le _,rfl⟩ (Sees.of ⟨B5 rfl,B5 rfl,trivial⟩ trivial) ?_;rintro i ⟨D,s⟩;dsimp only at D s ⊢;refine k2 (k2 ?_);refine A7 (A6 (A8 Z Z) Z (A6 (A8 Z Z) Z (A6 (F3 Z (.pure _ _ _ _)) Z (A6 (E9 Z Z) Z (B0 ?_)))));refine k1 ?_;refine B2 rfl (fun b=>?_) (fun b=>?_)
 ·have d:i<l.length:=by have j:=A0 b;(try dsimp only at j);omega
  obtain⟨f,w⟩:∃f,f=l[i]:=⟨_,rfl⟩
  have v:l[i]?=some f:=by rw[w];simp[d]
  have x:f∈l:=by rw[w];exact HT d
  have M:=h.blob f x;refine k5 (k1 (k2 (k3 (k2 ?_))));refine A7 (A6 (A8 Z Z) Z (A6 (A8 Z Z) Z (A6 (B7 Z (.pure _ _ _ _) Z (by omega) v) Z (A6 (D7 Z) Z (A6 (B9 Z Z) Z (C9 (xZ f.Blob (by omega)) Z Z Z ?_))))));rintro _ rfl;refine A6 (L8 Z Z) Z (B0 ?_);refine k1 ?_;refine B2 rfl (fun b=>?_) (fun b=>?_)
  ·have m:L1 f.Blob≠0:=A0 b;refine k2 ?_;refine A7 (A6 (A9 Z Z) Z (B0 ?_));refine k1 (I2 (N8 (H9 (H9 (N8 (H9 ?_))))));exact B4 (rs:=[D0 1]) (G8 rfl rfl rfl) (by unfold E7;rw[A5 (by omega),A5 (by rw[z];decide),A5 (by rw[G];decide),A4 (List.any_eq_true.2 ⟨f,x,A2 m⟩)])
  ·have m:¬L1 f.Blob≠0:=A1 b;refine k5 (k4 (k1 ?_));refine A7 (A6 (A8 Z Z) Z (A6 (E2 Z Z (by omega)) Z (A6 (A9 Z Z) Z (B0 ?_))));refine k1 ?_;refine⟨i+1,⟨d,?_⟩,by omega,(Sees.of ⟨B5 rfl,B5 rfl,trivial⟩ trivial)⟩;rw[List.take_add_one,v,Option.toList_some,JL,s,Bool.false_or,List.any_cons,List.any_nil,Bool.or_false,A3 m]
 have o:i=l.length:=by have j:=A1 b;(try dsimp only at j);omega
 rw[o,HX]at s;refine k6 (k2 ?_);refine A7 (A6 (A9 Z Z) Z (B0 ?_));refine k1 (I2 ?_);exact B4 (rs:=[D0 0]) (G8 rfl rfl rfl) (by unfold E7;rw[A5 (by omega),A5 (by rw[z];decide),A5 (by rw[G];decide),A5 (by rw[s];decide)])
structure FewT (g:Graph):Prop where
 few:FewG g
 tree:∀c∈g,FewF c.Files
theorem FewT.files{g:Graph}(h:FewT g)(c:Nat):FewF (d7 g c):=by
 unfold d7;by_cases a:c<g.length
 ·rw[HQ a];exact h.tree _ (HT a)
 ·rw[IK (by omega)];exact⟨by simp,(fun _ h=>by cases h),(fun _ h=>by cases h)⟩
theorem j1:∀{g:List Commit} {i:Nat},(∀k,k<i->∀h:k<g.length,E7 g[k].Files=0)->P0 g=P0 (g.drop i)
 | g,0,_=>rfl
 | [],i+1,_=>by simp
 | c::r,i+1,h=>by
  have a:=h 0 (by omega) (by simp);rw[P0,A5 (by simpa using a),List.drop_succ_cons];exact j1 fun k d b=>h (k+1) (by omega) (by simpa using b)
theorem vO{g:Graph}{c:Nat}(b:c<g.length)(a:C6 g c≠[])(h:D2 (G6 g (C6 g c)) c=true):cyclic g=true:=by
 unfold cyclic;rw[List.any_eq_true];exact⟨c,IA.2 b,by rw[h,Bool.and_true];exact A2 a⟩
theorem AM(g:Graph)(h:FewT g):FnOk Tryz.prog 22 [E4 g] (fun rs=>rs=[D0 (G4 g)]):=by
 have b:=h.few.len;refine FnOk.intro Tryz.func22 (by decide) Z Z Z Z ?_;refine k2 ?_;refine A7 (A6 (A9 Z Z) Z (B0 ?_));refine k1 (k2 (k2 ?_));refine A7 (A6 (A8 Z Z) Z (A6 (F3 Z (.pure _ _ _ _)) Z (A6 (N1 Z Z) Z (B0 ?_))));refine k1 ?_;refine B2 rfl (fun f=>?_) (fun f=>?_)
 ·have m:(300:Int)<g.length:=A0 f;refine k2 ?_;refine A7 (A6 (A9 Z Z) Z (B0 ?_));refine k1 (I2 (H9 ?_));exact B4 (rs:=[D0 1]) (G8 rfl rfl rfl) (by unfold G4 P1;rw[A4 (by rw[A3 (by omega)];rfl)])
 have m:¬(300:Int)<g.length:=A1 f;refine k5 (k1 (k2 (k2 ?_)));refine A7 (A6 (A9 Z Z) Z (B0 ?_));refine k1 (k3 ?_);refine D3 (X:=Nat) (fun i=>([(0,D9 Commit 3 E6 g),(3,D5 i)],[])) (fun i=>i<=g.length/\((g.take i).any fun c=>decide (c.Parents.length>32))=false) (fun i=>g.length-i) 0 ⟨Nat.zero_le _,rfl⟩ (Sees.of ⟨B5 rfl,B5 rfl,trivial⟩ trivial) ?_;rintro i ⟨G,H⟩;dsimp only at G H ⊢;refine k2 (k2 ?_);refine A7 (A6 (A8 Z Z) Z (A6 (A8 Z Z) Z (A6 (F3 Z (.pure _ _ _ _)) Z (A6 (E9 Z Z) Z (B0 ?_)))));refine k1 ?_;refine B2 rfl (fun f=>?_) (fun f=>?_)
 ·have j:i<g.length:=by have m:=A0 f;(try dsimp only at m);omega
  obtain⟨c,q⟩:∃c,c=g[i]:=⟨_,rfl⟩
  have w:g[i]?=some c:=by rw[q];simp[j]
  have D:c∈g:=by rw[q];exact HT j
  refine k5 (k1 (k2 (k3 (k2 ?_))));refine A7 (A6 (A8 Z Z) Z (A6 (A8 Z Z) Z (A6 (B7 Z (.pure _ _ _ _) Z (by omega) w) Z (A6 (D7 Z) Z (A6 (B9 Z Z) Z (A6 (F3 Z (.pure _ _ _ _)) Z (A6 (N1 Z Z) Z (B0 ?_))))))));refine k1 ?_;refine B2 rfl (fun f=>?_) (fun f=>?_)
  ·have E:(32:Int)<c.Parents.length:=A0 f;refine k2 ?_;refine A7 (A6 (A9 Z Z) Z (B0 ?_));refine k1 (I2 (N8 (H9 (H9 (N8 (H9 ?_))))));exact B4 (rs:=[D0 1]) (G8 rfl rfl rfl) (by unfold G4 P1;rw[A4 (by rw[List.any_eq_true.2 ⟨c,D,A2 (show c.Parents.length>32 by omega)⟩];simp)])
  ·have E:¬(32:Int)<c.Parents.length:=A1 f;refine k5 (k4 (k1 ?_));refine A7 (A6 (A8 Z Z) Z (A6 (E2 Z Z (by omega)) Z (A6 (A9 Z Z) Z (B0 ?_))));refine k1 ?_;refine⟨i+1,⟨j,?_⟩,by omega,(Sees.of ⟨B5 rfl,B5 rfl,trivial⟩ trivial)⟩;rw[List.take_add_one,w,Option.toList_some,JL,H,Bool.false_or,List.any_cons,List.any_nil,Bool.or_false,A3 (show ¬c.Parents.length>32 by omega)]
 have v:i=g.length:=by have m:=A1 f;(try dsimp only at m);omega
 rw[v,HX]at H;have J:P1 g=true:=by unfold P1;rw[H,A2 (show g.length<=300 by omega)];rfl
 refine k6 (k2 (k2 ?_));refine A7 (A6 (A9 Z Z) Z (B0 ?_));refine k1 (k3 ?_);refine D3 (X:=Nat) (fun i=>([(0,D9 Commit 3 E6 g),(4,D5 i)],[])) (fun i=>i<=g.length/\((g.take i).all fun c=>c9 g.length [] c.Parents)=true) (fun i=>g.length-i) 0 ⟨Nat.zero_le _,rfl⟩ (Sees.of ⟨B5 rfl,B5 rfl,trivial⟩ trivial) ?_;rintro i ⟨G,ha⟩;dsimp only at G ha ⊢;refine k2 (k2 ?_);refine A7 (A6 (A8 Z Z) Z (A6 (A8 Z Z) Z (A6 (F3 Z (.pure _ _ _ _)) Z (A6 (E9 Z Z) Z (B0 ?_)))));refine k1 ?_;refine B2 rfl (fun f=>?_) (fun f=>?_)
 ·have j:i<g.length:=by have m:=A0 f;(try dsimp only at m);omega
  obtain⟨c,q⟩:∃c,c=g[i]:=⟨_,rfl⟩
  have w:g[i]?=some c:=by rw[q];simp[j]
  have D:c∈g:=by rw[q];exact HT j
  have Q:=h.few.pars c D;have M:c9 g.length [] c.Parents=false->[D0 230]=[D0 (G4 g)]:=fun z=>by
   have:related g=false:=by
    unfold related;rw[List.all_eq_false];exact⟨c,D,by rw[z];decide⟩
   unfold G4;rw[A5 (by rw[J];decide),A4 this]
  refine k5 (k1 (k2 (k3 (k2 ?_))));refine A7 (A6 (A9 Z Z) Z (B0 ?_));refine k1 (k3 ?_);refine D3 (X:=Nat) (fun k=>([(0,D9 Commit 3 E6 g),(4,D5 i),(5,D5 k)],[])) (fun k=>k<=c.Parents.length/\c9 g.length [] c.Parents=c9 g.length (c.Parents.take k) (c.Parents.drop k)) (fun k=>c.Parents.length-k) 0 ⟨Nat.zero_le _,rfl⟩ (Sees.of ⟨B5 rfl,B5 rfl,B5 rfl,trivial⟩ trivial) ?_;rintro k ⟨W,z⟩;dsimp only at W z ⊢;refine k2 (k2 ?_);refine A7 (A6 (A8 Z Z) Z (A6 (A8 Z Z) Z (A6 (A8 Z Z) Z (A6 (B7 Z (.pure _ _ _ _) Z (by omega) w) Z (A6 (D7 Z) Z (A6 (B9 Z Z) Z (A6 (F3 Z (.pure _ _ _ _)) Z (A6 (E9 Z Z) Z (B0 ?_)))))))));refine k1 ?_;refine B2 rfl (fun f=>?_) (fun f=>?_)
  ·have B:k<c.Parents.length:=by have m:=A0 f;(try dsimp only at m);omega
   have L:c.Parents[k]?=some c.Parents[k]:=by simp[B]
   rw[IB B]at z;obtain⟨p,Y⟩:∃p,p=c.Parents[k]:=⟨_,rfl⟩
   rw[<-Y]at L z;have T:c.Parents.take (k+1)=c.Parents.take k++[p]:=by rw[List.take_add_one,L,Option.toList_some]
   rw[c9,<-T]at z;refine k5 (k1 (k2 (k3 (k2 ?_))));refine A7 (A6 (A8 Z Z) Z (A6 (A8 Z Z) Z (A6 (B7 Z (.pure _ _ _ _) Z (by omega) w) Z (A6 (D7 Z) Z (A6 (B9 Z Z) Z (A6 (A8 Z Z) Z (A6 (B7 Z (.pure _ _ _ _) Z (by omega) L) Z (A6 (B9 Z Z) Z (A6 (A9 Z Z) Z (B0 ?_))))))))));refine k1 (k2 ?_);refine A7 (A6 (A8 Z Z) Z (A6 (E9 Z Z) Z (A6 (A8 Z Z) Z (B1 Z Z Z Z (fun b=>by rw[b];exact A8 Z Z) ?_))));refine B1 Z Z Z Z (fun b=>by rw[b];exact A8 Z Z) ?_;refine B1 Z Z Z Z (fun b=>by rw[b];exact F3 Z (.pure _ _ _ _)) ?_;refine B1 Z Z Z Z (fun b=>by rw[b];exact fN Z Z) ?_;refine A6 (B6 Z (fun h=>by first | rfl | (rw[h];rfl)) (fun h=>by first | rfl | (rw[h];rfl))) Z ?_;refine A6 (A8 Z Z) Z (B1 Z Z Z Z (fun b=>by rw[b];exact A8 Z Z) ?_);refine B1 Z Z Z Z (fun b=>by rw[b];exact A8 Z Z) ?_;refine B1 Z Z Z Z (fun b=>by have x:=b;(try simp at x);rw[b];exact B7 Z (.pure _ _ _ _) Z (by omega) w) ?_;refine B1 Z Z Z Z (fun b=>by rw[b];exact D7 Z) ?_;refine B1 Z Z Z Z (fun b=>by rw[b];exact B9 Z Z) ?_;refine B1 Z Z Z Z (fun b=>by rw[b];exact A8 Z Z) ?_;refine B1 Z Z Z Z (fun b=>by have x:=b;(try simp at x);rw[b];exact eQ Z (.pure _ _ _ _) Z (by omega) (by omega)) ?_;refine B1 Z Z Z Z (fun b=>by rw[b];exact A8 Z Z) ?_;refine B1 Z Z Z Z (fun b=>by have x:=b;(try simp at x);rw[b];exact M2 (AJ (c.Parents.take ((k:Nat):Int).toNat) p (by rw[IF];omega)) Z Z) ?_;refine A6 (B6 Z (fun h=>by first | rfl | (rw[h];rfl)) (fun h=>by first | rfl | (rw[h];rfl))) Z ?_;refine B0 ?_;refine k1 ?_;rw[HS,yQ,yQ];refine B2 rfl (fun f=>?_) (fun f=>?_)
   ·rw[IH,IH,decide_eq_true_eq,decide_eq_true_eq,decide_eq_true_eq]at f;have m:decide (0<=p/\p<(g.length:Int)/\p∉c.Parents.take k)=false:=by
     rw[decide_eq_false_iff_not];rintro⟨a1,a2,a3⟩;rcases f with (h | h) | h
     ·omega
     ·omega
     ·exact a3 h
    rw[m,Bool.false_and]at z;refine k2 ?_;refine A7 (A6 (A9 Z Z) Z (B0 ?_));refine k1 (I2 (N8 (H9 (H9 (N8 (N8 (H9 (H9 (N8 (H9 ?_))))))))));exact B4 (rs:=[D0 230]) (G8 rfl rfl rfl) (M z)
   ·rw[IZ,IZ,decide_eq_false_iff_not,decide_eq_false_iff_not,decide_eq_false_iff_not]at f;have m:decide (0<=p/\p<(g.length:Int)/\p∉c.Parents.take k)=true:=A2 ⟨by omega,by omega,f.2⟩;rw[m,Bool.true_and]at z;refine k5 (k4 (k1 ?_));refine A7 (A6 (A8 Z Z) Z (A6 (E2 Z Z (by omega)) Z (A6 (A9 Z Z) Z (B0 ?_))));refine k1 ?_;exact⟨k+1,⟨B,z⟩,by omega,(Sees.of ⟨B5 rfl,B5 rfl,B5 rfl,trivial⟩ trivial)⟩
  ·have m:k=c.Parents.length:=by have m:=A1 f;(try dsimp only at m);omega
   rw[m,List.drop_length]at z;refine k6 (k7 (k7 (k8 Z (k4 (k1 ?_)))));refine A7 (A6 (A8 Z Z) Z (A6 (E2 Z Z (by omega)) Z (A6 (A9 Z Z) Z (B0 ?_))));refine k1 ?_;refine⟨i+1,⟨j,?_⟩,by omega,(Sees.of ⟨B5 rfl,B5 rfl,trivial⟩ trivial)⟩;rw[List.take_add_one,w,Option.toList_some,JF,ha,Bool.true_and,List.all_cons,List.all_nil,Bool.and_true,z];rfl
 have v:i=g.length:=by have m:=A1 f;(try dsimp only at m);omega
 rw[v,HX]at ha;have C:related g=true:=ha;have R:G4 g=if cyclic g=true then 231 else if s6 g=true then 3 else P0 g:=by unfold G4;rw[A5 (by rw[J];decide),A5 (by rw[C];decide)]
 rw[R];refine k6 (k2 (k2 ?_));refine A7 (A6 (A9 Z Z) Z (B0 ?_));refine k1 (k3 ?_);refine D3 (X:=Nat) (fun i=>([(0,D9 Commit 3 E6 g),(7,D5 i)],[])) (fun i=>i<=g.length/\∀c,c<i->(decide (C6 g c≠[])&&D2 (G6 g (C6 g c)) c)=false) (fun i=>g.length-i) 0 ⟨Nat.zero_le _,fun c h=>by omega⟩ (Sees.of ⟨B5 rfl,B5 rfl,trivial⟩ trivial) ?_;rintro i ⟨G,K⟩;dsimp only at G K ⊢;refine k2 (k2 ?_);refine A7 (A6 (A8 Z Z) Z (A6 (A8 Z Z) Z (A6 (F3 Z (.pure _ _ _ _)) Z (A6 (E9 Z Z) Z (B0 ?_)))));refine k1 ?_;refine B2 rfl (fun f=>?_) (fun f=>?_)
 ·have j:i<g.length:=by have m:=A0 f;(try dsimp only at m);omega
  obtain⟨c,q⟩:∃c,c=g[i]:=⟨_,rfl⟩
  have w:g[i]?=some c:=by rw[q];simp[j]
  have D:c∈g:=by rw[q];exact HT j
  have Q:=h.few.pars c D;have I:C6 g i=c.Parents:=by rw[W4 j,q]
  have hpr:=(H2 C i).1;have P:c.Parents≠[]↔(0:Int)<c.Parents.length:=by
   constructor
   ·intro h;have:=List.length_pos_iff.2 h;omega
   ·intro h e;rw[e]at h;simp at h
  have U:(G6 g c.Parents)[((i:Nat):Int).toNat]?=some (D2 (G6 g c.Parents) i):=by rw[HS];exact V3 (by rw[W5];exact j)
  rw[I]at hpr;refine k5 (k1 (k2 (k3 (k2 ?_))));refine A7 (A6 (A8 Z Z) Z (A6 (A8 Z Z) Z (A6 (B7 Z (.pure _ _ _ _) Z (by omega) w) Z (A6 (D7 Z) Z (A6 (B9 Z Z) Z (A6 (F3 Z (.pure _ _ _ _)) Z (A6 (N1 Z Z) Z (A6 (A8 Z Z) Z (B1 Z Z Z Z (fun b=>by rw[b];exact A8 Z Z) ?_)))))))));refine B1 Z Z Z Z (fun b=>by rw[b];exact A8 Z Z) ?_;refine B1 Z Z Z Z (fun b=>by rw[b];exact A8 Z Z) ?_;refine B1 Z Z Z Z (fun b=>by have x:=b;(try simp at x);rw[b];exact B7 Z (.pure _ _ _ _) Z (by omega) w) ?_;refine B1 Z Z Z Z (fun b=>by rw[b];exact D7 Z) ?_;refine B1 Z Z Z Z (fun b=>by rw[b];exact B9 Z Z) ?_;refine B1 Z Z Z Z (fun b=>by have x:=b;(try simp at x);rw[b];exact M2 (vK g c.Parents h.few.len h.few.pars C hpr Q) Z Z) ?_;refine B1 Z Z Z Z (fun b=>by rw[b];exact A8 Z Z) ?_;refine B1 Z Z Z Z (fun b=>by have x:=b;(try simp at x);rw[b];exact B7 Z (.pure _ _ _ _) Z (by omega) U) ?_;refine B1 Z Z Z Z (fun b=>by rw[b];exact B9 Z Z) ?_;refine A6 (B6 Z (fun h=>by first | rfl | (rw[h];rfl)) (fun h=>by first | rfl | (rw[h];rfl))) Z ?_;refine B0 ?_;refine k1 ?_;rw[bP];refine B2 rfl (fun f=>?_) (fun f=>?_)
  ·rw[HR,decide_eq_true_eq]at f;have:=vO j (by rw[I];exact P.2 f.1) (by rw[I];exact f.2);rw[A4 this];refine k2 ?_;refine A7 (A6 (A9 Z Z) Z (B0 ?_));refine k1 (I2 (N8 (H9 (H9 (N8 (H9 ?_))))));exact B4 (rs:=[D0 231]) (G8 rfl rfl rfl) rfl
  ·refine k5 (k4 (k1 ?_));refine A7 (A6 (A8 Z Z) Z (A6 (E2 Z Z (by omega)) Z (A6 (A9 Z Z) Z (B0 ?_))));refine k1 ?_;refine⟨i+1,⟨j,fun d hd=>?_⟩,by omega,(Sees.of ⟨B5 rfl,B5 rfl,trivial⟩ trivial)⟩;by_cases e:d=i
   ·subst e;rw[I,decide_eq_decide.2 P];exact f
   ·exact K d (by omega)
 have v:i=g.length:=by have m:=A1 f;(try dsimp only at m);omega
 have O:cyclic g=false:=by
  unfold cyclic;rw[List.any_eq_false];intro c q;rw[K c (by rw[v];exact IA.1 q)];decide
 rw[O,A5 (by decide)];refine k6 (k2 (k2 ?_));refine A7 (A6 (A9 Z Z) Z (B0 ?_));refine k1 (k3 ?_);refine D3 (X:=Nat) (fun i=>([(0,D9 Commit 3 E6 g),(8,D5 i)],[])) (fun i=>i<=g.length/\((g.take i).any fun c=>decide (c.Date<0\/c.Date>2147483647))=false) (fun i=>g.length-i) 0 ⟨Nat.zero_le _,rfl⟩ (Sees.of ⟨B5 rfl,B5 rfl,trivial⟩ trivial) ?_;rintro i ⟨G,H⟩;dsimp only at G H ⊢;refine k2 (k2 ?_);refine A7 (A6 (A8 Z Z) Z (A6 (A8 Z Z) Z (A6 (F3 Z (.pure _ _ _ _)) Z (A6 (E9 Z Z) Z (B0 ?_)))));refine k1 ?_;refine B2 rfl (fun f=>?_) (fun f=>?_)
 ·have j:i<g.length:=by have m:=A0 f;(try dsimp only at m);omega
  obtain⟨c,q⟩:∃c,c=g[i]:=⟨_,rfl⟩
  have w:g[i]?=some c:=by rw[q];simp[j]
  have D:c∈g:=by rw[q];exact HT j
  refine k5 (k1 (k2 (k3 (k2 ?_))));refine A7 (A6 (A8 Z Z) Z (A6 (A8 Z Z) Z (A6 (B7 Z (.pure _ _ _ _) Z (by omega) w) Z (A6 (D7 Z) Z (A6 (B9 Z Z) Z (A6 (E9 Z Z) Z (A6 (A8 Z Z) Z (B1 Z Z Z Z (fun b=>by rw[b];exact A8 Z Z) ?_))))))));refine B1 Z Z Z Z (fun b=>by rw[b];exact A8 Z Z) ?_;refine B1 Z Z Z Z (fun b=>by have x:=b;(try simp at x);rw[b];exact B7 Z (.pure _ _ _ _) Z (by omega) w) ?_;refine B1 Z Z Z Z (fun b=>by rw[b];exact D7 Z) ?_;refine B1 Z Z Z Z (fun b=>by rw[b];exact B9 Z Z) ?_;refine B1 Z Z Z Z (fun b=>by rw[b];exact N1 Z Z) ?_;refine A6 (B6 Z (fun h=>by first | rfl | (rw[h];rfl)) (fun h=>by first | rfl | (rw[h];rfl))) Z ?_;refine B0 ?_;refine k1 ?_;refine B2 rfl (fun f=>?_) (fun f=>?_)
  ·have E:c.Date<0\/c.Date>2147483647:=A0 (or_pick.symm.trans f);have:s6 g=true:=List.any_eq_true.2 ⟨c,D,A2 E⟩;rw[A4 this];refine k2 ?_;refine A7 (A6 (A9 Z Z) Z (B0 ?_));refine k1 (I2 (N8 (H9 (H9 (N8 (H9 ?_))))));exact B4 (rs:=[D0 3]) (G8 rfl rfl rfl) rfl
  ·have E:¬(c.Date<0\/c.Date>2147483647):=A1 (or_pick.symm.trans f);refine k5 (k4 (k1 ?_));refine A7 (A6 (A8 Z Z) Z (A6 (E2 Z Z (by omega)) Z (A6 (A9 Z Z) Z (B0 ?_))));refine k1 ?_;refine⟨i+1,⟨j,?_⟩,by omega,(Sees.of ⟨B5 rfl,B5 rfl,trivial⟩ trivial)⟩;rw[List.take_add_one,w,Option.toList_some,JL,H,Bool.false_or,List.any_cons,List.any_nil,Bool.or_false,A3 E]
 have v:i=g.length:=by have m:=A1 f;(try dsimp only at m);omega
 rw[v,HX]at H;have S:s6 g=false:=H;rw[S,A5 (by decide)];refine k6 (k2 (k2 ?_));refine A7 (A6 (A9 Z Z) Z (B0 ?_));refine k1 (k3 ?_);refine D3 (X:=Nat) (fun i=>([(0,D9 Commit 3 E6 g),(9,D5 i)],[])) (fun i=>i<=g.length/\∀k,k<i->∀h:k<g.length,E7 g[k].Files=0) (fun i=>g.length-i) 0 ⟨Nat.zero_le _,fun c h=>by omega⟩ (Sees.of ⟨B5 rfl,B5 rfl,trivial⟩ trivial) ?_;rintro i ⟨G,V⟩;dsimp only at G V ⊢;have A:=j1 V;refine k2 (k2 ?_);refine A7 (A6 (A8 Z Z) Z (A6 (A8 Z Z) Z (A6 (F3 Z (.pure _ _ _ _)) Z (A6 (E9 Z Z) Z (B0 ?_)))));refine k1 ?_;refine B2 rfl (fun f=>?_) (fun f=>?_)
 ·have j:i<g.length:=by have m:=A0 f;(try dsimp only at m);omega
  obtain⟨c,q⟩:∃c,c=g[i]:=⟨_,rfl⟩
  have w:g[i]?=some c:=by rw[q];simp[j]
  have D:c∈g:=by rw[q];exact HT j
  rw[IB j,<-q,P0]at A;refine k5 (k1 (k2 (k3 (k2 ?_))));refine A7 (A6 (A8 Z Z) Z (A6 (A8 Z Z) Z (A6 (B7 Z (.pure _ _ _ _) Z (by omega) w) Z (A6 (D7 Z) Z (A6 (B9 Z Z) Z (C9 (kO c.Files (h.tree c D)) Z Z Z ?_))))));rintro _ rfl;refine A6 (A9 Z Z) Z (B0 ?_);refine k1 (k2 ?_);refine A7 (A6 (A8 Z Z) Z (A6 (L8 Z Z) Z (B0 ?_)));refine k1 ?_;refine B2 rfl (fun f=>?_) (fun f=>?_)
  ·have E:E7 c.Files≠0:=A0 f;rw[A4 E]at A;rw[A];refine k2 ?_;refine A7 (A6 (A8 Z Z) Z (A6 (A9 Z Z) Z (B0 ?_)));refine k1 (I2 (N8 (H9 (H9 (N8 (H9 ?_))))));exact B4 (rs:=[D0 (E7 c.Files)]) (G8 rfl rfl rfl) rfl
  ·have E:¬E7 c.Files≠0:=A1 f;refine k5 (k4 (k1 ?_));refine A7 (A6 (A8 Z Z) Z (A6 (E2 Z Z (by omega)) Z (A6 (A9 Z Z) Z (B0 ?_))));refine k1 ?_;refine⟨i+1,⟨j,fun k W hkl=>?_⟩,by omega,(Sees.of ⟨B5 rfl,B5 rfl,trivial⟩ trivial)⟩;by_cases e:k=i
   ·subst e;rw[<-q];exact Decidable.not_not.1 E
   ·exact V k (by omega) hkl
 have v:i=g.length:=by have m:=A1 f;(try dsimp only at m);omega
 rw[v,List.drop_length]at A;rw[A];refine k6 (k2 ?_);refine A7 (A6 (A9 Z Z) Z (B0 ?_));refine k1 (I2 ?_);exact B4 (rs:=[D0 0]) (G8 rfl rfl rfl) rfl
theorem aM(g:Graph)(h:FewT g):FnOk Tryz.prog 30 [E4 g] (fun rs=>rs=[D0 (G4 g)]):=by
 have E:=h.few.len;refine FnOk.intro Tryz.func30 (by decide) Z Z Z Z ?_;refine k2 ?_;refine A7 (A6 (A9 Z Z) Z (B0 ?_));refine k1 (k2 (k3 (k2 ?_)));refine A7 (A6 (A8 Z Z) Z (C9 (pO g h.few (by omega)) Z Z Z ?_));rintro _ rfl;refine A6 (Z4 Z) Z (A6 (A9 Z Z) Z (B0 ?_));refine k1 ?_;refine B2 rfl (fun a=>?_) (fun a=>?_)
 ·have f:P1 g=false:=by simpa using a
  refine k2 ?_;refine A7 (A6 (A9 Z Z) Z (B0 ?_));refine k1 (I2 (N8 (H9 ?_)));exact B4 (rs:=[D0 1]) (G8 rfl rfl rfl) (by unfold G4;rw[A4 f])
 have m:P1 g=true:=by simpa using a
 refine k2 ?_;refine A7 (A6 (A8 Z Z) Z (C9 (pP g h.few (by omega)) Z Z Z ?_));rintro _ rfl;refine A6 (Z4 Z) Z (A6 (A9 Z Z) Z (B0 ?_));refine k1 ?_;refine B2 rfl (fun a=>?_) (fun a=>?_)
 ·have f:related g=false:=by simpa using a
  refine k2 ?_;refine A7 (A6 (A9 Z Z) Z (B0 ?_));refine k1 (I2 (N8 (H9 ?_)));exact B4 (rs:=[D0 230]) (G8 rfl rfl rfl) (by unfold G4;rw[A5 (by rw[m];decide),A4 f])
 have d:related g=true:=by simpa using a
 have o:G4 g=if cyclic g=true then 231 else if s6 g=true then 3 else P0 g:=by unfold G4;rw[A5 (by rw[m];decide),A5 (by rw[d];decide)]
 rw[o];refine k2 ?_;refine A7 (A6 (A8 Z Z) Z (C9 (sK g h.few d) Z Z Z ?_));rintro _ ⟨D,y,rfl,z⟩;refine A6 (F3 Z (.pure _ _ _ _)) Z (A6 (A8 Z Z) Z (A6 (F3 Z (.pure _ _ _ _)) Z (A6 (E9 Z Z) Z (A6 (A9 Z Z) Z (B0 ?_)))));have n:=z.done d;have n:decide ((y.length:Int)<g.length)=cyclic g:=by rw[<-n,decide_eq_decide];omega
 refine k1 ?_;rw[n];refine B2 rfl (fun a=>?_) (fun a=>?_)
 ·rw[A4 a];refine k2 ?_;refine A7 (A6 (A9 Z Z) Z (B0 ?_));refine k1 (I2 (N8 (H9 ?_)));exact B4 (rs:=[D0 231]) (G8 rfl rfl rfl) rfl
 rw[a,A5 (by decide)];refine k2 ?_;refine A7 (A6 (A8 Z Z) Z (C9 (a8 72 (fun c=>decide (c.Date<0\/c.Date>2147483647)) g (by omega) (fun c _=>sG c)) Z Z Z ?_));rintro _ rfl;refine A6 (A9 Z Z) Z (B0 ?_);refine k1 ?_;refine B2 rfl (fun a=>?_) (fun a=>?_)
 ·have f:s6 g=true:=a;rw[A4 f];refine k2 ?_;refine A7 (A6 (A9 Z Z) Z (B0 ?_));refine k1 (I2 (N8 (H9 ?_)));exact B4 (rs:=[D0 3]) (G8 rfl rfl rfl) rfl
 have v:s6 g=false:=a;rw[v,A5 (by decide)];refine k5 (k2 (k2 ?_));refine A7 (A6 (A8 Z Z) Z (A6 (F3 Z (.pure _ _ _ _)) Z (A6 (A8 Z Z) Z (B0 ?_))));refine k1 (k3 ?_);refine D3 (X:=Nat) (fun i=>([(24,D9 Commit 3 E6 g),(25,D5 g.length),(26,D5 i)],[])) (fun i=>i<=g.length/\∀k,k<i->∀h:k<g.length,E7 g[k].Files=0) (fun i=>g.length-i) 0 ⟨Nat.zero_le _,fun c h=>by omega⟩ (Sees.of ⟨B5 rfl,B5 rfl,B5 rfl,trivial⟩ trivial) ?_;rintro i ⟨A,x⟩;dsimp only at A x ⊢;have b:=j1 x;refine k2 ?_;refine A7 (A6 (E9 Z Z) Z (B0 ?_));refine k1 (k2 ?_);refine B2 rfl (fun a=>?_) (fun a=>?_)
 ·have j:i<g.length:=by have f:=A0 a;(try dsimp only at f);omega
  obtain⟨c,q⟩:∃c,c=g[i]:=⟨_,rfl⟩
  have C:g[i]?=some c:=by rw[q];simp[j]
  have B:c∈g:=by rw[q];exact HT j
  rw[IB j,<-q,P0]at b;refine k5 (k1 (k2 (k3 (k2 ?_))));refine A7 (A6 (B7 Z (.pure _ _ _ _) Z (by omega) C) Z (A6 (K6 Z Z) Z (E1 (P2 4 Z) Z (J8 (E0 TySz.out Z Z Z Z Z Z) (B0 ?_)))));refine k1 (k2 ?_);refine A7 (A6 (B3 Z) Z (A6 (B8 Z Z Z) Z (C9 (sQ c.Files (h.tree c B)) Z Z Z ?_)));rintro _ rfl;refine A6 (A9 Z Z) Z (B0 ?_);refine k1 (k2 ?_);refine A7 (A6 (A8 Z Z) Z (A6 (L8 Z Z) Z (B0 ?_)));refine k1 ?_;refine B2 rfl (fun a=>?_) (fun a=>?_)
  ·have t:E7 c.Files≠0:=A0 a;rw[A4 t]at b;rw[b];refine k2 ?_;refine A7 (A6 (A8 Z Z) Z (A6 (A9 Z Z) Z (B0 ?_)));refine k1 (I2 (N8 (H9 (H9 (N8 (H9 ?_))))));exact B4 (rs:=[D0 (E7 c.Files)]) (G8 rfl rfl rfl) rfl
  ·have t:¬E7 c.Files≠0:=A1 a;refine k5 (k4 (k1 ?_));refine A7 (A6 (E2 Z Z (by omega)) Z (A6 (A8 Z Z) Z (B0 ?_)));refine k1 ?_;refine⟨i+1,⟨j,fun k G hkl=>?_⟩,by omega,(Sees.of ⟨B5 rfl,B5 rfl,B5 rfl,trivial⟩ trivial)⟩;by_cases e:k=i
   ·subst e;rw[<-q];exact Decidable.not_not.1 t
   ·exact x k (by omega) hkl
 have w:i=g.length:=by have f:=A1 a;(try dsimp only at f);omega
 rw[w,List.drop_length]at b;rw[b];refine k6 (k2 ?_);refine A7 (A6 (A9 Z Z) Z (B0 ?_));refine k1 (I2 ?_);exact B4 (rs:=[D0 0]) (G8 rfl rfl rfl) rfl
theorem Valid.files{g:Graph}(h:Valid g)(c:Nat):(d7 g c).length<=200:=by
 unfold d7;by_cases a:c<g.length
 ·rw[HQ a];exact (kR (h.tree _ (HT a))).2.1
 ·rw[IK (by omega)];simp
theorem Valid.trees{g:Graph}(h:Valid g)(c:Nat):∀t∈gT g c,t.length<=200:=by
 intro t a;unfold gT at a;split at a
 ·rw[List.mem_singleton.1 a];simp
 ·obtain⟨p,_,rfl⟩:=IQ.1 a;exact Valid.files h _
structure FewB (B:List (List (Str×Str))):Prop where
 len:B.length<=33
 lens:∀l∈B,l.length<=400
 strs:∀l∈B,∀x∈l,x.1.length<=16777216/\x.2.length<=16777216
def Short(g:Graph):Prop:=∀c:Nat,(d7 g c).length<=6
theorem Short.tree{g:Graph}(h:Short g){c:Nat}{t:List File}(a:t∈gT g c):t.length<=6:=by
 unfold gT at a;split at a
 ·rw[List.mem_singleton.1 a];simp
 ·obtain⟨p,_,rfl⟩:=IQ.1 a;exact h _
theorem Valid.check{g:Graph}(h:Valid g)(c:Nat):E7 (d7 g c)=0:=by
 unfold d7;by_cases a:c<g.length
 ·rw[HQ a];exact h.tree _ (HT a)
 ·rw[IK (by omega)];decide
abbrev yF(b:Bool):S1:=.one (.p (.v (.bool b)))
abbrev AN(i:Int):S1:=.one (.p (.v (.int .i64 i)))
theorem iY(k q:Nat)(o:Ob):(o.forget q).forget k=(o.forget k).forget q:=by
 cases o with
 | box l=>simp only[Ob.forget,JD];congr 1;exact List.map_congr_left fun t _=>TC.forget_comm k q t
 | tbx e l=>simp only[Ob.forget,JD];congr 1;exact List.map_congr_left fun t _=>TC.forget_comm k q t
 | tarr n m l=>simp only[Ob.forget,JD];congr 1;exact List.map_congr_left fun t _=>TC.forget_comm k q t
 | growT e n m l=>simp only[Ob.forget,JD];congr 1;exact List.map_congr_left fun t _=>TC.forget_comm k q t
 | growA e α a c b p l=>simp only[Ob.forget,JD];congr 1;exact List.map_congr_left fun t _=>TC.forget_comm k q t
 | _=>rfl
theorem gJ(k q:Nat)(ob:Obs):Obs.forget k (Obs.forget q ob)=Obs.forget q (Obs.forget k ob):=by
 simp only[Obs.forget,JD,Function.comp_def,iY k q]
end Go.Proofs.YtbflhoahmmfkmaaGreatDoor
