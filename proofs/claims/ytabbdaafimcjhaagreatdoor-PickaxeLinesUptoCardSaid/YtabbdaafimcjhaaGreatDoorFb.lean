
/- Walks of the program's functions. -/
import Derived.RangeFuncBound
import Derived.RangeFuncOwn
import Derived.OwnWalkIn
import Derived.TacticsInMore
import Derived.LoopNIn
import Derived.LoopIn
import Derived.Test.YtabbdaafimcjhaaGreatDoorFa
import Derived.Lib.Bytealg
set_option linter.all false
namespace Go.Proofs.YtabbdaafimcjhaaGreatDoor
open Go Go.RowKit Go.AL
attribute [local go_sem] Oper.semAt_some
set_option maxRecDepth 100000
set_option maxHeartbeats 4000000
theorem qJ:∀(a r b:Str),47∉a->K1 b (a++47::r)=(b++a)::K1 [] r
 | [],r,b,_=>by simp[K1]
 | x::a,r,b,h=>by
  have c:x≠47:=fun e=>h (by simp[e]);rw[B71,K1,A7 c,qJ a r _ (fun e=>h (by simp[e])),B57];rfl
theorem qK:∀(a b:Str),47∉a->K1 b a=[b++a]
 | [],b,_=>by simp[K1]
 | x::a,b,h=>by
  have c:x≠47:=fun e=>h (by simp[e]);rw[K1,A7 c,qK a _ (fun e=>h (by simp[e])),B57];rfl
theorem o3{W:World}{B:Nat}{v:Value}{t:TypeId}(h:W.heap[B]?=some (.cells #[v] t (0,0))):W.cell? ⟨B,0,none⟩=some v/\W.frozen? ⟨B,0,none⟩=false:=by
 constructor<;>simp[World.cell?,World.frozen?,h]
structure RInv (rec:LoopState->Option Code->Loop) (n0:Nat) (w0:World) (l D b2 bs bp bv:Nat) (rest:Str) (W:World):Prop where
 s:W.heap[bs]?=some (.cells #[.string ⟨rest.toArray⟩] 9 (0,0))
 p:W.heap[bp]?=some (.cells #[.string ⟨#[47]⟩] 9 (0,0))
 v:W.heap[bv]?=some (.cells #[.int .i64 0] 3 (0,0))
 r:W.heap[b2]?=some (.cells #[.int .i64 0] 27 (0,0))
 l:W.heap[l]?=some (.loop (rec .ready none))
 d:W.heap[D]?=some (.deferred (some []))
 b:Below n0 w0 W
structure RFin (rec:LoopState->Option Code->Loop) (n0:Nat) (w0:World) (l D b2:Nat) (W:World):Prop where
 r:W.heap[b2]?=some (.cells #[.int .i64 210] 27 (0,0))
 l:W.heap[l]?=some (.loop (rec .done (some .ret)))
 d:W.heap[D]?=some (.deferred (some []))
 b:Below n0 w0 W
def leftIn(a:Nat)(W:World):Nat:=match W.cell? ⟨a,0,none⟩ with | some (.string s)=>s.size | _=>0
theorem bS{W:World}{B:Nat}{v f:Value}{t:TypeId}(h:W.heap[B]?=some (.cells #[v] t (0,0))):(W.setCell ⟨B,0,none⟩ f).heap[B]?=some (.cells #[f] t (0,0)):=by
 obtain⟨d,b⟩:=Array.getElem?_eq_some_iff.1 h;show (W.heap.modify B _)[B]?=_;rw[Array.getElem?_eq_getElem (by rw[Array.size_modify];exact d),Array.getElem_modify_self,b];rfl
theorem RInv.step{rec:LoopState->Option Code->Loop}{m:Nat}{o:World}{l D e c f j:Nat}{rest:Str}{W:World}(h:RInv rec m o l D e c f j rest W)(k:c≠f/\c≠j/\c≠e/\c≠l/\c≠D/\m<=c)(r:Str) :
  RInv rec m o l D e c f j r (W.setCell ⟨c,0,none⟩ (.string ⟨r.toArray⟩)):=by
 obtain⟨q,u,w,x,y,z⟩:=k;exact⟨bS h.s,(Below.heap_setCell W _ _ _ (Ne.symm q)).trans h.p,(Below.heap_setCell W _ _ _ (Ne.symm u)).trans h.v,(Below.heap_setCell W _ _ _ (Ne.symm w)).trans h.r,(Below.heap_setCell W _ _ _ (Ne.symm x)).trans h.l,(Below.heap_setCell W _ _ _ (Ne.symm y)).trans h.d,h.b.setCell (p:=⟨c,0,none⟩) z _⟩
theorem OA{rec:LoopState->Option Code->Loop}{n0:Nat}{w0:World}{l D b2 bs bp bv:Nat}(hne:bs≠bp/\bs≠bv/\bs≠b2/\bs≠l/\bs≠D/\n0<=bs)
  (hIdx:∀(s:Str) (w:World),Calls Tryz.prog 170 #[.string ⟨s.toArray⟩,.string ⟨#[47]⟩] w (fun e w'=>e=.returned (.int .i64 (Lib.indexByte s 47))/\w'=w))
  (hY:∀rest x W,RInv rec n0 w0 l D b2 bs bp bv rest W->YieldAt Fence.wide 3 Tryz.prog l #[.string ⟨x.toArray⟩] W (fun e W'=>(W9 x=true/\e=.returned (.bool true)/\RInv rec n0 w0 l D b2 bs bp bv rest W')\/(W9 x=false/\e=.returned (.bool false)/\RFin rec n0 w0 l D b2 W')))
  (p:Str) (hp:p.length<=1073741824) (W:World) (hI:RInv rec n0 w0 l D b2 bs bp bv p W) :
  CallsIn Fence.wide 4 Tryz.prog 227 #[.func (.yield l) #[] #[],.pointer (some ⟨bp,0,none⟩),.pointer (some ⟨bs,0,none⟩),.pointer (some ⟨bv,0,none⟩)] W (fun e W'=>(∃v,e=.returned v) /\
   (((K1 [] p).all W9=true/\∃rest,RInv rec n0 w0 l D b2 bs bp bv rest W')\/((K1 [] p).all W9=false/\RFin rec n0 w0 l D b2 W'))):=by
 refine callsIn_of_wp Tryz.func227 rfl trivial ?_ rfl;simp only[Tryz.ntmps227,List.size_toArray,B49,List.length_nil,Nat.reduceAdd,Nat.reduceSub,Array.replicate_succ,Array.replicate_zero,List.push_toArray,List.append_toArray,B83,B71];have hcp:=o3 hI.p
 gi_wp2
 gi_loopw [7] (fun v wr=>∃rest:Str,rest.length<=p.length/\(K1 [] p).all W9=(K1 [] rest).all W9/\RInv rec n0 w0 l D b2 bs bp bv rest wr) (fun v wr=>leftIn bs wr)
 case atStart=>exact⟨p,Nat.le_refl _,rfl,hI⟩
 case round =>
  obtain⟨rest,hl,hall,hR⟩:=hrel;obtain⟨hs1,hs2⟩:=o3 hR.s;obtain⟨hp1,hp2⟩:=o3 hR.p;obtain⟨hv1,hv2⟩:=o3 hR.v;rcases w7 47 rest with ⟨h1,h2⟩ | ⟨x,r,h1,h2,h3⟩
  ·rw[qK _ _ h1]at hall;obtain⟨fn,tmps,assign,body,hy,hRd⟩:=hY rest rest wr hR
   gi_wp2_with (refine⟨trivial,?_⟩;gi_at_call 170;refine (callsIn_wide.2 (hIdx rest _)).mono ?_;rintro e w' ⟨rfl,rfl⟩;rw[h2])
   refine hRd.mono ?_;rintro e W' (⟨h5,rfl,h6⟩ | ⟨h5,rfl,h6⟩)
   ·gi_wp2
    go_end0
    exact⟨⟨_,rfl⟩,.inl ⟨by simp[hall,h5],rest,h6⟩⟩
   ·gi_wp2
    go_end0
    exact⟨⟨_,rfl⟩,.inr ⟨by simp[hall,h5],h6⟩⟩
  ·subst h1;rw[qJ _ _ _ h2,List.all_cons]at hall;have hxl:x.length<(x++47::r).length:=by simp
   have hex:(⟨(x++47::r).toArray⟩:ByteArray).extract 0 x.length=⟨x.toArray⟩:=by
    apply ByteArray.ext;rw[ByteArray.data_extract];simp
   have hex2:(⟨(x++47::r).toArray⟩:ByteArray).extract (x.length+1) (x.length+(r.length+1))=⟨r.toArray⟩:=by
    apply ByteArray.ext;rw[ByteArray.data_extract];simp;exact B69 B3
   obtain⟨fn,tmps,assign,body,hy,hRd⟩:=hY _ x wr hR
   gi_wp2_with (refine⟨trivial,?_⟩;gi_at_call 170;refine (callsIn_wide.2 (hIdx _ _)).mono ?_;rintro e w' ⟨rfl,rfl⟩;rw[h3])
   refine hRd.mono ?_;rintro e W' (⟨h5,rfl,h6⟩ | ⟨h5,rfl,h6⟩)
   ·obtain⟨hs3,hs4⟩:=o3 h6.s;obtain⟨hp3,hp4⟩:=o3 h6.p
    gi_wp2
    try rw[hex2]
    have h7:=h6.step hne r;refine⟨⟨r,by simp at hl;omega,by simp[hall,h5],h7⟩,?_⟩;unfold leftIn;rw[(o3 h7.s).1,hs1];show r.toArray.size<(x++47::r).toArray.size;simp;omega
   ·gi_wp2
    refine bodyPost_ret (results_none A0 _ _ _) A0 ?_;exact⟨⟨_,rfl⟩,.inr ⟨by simp[hall,h5],h6⟩⟩
def chkPost(b:Nat)(x:Str)(W:World):Exit->Act->World->Prop
 | .normal,_,W'=>W9 x=true/\W'=W
 | .ret,_,W'=>W9 x=false/\W'=W.setCell ⟨b,0,none⟩ (.int .i64 210)
 | _,_,_=>False
theorem b2y{p:Prop}(h:p:=by simp;omega):p:=h
theorem OB{ps:Array Tmp}{assign body:Code}{Q:Exit->Act->World->Prop}{a:Act}{w:World}{g:Operand}{b2 bs bp bv:Nat}{n0:Nat}{w0:World}{p:Str}(hp:p.length<=1073741824)
  (hne:bs≠bp/\bs≠bv/\bs≠b2/\n0<=bs/\n0<=b2) (hlt:bs<w.heap.size/\b2<w.heap.size/\n0<=w.heap.size) (hps:ps.size=1)
  (hIdx:∀(s:Str) (w:World),Calls Tryz.prog 170 #[.string ⟨s.toArray⟩,.string ⟨#[47]⟩] w (fun e w'=>e=.returned (.int .i64 (Lib.indexByte s 47))/\w'=w))
  (hg:a.eval g=.func (.func 227) #[] #[.pointer (some ⟨bp,0,none⟩),.pointer (some ⟨bs,0,none⟩),.pointer (some ⟨bv,0,none⟩)])
  (hs:w.heap[bs]?=some (.cells #[.string ⟨p.toArray⟩] 9 (0,0))) (hsp:w.heap[bp]?=some (.cells #[.string ⟨#[47]⟩] 9 (0,0))) (hsv:w.heap[bv]?=some (.cells #[.int .i64 0] 3 (0,0))) (hr:w.heap[b2]?=some (.cells #[.int .i64 0] 27 (0,0))) (hb:Below n0 w0 w)
  (a₁:Str->Act)
  (hassign:∀(l:Nat) (x:Str) (W:World) (K:Act->World->Prop),K (a₁ x) W ->
   assign.wpIn (Fence.wide.inRound l) 3 Tryz.prog (Exit.then K (fun _ _ _=>False)) { tmps:=(ps.zip #[Value.string ⟨x.toArray⟩]).foldl (fun t (p,v)=>t.setIfInBounds p v) a.tmps,defers:=[] } W)
  (hbody:∀(l:Nat) (x:Str) (W:World),W.heap[b2]?=some (.cells #[.int .i64 0] 27 (0,0))->body.wpIn (Fence.wide.inRound l) 3 Tryz.prog (chkPost b2 x W) (a₁ x) W)
  (hdone:∀(D:Nat) (W:World),w.heap.size<=D->(K1 [] p).all W9=true->W.heap[b2]?=some (.cells #[.int .i64 0] 27 (0,0))->W.heap[D]?=some (.deferred (some []))->Below n0 w0 W->Q .normal { a with defers:={ target:=.collected D,args:=#[] }::a.defers } W)
  (hstop:∀(D:Nat) (W:World),w.heap.size<=D->(K1 [] p).all W9=false->W.heap[b2]?=some (.cells #[.int .i64 210] 27 (0,0))->W.heap[D]?=some (.deferred (some []))->Below n0 w0 W->Code.ret.wpIn Fence.wide 5 Tryz.prog Q { a with defers:={ target:=.collected D,args:=#[] }::a.defers } W) :
  (Code.rangeFunc g ps assign body).wpIn Fence.wide 5 Tryz.prog Q a w:=by
 refine wpIn_rangeFunc ?_;intro fn hfn;obtain⟨rec,hrec⟩:∃rec:LoopState->Option Code->Loop,rec=fun st pe=>{ state:=st,pending:=pe,fn,tmps:=a.tmps,params:=ps,assign,body,defers:=w.heap.size }:=⟨_,rfl⟩
 obtain⟨W1,hW1⟩:∃W1,(w.alloc (.deferred (some []))).alloc (.loop (rec .ready none))=W1:=⟨_,rfl⟩
 have old:∀k o,w.heap[k]?=some o->W1.heap[k]?=some o:=fun k o h=>by
  have hlt:=(Array.getElem?_eq_some_iff.1 h).1;rw[<-hW1];exact (Below.heap_alloc _ _ _ (by rw[World.size_alloc];omega)).trans ((Below.heap_alloc _ _ _ hlt).trans h)
 have hL1:W1.heap[w.heap.size+1]?=some (.loop (rec .ready none)):=by
  rw[<-hW1];have:=World.alloc_heap_new (w.alloc (.deferred (some []))) (.loop (rec .ready none));rwa[World.size_alloc]at this
 have hK1:W1.heap[w.heap.size]?=some (.deferred (some [])):=by
  rw[<-hW1];exact (Below.heap_alloc _ _ _ dV).trans (World.alloc_heap_new w _)
 have hb1:Below n0 w0 W1:=by
  rw[<-hW1];exact hb.trans (((Below.refl n0 w).alloc hlt.2.2 _).alloc b2y _)
 refine⟨w.heap.size+1,[{ target:=.collected w.heap.size,args:=#[] }],W1,{ target:=.fn (.func 227) #[.pointer (some ⟨bp,0,none⟩),.pointer (some ⟨bs,0,none⟩),.pointer (some ⟨bv,0,none⟩)],args:=#[.func (.yield (w.heap.size+1)) #[] #[]] },W1,227,
  #[.func (.yield (w.heap.size+1)) #[] #[],.pointer (some ⟨bp,0,none⟩),.pointer (some ⟨bs,0,none⟩),.pointer (some ⟨bv,0,none⟩)],W1,?_,?_,?_,?_,fun _=>by omega,?_⟩
 ·rw[<-hW1,hrec];exact run_enterLoop_outer _ _ _ _ _
 ·simp only[resolve,hg];simp[go_sem]
 ·intro f' hf';trivial
 ·simp[invoke,go_sem]
 ·have hY:∀rest x W,RInv rec n0 w0 (w.heap.size+1) w.heap.size b2 bs bp bv rest W->YieldAt Fence.wide 3 Tryz.prog (w.heap.size+1) #[.string ⟨x.toArray⟩] W (fun e W'=>(W9 x=true/\e=.returned (.bool true)/\RInv rec n0 w0 (w.heap.size+1) w.heap.size b2 bs bp bv rest W')\/(W9 x=false/\e=.returned (.bool false)/\RFin rec n0 w0 (w.heap.size+1) w.heap.size b2 W')):=by
   intro rest x W hI;have hy:=run_yield (P:=Tryz.prog) (args:=#[Value.string ⟨x.toArray⟩]) hI.l (by rw[hrec];exact hps.symm);rw[hrec]at hy;refine⟨fn,_,assign,body,hy,roundIn_of_wpIn hfn (hassign _ x W _ ⟨_,run_beginRound hI.l (by rw[hrec]),?_⟩)⟩;have hltl:w.heap.size+1<W.heap.size:=(Array.getElem?_eq_some_iff.1 hI.l).1;obtain⟨W2,hW2⟩:∃W2,W.putObj (w.heap.size+1) (.loop { rec .ready none with state:=.busy })=W2:=⟨_,rfl⟩
   rw[hW2];have oth:∀k,k≠w.heap.size+1->W2.heap[k]?=W.heap[k]?:=fun k hk=>by rw[<-hW2];exact World.putObj_heap_other hk
   have hl2:W2.heap[w.heap.size+1]?=some (.loop { rec .ready none with state:=.busy }):=by rw[<-hW2];exact World.putObj_heap_same hltl
   have hbB:∀(o:Obj) (X:World),Below n0 w0 X->w.heap.size+1<X.heap.size->Below n0 w0 (X.putObj (w.heap.size+1) o):=fun o X hX hXs=>hX.grown (grownBy_putObj' X _ o) (by have:=hX.size;omega) (fun k e=>by cases e;omega);have hb2:Below n0 w0 W2:=by rw[<-hW2];exact hbB _ _ hI.b hltl
   refine wpIn_mono (hbody _ x W2 ((oth _ B3).trans hI.r)) ?_;rintro e a3 W3 hp;cases e with
   | normal =>
    obtain⟨hok,rfl⟩:=hp;refine⟨_,_,run_endRound none hl2,.inl ⟨hok,rfl,?_⟩⟩;have fin:∀k,k≠w.heap.size+1->(W3.putObj (w.heap.size+1) (.loop { rec .ready none with state:=.ready,pending:=none })).heap[k]?=W.heap[k]?:=fun k hk=>(World.putObj_heap_other hk).trans (oth k hk);have hsz:w.heap.size+1<W3.heap.size:=(Array.getElem?_eq_some_iff.1 hl2).1;have hbs:=(Array.getElem?_eq_some_iff.1 hs).1;have hbp:=(Array.getElem?_eq_some_iff.1 hsp).1;have hbv:=(Array.getElem?_eq_some_iff.1 hsv).1;refine⟨(fin _ B3).trans hI.s,(fin _ B3).trans hI.p,(fin _ B3).trans hI.v,(fin _ B3).trans hI.r,?_,(fin _ B3).trans hI.d,hbB _ _ hb2 hsz⟩;refine (World.putObj_heap_same hsz).trans ?_;rw[hrec];rfl
   | ret =>
    obtain⟨hok,rfl⟩:=hp;have hl3:(W2.setCell ⟨b2,0,none⟩ (.int .i64 210)).heap[w.heap.size+1]?=some (.loop { rec .ready none with state:=.busy }):=(Below.heap_setCell W2 _ _ _ (by show w.heap.size+1≠b2;omega)).trans hl2;have hsz:w.heap.size+1<(W2.setCell ⟨b2,0,none⟩ (.int .i64 210)).heap.size:=(Array.getElem?_eq_some_iff.1 hl3).1;refine⟨_,_,run_endRound (some .ret) hl3,.inr ⟨hok,rfl,?_⟩⟩;refine⟨(World.putObj_heap_other B3).trans (bS ((oth _ B3).trans hI.r)),?_,?_,hbB _ _ (hb2.setCell (p:=⟨b2,0,none⟩) hne.2.2.2.2 _) hsz⟩
    ·refine (World.putObj_heap_same hsz).trans ?_;rw[hrec];rfl
    ·exact (World.putObj_heap_other B3).trans ((Below.heap_setCell W2 _ _ _ (by show w.heap.size≠b2;omega)).trans ((oth _ B3).trans hI.d))
   | _=>exact hp.elim
  refine (OA ⟨hne.1,hne.2.1,hne.2.2.1,by omega,by omega,hne.2.2.2.1⟩ hIdx hY p hp W1 ⟨old _ _ hs,old _ _ hsp,old _ _ hsv,old _ _ hr,hL1,hK1,hb1⟩).mono ?_;have hbE:∀(o:Obj) (X:World),Below n0 w0 X->w.heap.size+1<X.heap.size->Below n0 w0 (X.putObj (w.heap.size+1) o):=fun o X hX hXs=>hX.grown (grownBy_putObj' X _ o) (by have:=hX.size;omega) (fun k e=>by cases e;omega);rintro e W2 ⟨⟨v,rfl⟩,(⟨hall,rest,hI⟩ | ⟨hall,hI⟩)⟩
  ·have hsz:w.heap.size+1<W2.heap.size:=(Array.getElem?_eq_some_iff.1 hI.l).1;refine⟨none,_,by have:=run_endLoop (P:=Tryz.prog) hI.l (by rw[hrec];simp);rw[hrec]at this;exact this,?_⟩;exact hdone _ _ (Nat.le_refl _) hall ((World.putObj_heap_other B3).trans hI.r) ((World.putObj_heap_other B3).trans hI.d) (hbE _ _ hI.b hsz)
  ·have hsz:w.heap.size+1<W2.heap.size:=(Array.getElem?_eq_some_iff.1 hI.l).1;refine⟨some .ret,_,by have:=run_endLoop (P:=Tryz.prog) hI.l (by rw[hrec];simp);rw[hrec]at this;exact this,?_⟩;exact hstop _ _ (Nat.le_refl _) hall ((World.putObj_heap_other B3).trans hI.r) ((World.putObj_heap_other B3).trans hI.d) (hbE _ _ hI.b hsz)
theorem OC(w:World)(s p:ByteArray):CallsIn Fence.wide 3 Tryz.prog 200 #[.string s,.string p,.int .i64 0] w fun e w' =>
  e=.returned (.func (.func 227) #[] #[.pointer (some ⟨w.heap.size+1,0,none⟩),.pointer (some ⟨w.heap.size,0,none⟩),.pointer (some ⟨w.heap.size+1+1,0,none⟩)]) /\
  w'=((w.alloc (.cells #[.string s] 9)).alloc (.cells #[.string p] 9)).alloc (.cells #[.int .i64 0] 3):=by
 have hmf:∀(fn:Fn) (first cap:Array Value) (w:World),(Instr.makeFunc fn first cap).run Tryz.prog w=.ok (.func fn first cap) w:=fun _ _ _ _=>rfl;refine callsIn_of_wp Tryz.func200 rfl trivial ?_ rfl;simp only[Tryz.ntmps200,List.size_toArray,B49,List.length_nil,Nat.reduceAdd,Nat.reduceSub,Array.replicate_succ,Array.replicate_zero,List.push_toArray,List.append_toArray,B83,B71]
 gi_wp2
 go_ret
 exact⟨rfl,rfl⟩
theorem OD(w:World)(s p:ByteArray):CallsIn Fence.wide 4 Tryz.prog 184 #[.string s,.string p] w fun e w' =>
  e=.returned (.func (.func 227) #[] #[.pointer (some ⟨w.heap.size+1,0,none⟩),.pointer (some ⟨w.heap.size,0,none⟩),.pointer (some ⟨w.heap.size+1+1,0,none⟩)]) /\
  w'=((w.alloc (.cells #[.string s] 9)).alloc (.cells #[.string p] 9)).alloc (.cells #[.int .i64 0] 3):=by
 refine callsIn_of_wp Tryz.func184 rfl trivial ?_ rfl;simp only[Tryz.ntmps184,List.size_toArray,B49,List.length_nil,Nat.reduceAdd,Nat.reduceSub,Array.replicate_succ,Array.replicate_zero,List.push_toArray,List.append_toArray,B83,B71]
 gi_wp2_with (refine⟨trivial,?_⟩;gi_at_call 200;refine (OC _ _ _).mono ?_;rintro e w' ⟨rfl,rfl⟩)
 go_ret
 exact⟨rfl,rfl⟩
theorem tJ{tmps:Array Value}{b:Nat}{v:Value}{W:World}(ht:tmps[2]?.getD undef=.pointer (some ⟨b,0,none⟩))(hc:W.heap[b]?=some (.cells #[v] 27 (0,0))):(results Tryz.f160 tmps).run Tryz.prog W=.ok v W:=by
 have h1:=(o3 hc).1;simp[results,Tryz.results160,go_sem,h1,ht]
theorem JZ(p:Str)(hp:p.length<=1073741824)
  (hIdx:∀(s:Str) (w:World),Calls Tryz.prog 170 #[.string ⟨s.toArray⟩,.string ⟨#[47]⟩] w (fun e w'=>e=.returned (.int .i64 (Lib.indexByte s 47))/\w'=w))
  (hCon:∀(s:Str) (w:World),Calls Tryz.prog 183 #[.string ⟨s.toArray⟩,.string ⟨#[0]⟩] w (fun e w'=>e=.returned (.bool (decide (0<=Lib.indexByte s 0)))/\w'=w)) (w:World) :
  CallsIn Fence.wide 5 Tryz.prog 160 #[.string ⟨p.toArray⟩] w (fun e w'=>e=.returned (.int .i64 (if p.length>200\/0<=Lib.indexByte p 0 then 210 else if (K1 [] p).all W9=true then 0 else 210))/\Below w.heap.size w w'):=by
 refine callsIn_of_wp_marks Tryz.func160 rfl trivial ?_ rfl;simp only[Tryz.ntmps160,List.size_toArray,B49,List.length_nil,Nat.reduceAdd,Nat.reduceSub,Array.replicate_succ,Array.replicate_zero,List.push_toArray,List.append_toArray,B83,B71];have hnew:=o3 (World.alloc_heap_new w (.cells #[.int .i64 0] 27));have hB:Below w.heap.size w (w.alloc (.cells #[.int .i64 0] 27)):=(Below.refl _ w).alloc (Nat.le_refl _) _;by_cases h1:200<p.length
 ·rw[A6 (.inl h1)]
  gi_wp2_with (refine⟨trivial,?_⟩)
  exact⟨_,tJ rfl (World.alloc_heap_new w _),rfl,(Below.refl _ w).alloc (Nat.le_refl _) _⟩
 by_cases h2:0<=Lib.indexByte p 0
 ·rw[A6 (.inr h2)]
  gi_wp2_with (refine⟨trivial,?_⟩;gi_at_call 183;refine (callsIn_wide.2 (hCon p _)).mono ?_;rintro e w' ⟨rfl,rfl⟩)
  exact⟨_,tJ rfl (World.alloc_heap_new w _),rfl,(Below.refl _ w).alloc (Nat.le_refl _) _⟩
 ·rw[A7 B3];obtain⟨r,hr0⟩:∃r:Int,(if (K1 [] p).all W9=true then 0 else 210:Int)=r:=⟨_,rfl⟩
  rw[hr0]
  gi_wp2_with (first | (refine⟨trivial,?_⟩;gi_at_call 183;refine (callsIn_wide.2 (hCon p _)).mono ?_;rintro e w' ⟨rfl,rfl⟩) | (refine⟨trivial,?_⟩;gi_at_call 184;refine (OD _ _ _).mono ?_;rintro e w' ⟨rfl,rfl⟩))
  obtain⟨W0,hW0⟩:∃W0,(((w.alloc (.cells #[.int .i64 0] 27)).alloc (.cells #[.string ⟨p.toArray⟩] 9)).alloc (.cells #[.string ⟨#[47]⟩] 9)).alloc (.cells #[.int .i64 0] 3)=W0:=⟨_,rfl⟩
  have hsz:W0.heap.size=w.heap.size+4:=by rw[<-hW0];simp
  have g0:W0.heap[w.heap.size]?=some (.cells #[.int .i64 0] 27 (0,0)):=by
   rw[<-hW0];refine (Below.heap_alloc _ _ _ b2y).trans ((Below.heap_alloc _ _ _ b2y).trans ((Below.heap_alloc _ _ _ dV).trans (World.alloc_heap_new w _)))
  have g1:W0.heap[w.heap.size+1]?=some (.cells #[.string ⟨p.toArray⟩] 9 (0,0)):=by
   rw[<-hW0];refine (Below.heap_alloc _ _ _ dV).trans ((Below.heap_alloc _ _ _ dV).trans ?_);have:=World.alloc_heap_new (w.alloc (.cells #[.int .i64 0] 27)) (.cells #[.string ⟨p.toArray⟩] 9)
   rwa[World.size_alloc]at this
  have g2:W0.heap[w.heap.size+1+1]?=some (.cells #[.string ⟨#[47]⟩] 9 (0,0)):=by
   rw[<-hW0];refine (Below.heap_alloc _ _ _ dV).trans ?_;have:=World.alloc_heap_new ((w.alloc (.cells #[.int .i64 0] 27)).alloc (.cells #[.string ⟨p.toArray⟩] 9)) (.cells #[.string ⟨#[47]⟩] 9);simp only[World.size_alloc]at this;exact this
  have g3:W0.heap[w.heap.size+1+1+1]?=some (.cells #[.int .i64 0] 3 (0,0)):=by
   rw[<-hW0];have:=World.alloc_heap_new (((w.alloc (.cells #[.int .i64 0] 27)).alloc (.cells #[.string ⟨p.toArray⟩] 9)).alloc (.cells #[.string ⟨#[47]⟩] 9)) (.cells #[.int .i64 0] 3);simp only[World.size_alloc]at this;exact this
  have hb0:Below w.heap.size w W0:=by
   rw[<-hW0];exact (((hB.alloc dV _).alloc b2y _).alloc b2y _)
  rw[hW0];refine OB (b2:=w.heap.size) (bs:=w.heap.size+1) (bp:=w.heap.size+1+1) (bv:=w.heap.size+1+1+1) (n0:=w.heap.size) (w0:=w) (p:=p) hp B3 B3 rfl hIdx rfl g1 g2 g3 g0 hb0 (fun x=>{ tmps:=#[.string ⟨p.toArray⟩,undef,.pointer (some ⟨w.heap.size,0,none⟩),.string ⟨x.toArray⟩,.string ⟨p.toArray⟩,.int .i64 p.length,.bool (decide (200<(p.length:Int))),.bool (decide (200<(p.length:Int))),.string ⟨p.toArray⟩,.bool (decide (0<=Lib.indexByte p 0)),.bool (decide (200<(p.length:Int))||decide (0<=Lib.indexByte p 0)),.string ⟨p.toArray⟩,.func (.func 227) #[] #[.pointer (some ⟨w.heap.size+1+1,0,none⟩),.pointer (some ⟨w.heap.size+1,0,none⟩),.pointer (some ⟨w.heap.size+1+1+1,0,none⟩)],.string ⟨x.toArray⟩,undef,undef,undef,undef,undef,undef,undef,undef,undef,undef],defers:=[] }) ?assign ?body ?done ?stop
  case assign =>
   intro l x W K hK
   gi_wp2
   exact hK
  case body =>
   intro l x W hr;obtain⟨hc1,hc2⟩:=o3 hr;by_cases e1:x=[]
   ·subst e1
    gi_wp2
    exact⟨rfl,rfl⟩
   by_cases e2:x=[46]
   ·subst e2
    gi_wp2
    exact⟨rfl,rfl⟩
   by_cases e3:x=[46,46]
   ·subst e3
    gi_wp2
    exact⟨rfl,rfl⟩
   have f1:x.isEmpty=false:=by cases x with | nil=>exact absurd rfl e1 | cons _ _=>rfl
   have f2:(x == [46])=false:=by simpa using e2
   have f3:(x == [46,46])=false:=by simpa using e3
   have hok:W9 x=true:=A4 ⟨e1,e2,e3⟩;clear e1 e2 e3
   gi_wp2
   all_goals exact⟨hok,rfl⟩
  case done =>
   intro D W hD hall hr hK hb;obtain⟨hc1,hc2⟩:=o3 hr;rw[A6 hall]at hr0;subst hr0;clear hall
   gi_wp2
   have hK2:(W.setCell ⟨w.heap.size,0,none⟩ (.int .i64 0)).heap[D]?=some (.deferred (some [])):=(Below.heap_setCell W _ _ _ (by show D≠w.heap.size;omega)).trans hK;refine⟨by simp,.inl ⟨_,_,rfl,run_takeDeferred hK2,?_⟩⟩;refine⟨_,tJ rfl ((World.putObj_heap_other B3).trans (bS hr)),rfl,?_⟩;have hb3:=hb.setCell (p:=⟨w.heap.size,0,none⟩) (Nat.le_refl _) (.int .i64 0);exact hb3.grown (grownBy_putObj' _ _ _) (by have:=hb3.size;omega) (fun k e=>by cases e;omega)
  case stop =>
   intro D W hD hall hr hK hb;rw[hall,A7 F2]at hr0;subst hr0;clear hall
   gi_wp2
   refine⟨by simp,.inl ⟨_,_,rfl,run_takeDeferred hK,?_⟩⟩;refine⟨_,tJ rfl ((World.putObj_heap_other B3).trans hr),rfl,?_⟩;exact hb.grown (grownBy_putObj' W _ _) (by have:=hb.size;omega) (fun k e=>by cases e;omega)
theorem EY(p:Str)(b:p.length<=1073741824):FnOk Tryz.prog 160 [F3 p] (fun c=>c=[D3 (aD p)]) :=
 B23 (xs:=[.string ⟨p.toArray⟩]) ⟨_,rfl,rfl,rfl⟩ rfl fun w d=>by
  have h:=callsIn_wide.1 (JZ p b (fun s w=>by simpa using Tryz.strings_Index_one ⟨s.toArray⟩ 47 w) (fun s w=>by simpa using Tryz.strings_Contains_one ⟨s.toArray⟩ 0 w) w);refine h.mono ?_;rintro e w' ⟨rfl,hb⟩;refine⟨?_,hb⟩;rw[LB];have a:p.contains 0=true↔0<=Lib.indexByte p 0:=by rw[iZ,List.contains_iff_mem]
  simp only[a]
structure FewF (l:List File):Prop where
 len:l.length<=1073741824
 path:∀f∈l,f.Path.length<=1073741824
 blob:∀f∈l,f.Blob.length<=16777216
theorem SU(f:File)(a:f.Path.length<=1073741824):FnOk Tryz.prog 159 [XP f] (fun rs=>rs=[E1 (decide (aD f.Path≠0))]):=by
 refine FnOk.intro Tryz.func159 F2 A0 A0 A0 A0 (zz 2 ?_);refine C4 (n8 1 A0 A0 A0) A0 (zz 6 ?_);refine E3 (EY f.Path a) (zz 4 ?_);exact B2 (G6 rfl rfl rfl) rfl
theorem SW(f:File)(a:f.Blob.length<=16777216):FnOk Tryz.prog 162 [XP f] (fun rs=>rs=[E1 (decide (I0 f.Blob≠0))]):=by
 refine FnOk.intro Tryz.func162 F2 A0 A0 A0 A0 (zz 2 ?_);refine C4 (n8 1 A0 A0 A0) A0 (zz 6 ?_);refine E3 (GP f.Blob B3) (zz 4 ?_);exact B2 (G6 rfl rfl rfl) rfl
theorem rL(l:List File)(h:FewF l):FnOk Tryz.prog 116 [bU l] (fun rs=>rs=[D3 (G4 l)]):=by
 have d:=h.len;refine FnOk.intro Tryz.func116 F2 A0 A0 A0 A0 ?_;refine zc 13 (fun a=>?_) fun a=>?_
 ·have g:(200:Int)<l.length:=A1 a;refine zz 5 ?_;exact B2 (rs:=[D3 1]) (G6 rfl rfl rfl) (by unfold G4;rw[A6 B3])
 have g:¬(200:Int)<l.length:=A3 a;refine zz 3 ?_;refine E3 (mF 159 (fun f=>decide (aD f.Path≠0)) l d (fun f c=>SU f (h.path f c))) ?_;refine zc 2 (fun a=>?_) fun a=>?_
 ·refine zz 5 ?_;exact B2 (rs:=[D3 210]) (G6 rfl rfl rfl) (by unfold G4;rw[A7 B3,A6 a])
 have b:=a;refine zz 3 ?_;refine E3 (NX l d h.path) ?_;refine zc 3 (fun a=>?_) fun a=>?_
 ·refine zz 5 ?_;exact B2 (rs:=[D3 211]) (G6 rfl rfl rfl) (by unfold G4;rw[A7 B3,A7 (by rw[b];decide),A6 (by simpa using a)])
 have e:q9 l=true:=by simpa using a
 refine zz 3 ?_;refine E3 (mF 162 (fun f=>decide (I0 f.Blob≠0)) l d (fun f c=>SW f (h.blob f c))) ?_;refine zc 2 (fun a=>?_) fun a=>?_
 ·refine zz 5 ?_;exact B2 (rs:=[D3 1]) (G6 rfl rfl rfl) (by unfold G4;rw[A7 B3,A7 (by rw[b];decide),A7 (by rw[e];decide),A6 a])
 ·refine zz 6 ?_;exact B2 (rs:=[D3 0]) (G6 rfl rfl rfl) (by unfold G4;rw[A7 B3,A7 (by rw[b];decide),A7 (by rw[e];decide),A7 (by rw[a];decide)])
theorem A59(a b:List File)(ha:FewF a)(hb:FewF b):FnOk Tryz.prog 163 [bU a,bU b] (fun rs=>rs=[D3 (if G4 a≠0 then G4 a else G4 b)]):=by
 refine FnOk.intro Tryz.func163 F2 A0 A0 A0 A0 (zz 8 ?_);refine E3 (rL a ha) ?_;refine zc 7 (fun d=>?_) fun d=>?_
 ·have c:G4 a≠0:=A1 d;refine zz 6 ?_;exact B2 (rs:=[D3 (G4 a)]) (G6 rfl rfl rfl) (by rw[A6 c])
 ·have c:¬G4 a≠0:=A3 d;refine zz 4 ?_;refine E3 (rL b hb) (zz 3 ?_);exact B2 (rs:=[D3 (G4 b)]) (G6 rfl rfl rfl) (by rw[A7 c])
theorem OE(l:List File)(p:Str)(q:l.length<=1073741824):FnOk Tryz.prog 79 [bU l,F3 p] (fun rs=>rs=[F3 ((L1 l p).getD []),E1 (L1 l p).isSome]):=by
 refine FnOk.intro Tryz.func79 F2 A0 A0 A0 A0 (zz 13 ?_);refine C2 (X:=Nat) (fun i=>([(1,Q6 p),(8,B8 File 2 eL l),(9,B7 l.length),(10,B7 i)],[])) (fun i=>i<=l.length/\L1 l p=L1 (l.drop i) p) (fun i=>l.length-i) 0 ⟨Nat.zero_le _,rfl⟩ (Sees.of lf lo) ?_;rintro i ⟨k,a⟩;dsimp only at k a ⊢;refine zc 5 (fun d=>?_) fun d=>?_;rotate_left
 ·have b:i=l.length:=by have b:=A3 d;(try dsimp only at b);omega
  rw[B59 B3]at a;rw[a];refine zz 7 ?_;exact B2 (rs:=[F3 [],E1 false]) (S6 rfl rfl rfl rfl rfl) rfl
 have c:i<l.length:=by have b:=A1 d;(try dsimp only at b);omega
 obtain⟨f,h⟩:∃f,f=l[i]:=⟨_,rfl⟩
 have n:l[i]?=some f:=by rw[h];simp[c]
 rw[B55 c,<-h]at a;have j:L1 (f::l.drop (i+1)) p=if f.Path=p then some f.Blob else L1 (l.drop (i+1)) p:=rfl
 rw[j]at a;refine zz 5 ?_;refine B0 (A9 A0 (.pure _ _ _ _) A0 B3 n) A0 (zz 1 ?_);refine C4 (H9 7 A0) A0 ?_;refine zc 9 (fun d=>?_) fun d=>?_
 ·have b:f.Path=p:=A1 d;rw[A6 b]at a;rw[a];refine zz 8 ?_;exact B2 (rs:=[F3 f.Blob,E1 true]) (S6 rfl rfl rfl rfl rfl) rfl
 ·have b:¬f.Path=p:=A3 d;rw[A7 b]at a;refine zz 5 ?_;exact⟨i+1,⟨c,a⟩,by omega,(Sees.of lf lo)⟩
structure FewT (g:Graph):Prop where
 few:FewG g
 tree:∀c∈g,FewF c.Files
theorem FewT.files{g:Graph}(h:FewT g)(c:Nat):FewF (R2 g c):=by
 unfold R2;by_cases a:c<g.length
 ·rw[B44 a];exact h.tree _ (B50 a)
 ·rw[B56 B3];exact⟨by simp,(fun _ h=>by cases h),(fun _ h=>by cases h)⟩
theorem qL:∀{g:List Commit} {i:Nat},(∀k,k<i->∀h:k<g.length,G4 g[k].Files=0)->o6 g=o6 (g.drop i)
 | g,0,_=>rfl
 | [],i+1,_=>by simp
 | c::r,i+1,h=>by
  have a:=h 0 B3 dV;rw[o6,A7 (by simpa using a),List.drop_succ_cons];exact qL fun k d b=>h (k+1) B3 (by simpa using b)
theorem XI(g:Graph)(h:FewT g):FnOk Tryz.prog 68 [S3 g] (fun rs=>rs=[D3 (P2 g)]):=by
 have E:=h.few.len;refine FnOk.intro Tryz.func68 F2 A0 A0 A0 A0 (zz 9 ?_);refine E3 (NS g h.few B3) ?_;refine zc 3 (fun a=>?_) fun a=>?_
 ·have f:bB g=false:=by simpa using a
  refine zz 5 ?_;exact B2 (rs:=[D3 1]) (G6 rfl rfl rfl) (by unfold P2;rw[A6 f])
 have m:bB g=true:=by simpa using a
 refine zz 3 ?_;refine E3 (NT g h.few B3) ?_;refine zc 3 (fun a=>?_) fun a=>?_
 ·have f:related g=false:=by simpa using a
  refine zz 5 ?_;exact B2 (rs:=[D3 230]) (G6 rfl rfl rfl) (by unfold P2;rw[A7 (by rw[m];decide),A6 f])
 have d:related g=true:=by simpa using a
 have o:P2 g=if cyclic g=true then 231 else if uE g=true then 3 else o6 g:=by unfold P2;rw[A7 (by rw[m];decide),A7 (by rw[d];decide)]
 rw[o];refine zz 3 ?_;refine bN (SR g h.few d) A0 A0 A0 ?_;rintro _ ⟨D,y,rfl,z⟩;refine zz 6 ?_;have n:=z.done d;have n:decide ((y.length:Int)<g.length)=cyclic g:=by rw[<-n,decide_eq_decide];omega
 refine zz 0 ?_;rw[n];refine zc 0 (fun a=>?_) fun a=>?_
 ·rw[A6 a];refine zz 5 ?_;exact B2 (rs:=[D3 231]) (G6 rfl rfl rfl) rfl
 rw[a,A7 F2];refine zz 3 ?_;refine tF (gW 115 (fun c=>decide (c.Date<0\/c.Date>2147483647)) g B3 (fun c _=>SP c)) A0 A0 A0 ?_;refine zc 2 (fun a=>?_) fun a=>?_
 ·have f:uE g=true:=a;rw[A6 f];refine zz 5 ?_;exact B2 (rs:=[D3 3]) (G6 rfl rfl rfl) rfl
 have v:uE g=false:=a;rw[v,A7 F2];refine zz 9 ?_;refine C2 (X:=Nat) (fun i=>([(24,B8 Commit 3 K5 g),(25,B7 g.length),(26,B7 i)],[])) (fun i=>i<=g.length/\∀k,k<i->∀h:k<g.length,G4 g[k].Files=0) (fun i=>g.length-i) 0 ⟨Nat.zero_le _,fun c h=>by omega⟩ (Sees.of lf lo) ?_;rintro i ⟨A,x⟩;dsimp only at A x ⊢;have b:=qL x;refine zc 5 (fun a=>?_) fun a=>?_
 ·have j:i<g.length:=by have f:=A1 a;(try dsimp only at f);omega
  obtain⟨c,q⟩:∃c,c=g[i]:=⟨_,rfl⟩
  have C:g[i]?=some c:=by rw[q];simp[j]
  have B:c∈g:=by rw[q];exact B50 j
  rw[B55 j,<-q,o6]at b;refine zz 5 ?_;refine B0 (A9 A0 (.pure _ _ _ _) A0 B3 C) A0 (zz 1 ?_);refine C4 (H9 4 A0) A0 (zz 6 ?_);refine E3 (rL c.Files (h.tree c B)) ?_;refine zc 7 (fun a=>?_) fun a=>?_
  ·have t:G4 c.Files≠0:=A1 a;rw[A6 t]at b;rw[b];refine zz 6 ?_;exact B2 (rs:=[D3 (G4 c.Files)]) (G6 rfl rfl rfl) rfl
  ·have t:¬G4 c.Files≠0:=A3 a;refine zz 5 ?_;refine⟨i+1,⟨j,fun k G hkl=>?_⟩,by omega,(Sees.of lf lo)⟩;by_cases e:k=i
   ·subst e;rw[<-q];exact Decidable.not_not.1 t
   ·exact x k B3 hkl
 have w:i=g.length:=by have f:=A3 a;(try dsimp only at f);omega
 rw[w,List.drop_length]at b;rw[b];refine zz 6 ?_;exact B2 (rs:=[D3 0]) (G6 rfl rfl rfl) rfl
theorem OF{b s:Str}{p:Nat}{a:List Int}{f:Nat}(h:fW b s f p a=o9 b s):a.length<=(o9 b s).length:=by
 have key:∀(f p:Nat) (a:List Int),a.length<=(fW b s f p a).length:=by
  intro f;induction f with
  | zero=>intro p a;exact Nat.le_refl _
  | succ f c =>
   intro p a;rw[fW];split
   ·exact Nat.le_refl _
   ·rename_i i _;have:=c (i+b.length) (a++[(i:Int)]);rw[B48]at this;omega
 rw[<-h];exact key f p a
theorem xG{w:World}(h:Grd Tryz.prog (fun _=>False) w):∃m,w.cell? ⟨0,0,none⟩=some (.int .i64 m):=by
 obtain⟨b,⟨d,_⟩,g,f⟩:=h;obtain⟨m,e⟩:=Tryz.laysM143.s1_3 b d;refine⟨m,?_⟩;have c:0<b.heap.size:=World.block_lt_of_cell? b _ e;rw[World.cell?_of_block (w:=b) (a:=⟨0,0,none⟩) (f _ c).1];exact e
theorem A60(s a:Str)(d:s.length<4294967281):FnOk Tryz.prog 170 [F3 s,F3 a] (fun rs=>rs=[D3 (Lib.index s a)]) :=
 B23 (xs:=[.string ⟨s.toArray⟩,.string ⟨a.toArray⟩]) ⟨_,rfl,rfl,rfl⟩ rfl fun w b=>by
  obtain⟨m,c⟩:=xG b;refine (Tryz.strings_Index ⟨s.toArray⟩ ⟨a.toArray⟩ m w d c).mono ?_;rintro e w' ⟨rfl,rfl⟩;exact⟨by simp,rfl,rfl,rfl,Nat.le_refl _,fun _ _=>rfl⟩
theorem OG(b s:Str)(p:Nat)(y:b.length<=1073741824)(z:s.length<=1073741824):FnOk Tryz.prog 142 [F3 b,F3 s,D3 p] (fun rs=>rs=[D3 ((d9 b s p).getD 0:Nat),E1 (d9 b s p).isSome]):=by
 refine FnOk.intro Tryz.func142 F2 A0 A0 A0 A0 ?_;refine zc 21 (fun c=>?_) fun c=>?_
 ·simp only[or_pick]at c;have h:=A1 c;have u:d9 b s p=none:=by
   unfold d9;rw[A6 (by rcases h with (h | h) | h<;>first | exact .inl h | exact absurd h B3 | exact .inr (.inl B3))]
  rw[u];refine zz 6 ?_;exact B2 (rs:=[D3 0,E1 false]) (S6 rfl rfl rfl rfl rfl) rfl
 simp only[or_pick]at c;have h:=A3 c;have q:b≠[]:=fun e=>h (.inl (.inl e));have x:p<=s.length:=by
  apply Classical.byContradiction;intro e;exact h (.inr B3)
 have w:(s.drop p).length<=s.length:=by rw[B53];omega
 have k:=Lib.index_ge (s.drop p) b;have d:=Lib.index_room (s.drop p) b;rw[B53]at d;have hnx:d9 b s p=if Lib.index (s.drop p) b<0 then none else some (p+(Lib.index (s.drop p) b).toNat):=by
  unfold d9;by_cases f:Lib.index (s.drop p) b<0
  ·rw[A6 (.inr (.inr f)),A6 f]
  ·rw[A7 (by simp only[not_or];exact⟨q,by omega,f⟩),A7 f]
 obtain⟨i,v⟩:∃i,i=Lib.index (s.drop p) b:=⟨_,rfl⟩
 refine zz 5 ?_;refine B0 (kL A0 A0 B3 B3) A0 (zz 1 ?_);refine E3 (A60 (s.drop p) b B3) (zz 2 ?_);rw[B45,<-v];rw[<-v]at hnx k d;refine zc 6 (fun c=>?_) fun c=>?_
 ·have j:i<0:=A1 c;rw[hnx,A6 j];refine zz 6 ?_;exact B2 (rs:=[D3 0,E1 false]) (S6 rfl rfl rfl rfl rfl) rfl
 ·have j:¬i<0:=A3 c;rw[hnx,A7 j];refine zz 10 ?_;refine B2 (S6 A0 A0 A0 A0 A0) ?_;dsimp only[Option.getD,Option.isSome];rw[show (p:Int)+i=((p+i.toNat:Nat):Int) by omega]
theorem EZ(d s:Str)(q:d.length<=1073741824)(A:s.length<=16777216):FnOk Tryz.prog 98 [F3 d,F3 s] (fun rs=>rs=[K8 (o9 d s)]):=by
 have z:=jB d s;refine FnOk.intro Tryz.func98 F2 A0 A0 A0 A0 (zz 6 ?_);refine C4 (O9 5 _ D2 A0) A0 (zz 5 ?_);refine E3 (OG d s 0 q B3) (zz 8 ?_);refine C2 (X:=Nat×List Int) (fun x=>([(0,Q6 d),(1,Q6 s),(5,.s (.one (.buf 5 Int 1 D2 x.2))),(6,B7 ((d9 d s x.1).getD 0:Nat)),(7,K9 (d9 d s x.1).isSome)],[(5,.spare x.2.length 1 3)])) (fun x=>x.1<=s.length/\fW d s (s.length+2-x.1) x.1 x.2=o9 d s) (fun x=>s.length+1-x.1) (0,[]) ⟨Nat.zero_le _,rfl⟩ (Sees.of lf lo) ?_;rintro⟨p,k⟩ ⟨y,h⟩;dsimp only at y h ⊢;have w:=OF h;refine zz 5 ?_;cases hnx:d9 d s p with
 | none =>
  rw[jZ hnx]at h;refine zc 0 (fun j=>?_) fun j=>?_
  ·cases j
  ·refine zz 7 ?_;exact B2 (rs:=[K8 k]) (G6 rfl rfl rfl) (by rw[h])
 | some i =>
  have l:=iH hnx;have v:0<d.length:=List.length_pos_iff.2 l.1;rw[sG B3 hnx]at h;refine zc 0 (fun j=>?_) fun j=>?_
  ·refine zz 6 ?_;refine B0 (C0 (c:=D2) (ys:=[(i:Int)]) (C3 A0 A0 A0 A0 E6) A0 A0 A0) A0 (zz 3 ?_);dsimp only[Option.getD];refine zz 7 ?_;refine bN ((show FnOk Tryz.prog 142 [F3 d,F3 s,D3 ((i:Int)+(d.length:Int))] (fun rs=>rs=[D3 ((d9 d s (i+d.length)).getD 0:Nat),E1 (d9 d s (i+d.length)).isSome]) from by rw[show (i:Int)+(d.length:Int)=((i+d.length:Nat):Int) by omega];exact OG d s (i+d.length) q B3)) A0 A0 A0 ?_;rintro _ rfl;refine zz 6 ?_;refine⟨(i+d.length,k++[(i:Int)]),⟨by dsimp only;omega,?_⟩,by dsimp only;omega,(Sees.of lf lo)⟩;dsimp only;rw[<-h];exact DP _ _ _ _ B3 B3
  ·cases j
theorem oU(nd s:Str)(a:nd.length<=1073741824)(c:s.length<=16777216):FnOk Tryz.prog 56 [F3 nd,F3 s] (fun rs=>rs=[D3 (m6 nd s)]):=by
 have b:=jB nd s;refine FnOk.intro Tryz.func56 F2 A0 A0 A0 A0 (zz 8 ?_);refine E3 (EZ nd s a c) (zz 4 ?_);exact B2 (G6 rfl rfl rfl) rfl
theorem vR{g:Graph}{c:Nat}{a:Commit}(h:g[c]?=some a):R2 g c=a.Files:=by unfold R2;rw[h];rfl
def cG(g:Graph)(ps:List Int)(i:Nat):List (List File):=(ps.take i).map fun p=>R2 g p.toNat
theorem KA{g:Graph}{ps:List Int}{i:Nat}(h:i<ps.length):cG g ps (i+1)=cG g ps i++[R2 g ps[i].toNat]:=by
 unfold cG;rw[List.take_add_one,B44 h,Option.toList_some,B77];rfl
theorem OH(g:Graph)(ps:List Int)(i:Nat):(cG g ps i).length<=i:=by
 unfold cG;rw[B68,B54];omega
theorem ZF(d c:List Str):(fQ d c).length<=d.length+c.length:=by
 have key:∀(d:List Str),∀c,(fQ d c).length<=d.length+c.length:=by
  intro d;induction d with
  | nil=>intro c;simp[fQ]
  | cons a d f =>
   intro c;rw[fQ];induction c with
   | nil=>rw[cK];have:=f [];simp only[List.length_nil,B49]at this ⊢;omega
   | cons b c i =>
    rw[cK];split
    ·have:=f (b::c);simp only[B49]at this ⊢;omega
    ·split
     ·simp only[B49]at i ⊢;omega
     ·have:=f c;simp only[B49]at this ⊢;omega
 exact key d c
theorem BH(a b:List File):(i6 a b).length<=a.length+b.length:=by
 unfold i6;have d:=List.length_filterMap_le (lJ a b) (fQ (a.map (·.Path)) (b.map (·.Path)));have c:=ZF (a.map (·.Path)) (b.map (·.Path));rw[B68,B68]at c;omega
theorem Valid.files{g:Graph}(h:Valid g)(c:Nat):(R2 g c).length<=200:=by
 unfold R2;by_cases a:c<g.length
 ·rw[B44 a];exact (cM (h.tree _ (B50 a))).2.1
 ·rw[B56 B3];simp
theorem Valid.trees{g:Graph}(h:Valid g)(c:Nat):∀t∈R3 g c,t.length<=200:=by
 intro t a;unfold R3 at a;split at a
 ·rw[List.mem_singleton.1 a];simp
 ·obtain⟨p,_,rfl⟩:=List.mem_map.1 a;exact Valid.files h _
theorem nI{g:Graph}(h:Valid g)(c:Nat):(R3 g c).length<=33:=by
 unfold R3;split
 ·simp
 ·rw[B68];by_cases a:c<g.length
  ·rw[dI a];have:=h.pars _ (B50 a);omega
  ·rw[nY a];simp
theorem OI{l:List File}(h:FewF l)(p:Str):(iI l p).length<=16777216:=by
 unfold iI;cases a:L1 l p with
 | none=>simp
 | some x =>
  obtain⟨f,b,_,rfl⟩:=fS a;exact h.blob f b
structure FewB (B:List (List (Str×Str))):Prop where
 len:B.length<=33
 lens:∀l∈B,l.length<=400
 strs:∀l∈B,∀x∈l,x.1.length<=16777216/\x.2.length<=16777216
theorem vS{g:Graph}(h:FewT g)(e:Valid g)(c:Nat):FewB (Q4 g c) where
 len:=by unfold Q4;rw[B68];exact nI e c
 lens:=fun l b=>by
  unfold Q4 at b;obtain⟨t,a,rfl⟩:=List.mem_map.1 b;unfold lX;rw[B68];have i:=BH t (R2 g c);have j:=Valid.trees e c t a;have k:=Valid.files e c;omega
 strs:=fun l b x f=>by
  unfold Q4 at b;obtain⟨t,a,rfl⟩:=List.mem_map.1 b;unfold lX at f;obtain⟨d,_,rfl⟩:=List.mem_map.1 f;refine⟨OI ?_ _,OI (h.files c) _⟩;unfold R3 at a;split at a
  ·rw[List.mem_singleton.1 a];exact⟨by simp,(fun _ h=>by cases h),(fun _ h=>by cases h)⟩
  ·obtain⟨p,_,rfl⟩:=List.mem_map.1 a;exact h.files _
def v6(b:List (List File))(u:List File)(i:Nat):List (List (Str×Str)):=(b.take i).map fun t=>lX t u
theorem KC{a:List (List File)}{u:List File}{i:Nat}(h:i<a.length):v6 a u (i+1)=v6 a u i++[lX a[i] u]:=by
 unfold v6;rw[List.take_add_one,B44 h,Option.toList_some,B77];rfl
theorem OJ(a:List (List File))(u:List File)(i:Nat):(v6 a u i).length<=a.length:=by
 unfold v6;rw[B68,B54];omega
def cH(t u:List File)(b:List Delta)(i:Nat):List (Str×Str):=(b.take i).map (VT t u)
theorem KD{t u:List File}{a:List Delta}{i:Nat}(h:i<a.length):cH t u a (i+1)=cH t u a i++[VT t u a[i]]:=by
 unfold cH;rw[List.take_add_one,B44 h,Option.toList_some,B77];rfl
theorem xH(t u:List File)(a:List Delta)(i:Nat):(cH t u a i).length<=a.length:=by
 unfold cH;rw[B68,B54];omega
theorem tK(nd s:Str)(a:s.length<=16777216):0<=m6 nd s/\m6 nd s<=16777218:=by
 have:=jB nd s;unfold m6;omega
theorem cmp_lt:∀(a b:Str),decide (Lib.compareBytes a b<0)=jK a b
 | [],[]=>rfl
 | [],_::_=>rfl
 | _::_,[]=>rfl
 | a::x,b::y=>by
  rw[Lib.compareBytes,jU];have f:=cmp_lt x y;by_cases c:a<b
  ·simp[c]
  ·by_cases d:b<a
   ·have:¬a=b:=fun e=>by subst e;exact c d
    simp[c,d,this]
   ·have:a=b:=UInt8.toNat_inj.1 (by rw[UInt8.lt_iff_toNat_lt]at c d;omega);subst this;simpa[c] using f
theorem SX(a b:Str):FnOk Tryz.prog 167 [F3 a,F3 b] (fun c=>c=[D3 (Lib.compareBytes a b)]) :=
 B18 (xs:=[.string ⟨a.toArray⟩,.string ⟨b.toArray⟩]) ⟨_,rfl,rfl,rfl⟩ rfl fun w=>by simpa using Tryz.strings_Compare ⟨a.toArray⟩ ⟨b.toArray⟩ w
theorem ZG(x y:Delta):FnOk Tryz.prog 166 [pDelta x,pDelta y] (fun a=>a=[D3 (Lib.compareBytes x.Path y.Path)]):=by
 refine FnOk.intro Tryz.func166 F2 A0 A0 A0 A0 (zz 2 ?_);refine C4 (n8 2 A0 A0 A0) A0 (C4 (n8 3 A0 A0 A0) A0 (zz 8 ?_));refine E3 (SX x.Path y.Path) (zz 3 ?_);exact B2 (G6 rfl rfl rfl) rfl
def bH(a:List Delta)(x:Delta)(m:Nat)(rest:List Delta):List Delta:=(a.drop m).reverse++x::((a.take m).reverse++rest)
theorem ZH{a:List Delta}{x:Delta}{m:Nat}{rest:List Delta}(b:m<=a.length):(bH a x m rest).length=a.length+1+rest.length:=by
 unfold bH;simp only[B48,B90,B53,B49,B54];omega
theorem insAt_x{a:List Delta}{x:Delta}{m:Nat}{rest:List Delta}(_hm:m<=a.length):(bH a x m rest)[a.length-m]?=some x:=by
 unfold bH;rw[B64 dV,B90,B53,B92];rfl
theorem insAt_p{a:List Delta}{x:Delta}{m:Nat}{rest:List Delta}(b:m<a.length):(bH a x m rest)[a.length-m-1]?=some a[m]:=by
 unfold bH;rw[B61 b2y,List.getElem?_reverse b2y,B53,B58];rw[show m+(a.length-m-1-(a.length-m-1))=m by omega,B44 b]
theorem SY{a:List Delta}{x:Delta}{m:Nat}{rest:List Delta}(c:m<a.length):((bH a x m rest).set (a.length-m) a[m]).set (a.length-m-1) x=bH a x (m+1) rest:=by
 have d:(a.drop m).reverse=(a.drop (m+1)).reverse++[a[m]]:=by rw[B55 c,List.reverse_cons]
 have f:(a.take (m+1)).reverse=a[m]::(a.take m).reverse:=by rw[List.take_add_one,B44 c,Option.toList_some,List.reverse_append];rfl
 have b:(a.drop (m+1)).reverse.length=a.length-m-1:=by rw[B90,B53];omega
 unfold bH;rw[d,f,B57,B71,B83];generalize (a.drop (m+1)).reverse=P at b ⊢;rw[<-b,show a.length-m=P.length+1 by omega];rw[List.set_append_right _ _ B3,show P.length+1-P.length=1 by omega];rw[List.set_append_right _ _ B3,B92];rfl
theorem insR_at{b:List Delta}{x:Delta}:∀{m:Nat},m<=b.length->(∀k,(h:k<m)->(c:k<b.length)->jK x.Path b[k].Path=true)->(∀h:m<b.length,jK x.Path b[m].Path=false)->pZ x b=b.take m++x::b.drop m:=by
 induction b with
 | nil=>intro m _ _ _;rw[List.take_nil,List.drop_nil];rfl
 | cons y r i =>
  intro m g e c;cases m with
  | zero =>
   have:=c dV;unfold pZ;rw[A7 (by rw[show y.Path=((y::r)[0]).Path from rfl,this];decide)];rfl
  | succ m =>
   have f:jK x.Path y.Path=true:=e 0 B3 dV;unfold pZ;rw[A6 f,i (m:=m) (by simpa using g) (fun k j d=>e (k+1) B3 (by simpa using d)) (fun h=>c (by simpa using h))];rfl
theorem SZ{b:List Delta}{x:Delta}{m:Nat}{rest:List Delta}(f:m<=b.length)(d:∀k,(h:k<m)->(c:k<b.length)->jK x.Path b[k].Path=true)(c:∀h:m<b.length,jK x.Path b[m].Path=false):bH b x m rest=(pZ x b).reverse++rest:=by
 rw[insR_at f d c];unfold bH;rw[List.reverse_append,List.reverse_cons];simp only[B57,List.singleton_append,B71,B83]
theorem GS(l a:List Delta):(bI a l).length=a.length+l.length:=by
 induction l generalizing a with
 | nil=>rfl
 | cons x r b=>rw[bI,b,xY,B49];omega
theorem TA(l:List Delta)(i:Nat)(h:i<l.length):bI [] (l.take (i+1))=pZ l[i] (bI [] (l.take i)):=by
 have key:∀(a b c:List Delta),bI c (a++b)=bI (bI c a) b:=by
  intro a;induction a with
  | nil=>intro b c;rfl
  | cons x r d=>intro b c;exact d b _
 rw[List.take_add_one,B44 h,Option.toList_some,key];rfl
def fM(l:List Delta)(i:Nat):List Delta:=(bI [] (l.take i)).reverse++l.drop i
theorem TB(l:List Delta)(i:Nat):(fM l i).length=l.length:=by
 unfold fM;rw[B48,B90,GS,B54,B53,List.length_nil];omega
theorem TD(l:List Delta):fM l 1=l:=by
 cases l with
 | nil=>rfl
 | cons x r=>rfl
theorem TE{l:List Delta}{i:Nat}(h:i<l.length):bH (bI [] (l.take i)) l[i] 0 (l.drop (i+1))=fM l i:=by
 unfold bH fM;rw[List.drop_zero,List.take_zero,B55 h];rfl
theorem OK{l:List Delta}{i:Nat}(h:i<l.length):fM l (i+1)=(pZ l[i] (bI [] (l.take i))).reverse++l.drop (i+1):=by
 unfold fM;rw[TA l i h]
abbrev qM(l:List Delta):Ob:=.grow 100 Delta 2 lI l
theorem b8x{p:Prop}(h:p:=by repeat (first | exact X0 | refine tail_drop rfl ?_ | refine X1 rfl ?_)):p:=h
theorem MS{p:Prop}(h:p:=by repeat (first | exact N0 | refine R9 rfl ?_)):p:=h
theorem OL{gf:Fr}{ob:Obs}(l:List Delta)(hl:l.length<=1048576)(h0:B6 ob 802=some (qM l)) :
  AL.Met Tryz.prog 201 [.one (.mut 802),.one (.p (.v (.int .i64 0))),.one (.p (.v (.int .i64 l.length))),.one (.p (.v (.func (.func 166) #[] #[])))] gf ob []
   (fun rs ob'=>rs=[]/\ob'=(802,qM (qS l))::ob):=by
 refine AL.Met.introH Tryz.func201 F2 rfl rfl rfl (fun R=>?_);refine zz 7 ?_;refine C2 (X:=Nat) (fun i=>([(0,.s (.one (.mut 802))),(1,B7 0),(2,B7 l.length),(3,I1 (.func (.func 166) #[] #[])),(8,B7 i)]++gf,(802,qM (fM l i))::ob)) (fun i=>1<=i/\(i<=l.length\/(i=1/\l=[]))) (fun i=>l.length-i) 1 ⟨Nat.le_refl _,by cases l;exact .inr ⟨rfl,rfl⟩;left;simp⟩ ?_ ?_
 ·rw[TD];exact B13 lf R I8 (C8 (L:=[(802,_)]) ⟨h0,trivial⟩ N0)
 rintro i ⟨V,I⟩;dsimp only at V I ⊢;have ab:=TB l i;refine zc 7 (fun B=>?_) fun B=>?_;rotate_left
 ·have U:=A3 B;have he:fM l i=qS l:=by
   rcases I with G | ⟨G,h3⟩
   ·have:i=l.length:=by omega
    rw[this];unfold fM qS;rw[B51,List.drop_length,B67]
   ·rw[G,h3];rfl
  rw[he];refine zz 1 ?_;exact T6 (gQ rfl) gM (fun _ _ h=>h) ⟨rfl,rfl⟩
 have J:i<l.length:=by have U:=A1 B;omega
 obtain⟨x,hx⟩:∃x,x=l[i]:=⟨_,rfl⟩
 obtain⟨b,E⟩:∃b,b=bI [] (l.take i):=⟨_,rfl⟩
 obtain⟨rest,A⟩:∃rest,rest=l.drop (i+1):=⟨_,rfl⟩
 have K:b.length=i:=by rw[E,GS,B54,List.length_nil];omega
 have S:rest.length=l.length-(i+1):=by rw[A,B53]
 have Z:=TE J;have e1:=OK J;rw[<-hx,<-E,<-A]at Z e1;rw[<-Z];refine zz 9 ?_;refine C2 (X:=Nat) (fun m=>([(0,.s (.one (.mut 802))),(1,B7 0),(2,B7 l.length),(3,I1 (.func (.func 166) #[] #[])),(8,B7 i),(9,B7 ((i-m:Nat):Int))]++gf,(802,qM (bH b x m rest))::ob)) (fun m=>m<=i/\∀k,(h:k<m)->(G:k<b.length)->jK x.Path b[k].Path=true) (fun m=>i-m) 0 ⟨Nat.zero_le _,fun k h=>by omega⟩ ?_ ?_
 ·exact B13 lf R I8 (C8 (L:=[(802,_)]) ⟨rfl,trivial⟩ MS)
 rintro m ⟨hm,z⟩;dsimp only at hm z ⊢;have d:=ZH (x:=x) (rest:=rest) (show m<=b.length by omega);have w:=insAt_x (x:=x) (rest:=rest) (show m<=b.length by omega);rw[K]at d w;have w:(bH b x m rest)[((i-m:Nat):Int).toNat]?=some x:=by rw[B45];exact w
 have q:(0:Int)<((i-m:Nat):Int)->(bH b x m rest)[(((i-m:Nat):Int)-1).toNat]?=some (b.getD m ⟨[],0⟩):=fun h=>by
  have:=insAt_p (x:=x) (rest:=rest) (show m<b.length by omega);rw[show (((i-m:Nat):Int)-1).toNat=b.length-m-1 by omega,this,B46,B44 B3];rfl
 obtain⟨y,Y⟩:∃y,y=b.getD m ⟨[],0⟩:=⟨_,rfl⟩
 rw[<-Y]at q;have D:=cmp_lt x.Path y.Path;refine zz 10 ?_;refine G3 A0 A0 (fun g=>by have F:=g;(try simp at F);rw[g];exact J7 A0 A0 A0 B3 (by (rw[d];omega))) A0 A0 ?_;refine G3 A0 A0 (fun g=>by rw[g];exact fB A0 A0 w A0) A0 A0 ?_;refine zz 2 ?_;refine G3 A0 A0 (fun g=>by have F:=g;(try simp at F);rw[g];exact aL A0 A0 B3) A0 A0 ?_;refine G3 A0 A0 (fun g=>by have F:=g;(try simp at F);rw[g];exact J7 A0 A0 A0 B3 (by (rw[d];omega))) A0 A0 ?_;refine G3 A0 A0 (fun g=>by have F:=g;(try simp at F);rw[g];exact fB A0 A0 (q B3) A0) A0 A0 ?_;refine G3 A0 A0 (fun g=>by rw[g];exact JN (ZG x y) A0 A0 A0) A0 A0 ?_;refine zc 3 (fun B=>?_) fun B=>?_
 ·rw[W8,B47,decide_eq_true_eq,D]at B;have C:m<b.length:=by omega
  have Q:y=b[m]:=by rw[Y,B46,B44 C];rfl
  have M:=SY (x:=x) (rest:=rest) C;rw[K,<-Q]at M;have q:=q B.1;have O:((bH b x m rest).set ((i-m:Nat):Int).toNat y)[(((i-m:Nat):Int)-1).toNat]?=some y:=by
   rw[List.getElem?_set_ne B3];exact q
  refine zz 3 ?_;refine M6 [17,15] [[],[15],[17,15]] [(15,([],[])),(17,([],[]))] [(0,[]),(1,[]),(2,[]),(3,[]),(4,[]),(5,[]),(6,[]),(7,[]),(8,[]),(9,[]),(10,[]),(11,[]),(12,[]),(13,[]),(14,[]),(15,[]),(16,[15]),(17,[15])] [(2,[15]),(3,[15]),(4,[15])] D6 D6 (C5 A0 A0 D6 A0 A0 (C6 A0 A0) (C5 A0 A0 D6 A0 A0 (C6 A0 A0) (C5 A0 A0 D6 A0 A0 (C6 A0 A0) (C5 A0 A0 D6 A0 A0 (C6 A0 A0) (C5 A0 A0 D6 A0 A0 (aL A0 A0 B3) (C5 A0 A0 D6 A0 A0 (C6 A0 A0) (C5 A0 A0 D6 A0 A0 (C6 A0 A0) (C5 A0 A0 D6 A0 A0 (aL A0 A0 B3) (C5 A0 A0 D6 A0 A0 (J7 A0 A0 A0 B3 (by (rw[d];omega))) ?_)))))))));refine C5 A0 A0 D6 A0 A0 (fB A0 A0 q A0) (C5 A0 A0 D6 A0 A0 (C6 A0 A0) (C5 A0 A0 D6 A0 A0 (C6 A0 A0) (C5 A0 A0 D6 A0 A0 (J7 A0 A0 A0 B3 (by (first | (rw[d];omega) | (rw[B65,d];omega)))) ?_)));refine C5 A0 A0 D6 A0 A0 (fB A0 A0 w A0) (C5 A0 A0 D6 A0 A0 (J7 A0 A0 A0 B3 (by (rw[d];omega))) ?_);refine W5 A0 A0 D6 A0 A0 (fJ (fun T H=>bQ (y) TySz.out (Q1 H A0) A0 w (Q1 H A0) A0 A0 A0 (fun _ _ _ h=>cW h) (by intro j U G;rcases j with _ | _ | _ | _ | _ | _ | _ | j<;>first | rfl | omega))) A0 ?_;refine C5 A0 A0 D6 A0 A0 (J7 A0 A0 A0 B3 (by (rw[B65,d];omega))) ?_;refine W5 A0 A0 D6 A0 A0 (fJ (fun T H=>bQ (x) TySz.out (Q1 H A0) A0 O (Q1 H A0) A0 A0 A0 (fun _ _ _ h=>cW h) (by intro j U G;rcases j with _ | _ | _ | _ | _ | _ | _ | j<;>first | rfl | omega))) A0 ?_;refine AT D6 rfl ?_ ?_
  ·refine F5 A0 A0 D6 A0 A0 (C6 A0 A0) (F5 A0 A0 D6 A0 A0 (C6 A0 A0) (F5 A0 A0 D6 A0 A0 (aL A0 A0 B3) ?_));exact jQ
  refine zz 5 ?_;refine⟨m+1,⟨by omega,fun k hk W=>?_⟩,by omega,?_⟩
  ·by_cases e:k=m
   ·subst e;rw[<-Q];exact B.2
   ·exact z k B3 W
  ·rw[B45,show (((i-m:Nat):Int)-1).toNat=i-m-1 by omega,M,show ((i-(m+1):Nat):Int)=((i-m:Nat):Int)-1 by omega];exact B13 lf R b8x (C8 (L:=[(802,_)]) ⟨rfl,trivial⟩ MS)
 ·rw[W8,B86,decide_eq_false_iff_not,D]at B;have hd:bH b x m rest=fM l (i+1):=by
   rw[e1];refine SZ B3 z fun C=>?_;rcases B with h | h
   ·omega
   ·rw[Y,B46,B44 C]at h;exact h
  rw[hd];refine zz 6 ?_;refine⟨i+1,⟨by omega,.inl B3⟩,by omega,?_⟩;exact B13 lf R I8 (C8 (L:=[(802,_)]) ⟨rfl,trivial⟩ MS)
theorem pdq_met{gf:Fr}{ob:Obs}(l:List Delta)(n:Int)(k:l.length<=12)(b:B6 ob 802=some (qM l)) :
  AL.Met Tryz.prog 186 [.one (.mut 802),.one (.p (.v (.int .i64 0))),.one (.p (.v (.int .i64 l.length))),.one (.p (.v (.int .i64 n))),.one (.p (.v (.func (.func 166) #[] #[])))] gf ob []
   (fun g ob'=>g=[]/\ob'=(802,qM (qS l))::ob):=by
 refine AL.Met.introH Tryz.func186 F2 rfl rfl rfl (fun d=>?_);refine zz 9 ?_;refine C2 (X:=Nat) (fun _=>([(0,.s (.one (.mut 802))),(1,B7 0),(2,B7 l.length),(3,B7 n),(4,I1 (.func (.func 166) #[] #[])),(10,K9 true),(11,K9 true)]++gf,ob)) (fun _=>True) (fun _=>0) 0 trivial ?_ ?_
 ·exact B13 lf d I8 (fun _ _ h=>h)
 intro _ _;dsimp only;refine zc 14 (fun a=>?_) fun a=>?_
 ·refine zz 6 ?_;refine H8 (OL l B3 b) A0 A0 A0 ?_;rintro _ _ ⟨rfl,rfl⟩;refine zz 2 ?_;exact C7 (gQ rfl) gM (fun _ _ h=>h) ⟨rfl,rfl⟩
 ·have j:=A3 a;omega
theorem A61(n:Nat)(b:n<256):FnOk Tryz.prog 210 [.one (.v (.int .u64 n))] (fun a=>a=[D3 (Lib.bitLen n:Nat)]) :=
 B18 (xs:=[.int .u64 n]) ⟨_,rfl,rfl,rfl⟩ rfl fun w=>by simpa using Tryz.bits_Len64 (n:Int) w B3 B3
theorem TF(n:Nat)(a:n<256):FnOk Tryz.prog 187 [.one (.v (.int .u64 n))] (fun b=>∃r:Int,b=[D3 r]):=by
 refine FnOk.intro Tryz.func187 F2 A0 A0 A0 A0 (zz 5 ?_);refine c_condF (zz 4 ?_);refine E3 (A61 n a) (zz 3 ?_);exact B2 (G6 rfl rfl rfl) ⟨_,rfl⟩
theorem KE{gf:Fr}{ob:Obs}(l:List Delta)(b:l.length<=12)(a:B6 ob 802=some (qM l)) :
  AL.Met Tryz.prog 165 [.one (.mut 802),.one (.p (.v (.func (.func 166) #[] #[])))] gf ob []
   (fun rs ob'=>rs=[]/\ob'=(802,qM (qS l))::ob):=by
 have d:IntKind.u64.wrap (l.length:Int)=(l.length:Nat):=by unfold IntKind.wrap;simp[IntKind.signed,IntKind.bits];omega
 refine AL.Met.intro Tryz.func165 F2 A0 A0 A0 (zz 3 ?_);refine B0 (JI A0 a) A0 (zz 7 ?_);refine bN ((by rw[d];exact TF l.length B3)) A0 A0 A0 ?_;rintro _ ⟨r,rfl⟩;refine zz 1 ?_;refine H8 (pdq_met l r b a) A0 A0 A0 ?_;rintro _ _ ⟨rfl,rfl⟩;refine zz 1 ?_;skip;exact T6 (gQ rfl) gM (fun _ _ h=>h) ⟨rfl,rfl⟩
def nJ(b:List File)(a:List File)(i:Nat):List Delta:=(a.take i).filterMap (iY b)
theorem OM{b a:List File}{i:Nat}(h:i<a.length):nJ b a (i+1)=nJ b a i++(iY b a[i]).toList:=by
 have e:[a[i]].filterMap (iY b)=(iY b a[i]).toList:=by
  cases c:iY b a[i] with
  | none=>rw[List.filterMap_cons_none c];rfl
  | some d=>rw[List.filterMap_cons_some c];rfl
 unfold nJ;rw[List.take_add_one,B44 h,Option.toList_some,List.filterMap_append,e]
def iS(a:List File)(b:List File)(i:Nat):List Delta:=(b.take i).filterMap (pY a)
theorem ON{a b:List File}{i:Nat}(h:i<b.length):iS a b (i+1)=iS a b i++(pY a b[i]).toList:=by
 have e:[b[i]].filterMap (pY a)=(pY a b[i]).toList:=by
  cases c:pY a b[i] with
  | none=>rw[List.filterMap_cons_none c];rfl
  | some d=>rw[List.filterMap_cons_some c];rfl
 unfold iS;rw[List.take_add_one,B44 h,Option.toList_some,List.filterMap_append,e]
theorem TG(b a:List File)(i:Nat):(nJ b a i).length<=a.length:=by
 unfold nJ;have:=List.length_filterMap_le (iY b) (a.take i);rw[B54]at this;omega
theorem TH(a b:List File)(i:Nat):(iS a b i).length<=b.length:=by
 unfold iS;have:=List.length_filterMap_le (pY a) (b.take i);rw[B54]at this;omega
def nK(a b:List File):Int:=if G4 a≠0 then G4 a else G4 b
theorem b4y{p:Prop}(h:p:=by (simp only[B48,B49,List.length_nil];omega)):p:=h
theorem SC{p:Prop}(h:p:=by (simp only[B49,List.length_nil];omega)):p:=h
theorem A62(a b:List File)(ha:FewF a)(hb:FewF b)(G:nK a b=0->a.length+b.length<=12):FnOk Tryz.prog 120 [bU a,bU b] (fun rs=>rs=[KZ (if nK a b≠0 then [] else i6 a b),D3 (nK a b)]):=by
 have H:=ha.len;have J:=hb.len;refine FnOk.intro Tryz.func120 F2 A0 A0 A0 A0 (zz 10 ?_);refine E3 (A59 a b ha hb) ?_;refine zc 7 (fun d=>?_) fun d=>?_
 ·have q:nK a b≠0:=A1 d;refine zz 3 ?_;refine B0 (E8 _ 2 lI) A0 (zz 3 ?_);exact B2 (rs:=[KZ [],D3 (nK a b)]) (S6 rfl rfl rfl rfl rfl) (by rw[A6 q])
 have q:¬nK a b≠0:=A3 d;have w:nK a b=0:=Decidable.not_not.1 q;have O:=G w;have B:G4 a=0:=by
  apply Classical.byContradiction;intro h;unfold nK at w;rw[A6 h]at w;exact h w
 have I:G4 b=0:=by unfold nK at w;rw[A7 (fun h=>h B)]at w;exact w
 have C:=(cM B).1;have D:=(cM I).1;have K:=tH C;have L:=tH D;rw[w,A7 (show ¬(0:Int)≠0 from fun h=>h rfl),<-A17 C D];refine zz 4 ?_;refine eK (NV a H) A0 A0 A0 A0 ?_;rintro _ _ ⟨rfl,rfl⟩;refine⟨rfl,?_⟩;refine zz 1 ?_;refine eK (BE b J) A0 A0 A0 A0 ?_;rintro _ _ ⟨rfl,rfl⟩;refine⟨rfl,?_⟩;refine zz 3 ?_;refine zz 2 ?_;refine C4 (AE 802 _ lI A0) A0 (zz 9 ?_);refine C2 (X:=Nat) (fun i=>([(1,B8 File 2 eL b),(7,.s (.one (.mut 801))),(8,.s (.one (.mut 800))),(9,.s (.one (.mut 802))),(28,B8 File 2 eL a),(29,B7 a.length),(30,B7 i)],[(800,.map Str aT (X8 b)),(801,.map Str aT (X8 a)),(802,qM (nJ b a i))])) (fun i=>i<=a.length) (fun i=>a.length-i) 0 (Nat.zero_le _) (Sees.of lf lo) ?_;intro i M;dsimp only at M ⊢;have U:=TG b a i;refine zc 5 (fun d=>?_) fun d=>?_
 ·have v:i<a.length:=by have q:=A1 d;(try dsimp only at q);omega
  obtain⟨f,E⟩:∃f,f=a[i]:=⟨_,rfl⟩
  have N:a[i]?=some f:=by rw[E];simp[v]
  have l:=OM (b:=b) v;rw[<-E]at l;refine zz 5 ?_;refine B0 (A9 A0 (.pure _ _ _ _) A0 B3 N) A0 (zz 1 ?_);refine C4 (H9 11 A0) A0 (zz 7 ?_);refine B0 (nC (f.Path) (r:=((L1 b f.Path).map EW)) A0 A0 A0 cZ dA (L f.Path)) A0 (zz 11 ?_);cases j:L1 b f.Path with
  | none =>
   have g:iY b f=some ⟨f.Path,2⟩:=by unfold iY;rw[j]
   rw[g]at l;refine zc 0 (fun d=>?_) fun d=>?_
   ·skip;refine zz 5 ?_;refine B0 (C0 (c:=lI) (ys:=[⟨f.Path,2⟩]) (C3 A0 A0 A0 A0 E6) A0 A0 A0) A0 (C4 (P0 A0 A0 A0 (.pure _ _ _ _) SC A0) A0 (zz 6 ?_));refine⟨i+1,by omega,by omega,?_⟩;rw[l];exact (Sees.of lf lo)
   ·cases d
  | some y =>
   refine zc 0 (fun d=>?_) fun d=>?_
   ·cases d
   refine zz 5 ?_;refine B0 (zF A0 A0) A0 ?_;refine zc 1 (fun d=>?_) fun d=>?_
   ·have F:y≠f.Blob:=A1 d;have g:iY b f=some ⟨f.Path,3⟩:=by unfold iY;rw[j];dsimp only;rw[A6 F]
    rw[g]at l;skip;refine zz 5 ?_;refine B0 (C0 (c:=lI) (ys:=[⟨f.Path,3⟩]) (C3 A0 A0 A0 A0 E6) A0 A0 A0) A0 (C4 (P0 A0 A0 A0 (.pure _ _ _ _) SC A0) A0 (zz 6 ?_));refine⟨i+1,by omega,by omega,?_⟩;rw[l];exact (Sees.of lf lo)
   ·have F:¬y≠f.Blob:=A3 d;have g:iY b f=none:=by unfold iY;rw[j];dsimp only;rw[A7 F]
    rw[g]at l;refine zz 5 ?_;refine⟨i+1,by omega,by omega,?_⟩;rw[l];simp only[Option.toList_none,B67];exact (Sees.of lf lo)
 have z:i=a.length:=by have q:=A3 d;(try dsimp only at q);omega
 have Q:nJ b a a.length=a.filterMap (iY b):=by unfold nJ;rw[B51]
 obtain⟨A,x⟩:∃A,A=a.filterMap (iY b):=⟨_,rfl⟩
 have R:A.length<=a.length:=by rw[x];exact List.length_filterMap_le _ _
 rw[z,Q,<-x];refine zz 9 ?_;refine C2 (X:=Nat) (fun i=>([(7,.s (.one (.mut 801))),(9,.s (.one (.mut 802))),(60,B8 File 2 eL b),(61,B7 b.length),(62,B7 i)],[(801,.map Str aT (X8 a)),(802,qM (A++iS a b i))])) (fun i=>i<=b.length) (fun i=>b.length-i) 0 (Nat.zero_le _) (by rw[show A++iS a b 0=A by unfold iS;simp];exact (Sees.of lf lo)) ?_;intro i M;dsimp only at M ⊢;have P:=TH a b i;refine zc 5 (fun d=>?_) fun d=>?_
 ·have v:i<b.length:=by have q:=A1 d;(try dsimp only at q);omega
  obtain⟨f,E⟩:∃f,f=b[i]:=⟨_,rfl⟩
  have N:b[i]?=some f:=by rw[E];simp[v]
  have l:=ON (a:=a) v;rw[<-E]at l;refine zz 5 ?_;refine B0 (A9 A0 (.pure _ _ _ _) A0 B3 N) A0 (zz 1 ?_);refine C4 (H9 15 A0) A0 (zz 7 ?_);refine B0 (nC (f.Path) (r:=((L1 a f.Path).map EW)) A0 A0 A0 cZ dA (K f.Path)) A0 (zz 11 ?_);cases j:L1 a f.Path with
  | none =>
   have g:pY a f=some ⟨f.Path,1⟩:=by unfold pY;rw[j]
   rw[g]at l;refine zc 0 (fun d=>?_) fun d=>?_
   ·skip;refine zz 5 ?_;refine B0 (C0 (c:=lI) (ys:=[⟨f.Path,1⟩]) (C3 A0 A0 A0 A0 E6) A0 A0 A0) A0 (C4 (P0 A0 A0 A0 (.pure _ _ _ _) b4y A0) A0 (zz 6 ?_));refine⟨i+1,by omega,by omega,?_⟩;rw[l,<-B57];exact (Sees.of lf lo)
   ·cases d
  | some y =>
   have g:pY a f=none:=by unfold pY;rw[j]
   rw[g]at l;refine zc 0 (fun d=>?_) fun d=>?_
   ·cases d
   ·refine zz 5 ?_;refine⟨i+1,by omega,by omega,?_⟩;rw[l];simp only[Option.toList_none,B67];exact (Sees.of lf lo)
 have z:i=b.length:=by have q:=A3 d;(try dsimp only at q);omega
 have S:A++iS a b b.length=cL a b:=by unfold iS cL;rw[B51,x]
 have T:=VH a b;rw[z,S];refine zz 4 ?_;refine H8 (KE (cL a b) B3 A0) A0 A0 A0 ?_;rintro _ _ ⟨rfl,rfl⟩;refine zz 2 ?_;refine C1 (Sees.freezeG (k:=802) A0 A0) (zz 6 ?_);exact B2 (rs:=[KZ (diffOf a b),D3 0]) (S6 rfl rfl rfl rfl rfl) rfl
theorem BI{nd:Str}:∀{l:List (Str×Str)},(∀x∈l,x.1.length<=16777216/\x.2.length<=16777216) -> -(16777218*(l.length:Int))<=p6 nd l/\p6 nd l<=16777218*(l.length:Int)
 | [],_=>⟨by simp[p6],by simp[p6]⟩
 | x::r,h=>by
  have d:=BI (nd:=nd) fun y a=>h y (List.mem_cons_of_mem _ a);have b:=tK nd x.1 (h x List.mem_cons_self).1;have c:=tK nd x.2 (h x List.mem_cons_self).2;have e:p6 nd (x::r)=m6 nd x.2-m6 nd x.1+p6 nd r:=by unfold p6;rw[B62,B93]
  rw[e,B49];constructor<;>omega
theorem A63{nd:Str}{l:List (Str×Str)}{i:Nat}(h:i<l.length):p6 nd (l.take (i+1))=p6 nd (l.take i)+(m6 nd l[i].2-m6 nd l[i].1):=by
 unfold p6;rw[List.take_add_one,B44 h,Option.toList_some,B77,List.sum_append];simp
theorem OO{nd:Str}{B:List (List (Str×Str))}{p:Nat}(h:p<B.length):(B.take (p+1)).map (p6 nd)=(B.take p).map (p6 nd)++[p6 nd B[p]]:=by
 rw[List.take_add_one,B44 h,Option.toList_some,B77];rfl
theorem xI{g:Graph}{c:Int}(h:y6 g c=0):Valid g/\0<=c/\c<g.length:=by
 unfold y6 at h;split at h
 ·rename_i a;exact absurd h a
 ·rename_i a;split at h
  ·rename_i b;exact⟨fT (Decidable.not_not.1 a),b⟩
  ·cases h
theorem TI(g:Graph)(c:Int)(h:FewT g):FnOk Tryz.prog 99 [S3 g,D3 c] (fun rs=>rs=[D3 (y6 g c)]):=by
 refine FnOk.intro Tryz.func99 F2 A0 A0 A0 A0 (zz 8 ?_);refine E3 (XI g h) ?_;refine zc 7 (fun a=>?_) fun a=>?_
 ·have b:P2 g≠0:=A1 a;refine zz 6 ?_;exact B2 (rs:=[D3 (P2 g)]) (G6 rfl rfl rfl) (by unfold y6;rw[A6 b])
 have b:¬P2 g≠0:=A3 a;refine zz 6 ?_;refine E3 (dis_ok g c) ?_;refine zc 2 (fun a=>?_) fun a=>?_
 ·have d:¬bD g c:=by simpa using a
  refine zz 5 ?_;exact B2 (rs:=[D3 5]) (G6 rfl rfl rfl) (by unfold y6;rw[A7 b,A7 d])
 ·have d:bD g c:=by simpa using a
  refine zz 6 ?_;exact B2 (rs:=[D3 0]) (G6 rfl rfl rfl) (by unfold y6;rw[A7 b,A6 d])
theorem xJ(g:Graph)(c:Nat)(F:FewG g)(J:related g=true)(y:c<g.length):FnOk Tryz.prog 77 [S3 g,D3 c] (fun rs=>rs=[LA (R3 g c)]):=by
 obtain⟨d,m⟩:∃d,d=g[c]:=⟨_,rfl⟩
 have E:g[((c:Nat):Int).toNat]?=some d:=by rw[m];simp[y]
 have w:E9 g c=d.Parents:=by rw[dI y,m]
 have hpr:=(L7 J c).1;have I:=F.pars d (by rw[m];exact B50 y);have A:R3 g c=if d.Parents=[] then [[]] else cG g d.Parents d.Parents.length:=by unfold R3 cG;rw[w,B51]
 rw[w]at hpr;rw[A];refine FnOk.intro Tryz.func77 F2 A0 A0 A0 A0 (zz 9 ?_);refine B0 (A9 A0 (.pure _ _ _ _) A0 B3 E) A0 ?_;refine zc 5 (fun v=>?_) fun v=>?_
 ·have j:d.Parents=[]:=by
   have j:=A1 v;exact List.length_eq_zero_iff.1 B3
  rw[A6 j];refine zz 2 ?_;refine B0 (C0 (c:=nV) (ys:=[[]]) (A53 A0 A0 E6) A0 A0 A0) A0 (zz 3 ?_);exact B2 (rs:=[LA [[]]]) (G6 rfl rfl rfl) rfl
 have j:¬d.Parents=[]:=fun e=>by
  have j:=A3 v;rw[e]at j;exact j rfl
 rw[A7 j];refine zz 3 ?_;refine C4 (O9 5 _ nV A0) A0 (zz 6 ?_);refine B0 (A9 A0 (.pure _ _ _ _) A0 B3 E) A0 (zz 6 ?_);refine C2 (X:=Nat) (fun i=>([(0,B8 Commit 3 K5 g),(5,.s (.one (.buf 5 (List File) 1 nV (cG g d.Parents i)))),(20,B8 Int 1 D2 d.Parents),(21,B7 d.Parents.length),(22,B7 i)],[(5,.spare (cG g d.Parents i).length 1 41)])) (fun i=>i<=d.Parents.length) (fun i=>d.Parents.length-i) 0 (Nat.zero_le _) (Sees.of lf lo) ?_;intro i G;dsimp only at G ⊢;have K:=OH g d.Parents i;refine zc 5 (fun v=>?_) fun v=>?_
 ·have q:i<d.Parents.length:=by have j:=A1 v;(try dsimp only at j);omega
  have H:=hpr _ (B50 q);obtain⟨p,C⟩:∃p:Nat,d.Parents[i]=(p:Int):=⟨d.Parents[i].toNat,by omega⟩
  have B:d.Parents[i]?=some (p:Int):=by rw[B44 q,C]
  obtain⟨x,hpm⟩:∃x,x=g[p]:=⟨_,rfl⟩
  have k:g[((p:Nat):Int).toNat]?=some x:=by rw[hpm,B45];simp[show p<g.length by omega]
  have D:=KA (g:=g) q;rw[C,B45,vR (by rw[B45]at k;exact k)]at D;refine zz 5 ?_;refine B0 (A9 A0 (.pure _ _ _ _) A0 B3 B) A0 (zz 7 ?_);refine B0 (A9 A0 (.pure _ _ _ _) A0 B3 k) A0 (zz 2 ?_);refine B0 (C0 (c:=nV) (ys:=[x.Files]) (C3 A0 A0 A0 A0 E6) A0 A0 A0) A0 (zz 7 ?_);refine⟨i+1,by omega,by omega,?_⟩;rw[D];exact (Sees.of lf lo)
 ·have z:i=d.Parents.length:=by have j:=A3 v;(try dsimp only at j);omega
  rw[z];refine zz 7 ?_;exact B2 (rs:=[LA (cG g d.Parents d.Parents.length)]) (G6 rfl rfl rfl) rfl
def Short(g:Graph):Prop:=∀c:Nat,(R2 g c).length<=6
theorem Short.tree{g:Graph}(h:Short g){c:Nat}{t:List File}(a:t∈R3 g c):t.length<=6:=by
 unfold R3 at a;split at a
 ·rw[List.mem_singleton.1 a];simp
 ·obtain⟨p,_,rfl⟩:=List.mem_map.1 a;exact h _
theorem ZI{g:Graph}(h:FewT g){c:Nat}{t:List File}(a:t∈R3 g c):FewF t:=by
 unfold R3 at a;split at a
 ·rw[List.mem_singleton.1 a];exact⟨by simp,(fun _ h=>by cases h),(fun _ h=>by cases h)⟩
 ·obtain⟨p,_,rfl⟩:=List.mem_map.1 a;exact h.files _
theorem Valid.check{g:Graph}(h:Valid g)(c:Nat):G4 (R2 g c)=0:=by
 unfold R2;by_cases a:c<g.length
 ·rw[B44 a];exact h.tree _ (B50 a)
 ·rw[B56 B3];decide
theorem Valid.checks{g:Graph}(h:Valid g){c:Nat}{t:List File}(a:t∈R3 g c):G4 t=0:=by
 unfold R3 at a;split at a
 ·rw[List.mem_singleton.1 a];decide
 ·obtain⟨p,_,rfl⟩:=List.mem_map.1 a;exact Valid.check h _
def fC(g:Graph)(c:Nat):List (List Delta):=(R3 g c).map fun t=>i6 t (R2 g c)
def Q7(b:List (List File))(u:List File)(i:Nat):List (List Delta):=(b.take i).map fun t=>i6 t u
theorem BJ{a:List (List File)}{u:List File}{i:Nat}(h:i<a.length):Q7 a u (i+1)=Q7 a u i++[i6 a[i] u]:=by
 unfold Q7;rw[List.take_add_one,B44 h,Option.toList_some,B77];rfl
theorem FA(a:List (List File))(u:List File)(i:Nat):(Q7 a u i).length<=a.length:=by
 unfold Q7;rw[B68,B54];omega
theorem cof_ok(g:Graph)(c:Nat)(h:FewT g)(F:Valid g)(A:Short g)(Q:c<g.length):FnOk Tryz.prog 78 [S3 g,D3 c] (fun rs=>rs=[.one (.list (List Delta) 1 aX (fC g c))]):=by
 obtain⟨x,H⟩:∃x,x=g[c]:=⟨_,rfl⟩
 have w:g[((c:Nat):Int).toNat]?=some x:=by rw[H];simp[Q]
 have y:R2 g c=x.Files:=vR (by rw[B45]at w;exact w);have L:=nI F c;have B:∀t∈R3 g c,FewF t/\G4 t=0/\t.length<=6:=fun t m=>⟨ZI h m,Valid.checks F m,A.tree m⟩
 have E:=h.files c;have D:=Valid.check F c;have O:=A c;obtain⟨d,v⟩:∃d,d=R3 g c:=⟨_,rfl⟩
 obtain⟨u,M⟩:∃u,u=x.Files:=⟨_,rfl⟩
 have z:fC g c=Q7 d u d.length:=by unfold fC Q7;rw[B51,y,v,M]
 rw[y,<-M]at E D O;rw[<-v]at L B;rw[z];refine FnOk.intro Tryz.func78 F2 A0 A0 A0 A0 (zz 6 ?_);refine C4 (O9 5 _ aX A0) A0 (zz 6 ?_);refine E3 (xJ g c h.few F.rel Q) (zz 3 ?_);rw[<-v];refine zz 1 ?_;refine C2 (X:=Nat) (fun p=>([(0,B8 Commit 3 K5 g),(1,B7 c),(5,.s (.one (.buf 5 (List Delta) 1 aX (Q7 d u p)))),(12,B8 (List File) 1 nV d),(13,B7 d.length),(14,B7 p)],[(5,.spare (Q7 d u p).length 1 95)])) (fun p=>p<=d.length) (fun p=>d.length-p) 0 (Nat.zero_le _) (Sees.of lf lo) ?_;intro p T;dsimp only at T ⊢;have S:=FA d u p;refine zc 5 (fun m=>?_) fun m=>?_
 ·have k:p<d.length:=by have G:=A1 m;(try dsimp only at G);omega
  have R:=BJ (u:=u) k;obtain⟨t,q⟩:∃t,t=d[p]:=⟨_,rfl⟩
  have P:d[p]?=some t:=by rw[q];simp[k]
  obtain⟨C,J,U⟩:=B t (by rw[q];exact B50 k);rw[<-q]at R;have K:nK t u=0:=by unfold nK;rw[J,A7 (fun h=>h rfl),D]
  have j:=A62 t u C E (fun _=>by omega);rw[K,A7 (fun h=>h rfl),show bU u=bU x.Files by rw[M]]at j;refine zz 5 ?_;refine B0 (A9 A0 (.pure _ _ _ _) A0 B3 P) A0 (zz 8 ?_);refine B0 (A9 A0 (.pure _ _ _ _) A0 B3 w) A0 (zz 2 ?_);refine E3 (j) (zz 9 ?_);refine B0 (C0 (c:=aX) (ys:=[i6 t u]) (C3 A0 A0 A0 A0 E6) A0 A0 A0) A0 (zz 7 ?_);refine⟨p+1,by omega,by omega,?_⟩;rw[R];exact (Sees.of lf lo)
 ·have I:p=d.length:=by have G:=A3 m;(try dsimp only at G);omega
  rw[I];refine zz 7 ?_;exact B2 (rs:=[.one (.list (List Delta) 1 aX (Q7 d u d.length))]) (G6 rfl rfl rfl) rfl
theorem ZJ(g:Graph)(c:Int)(h:FewT g)(a:Short g):FnOk Tryz.prog 57 [S3 g,D3 c] (fun rs=>∃l,rs=[.one (.list (List Delta) 1 aX l),D3 (y6 g c)]):=by
 refine FnOk.intro Tryz.func57 F2 A0 A0 A0 A0 (zz 10 ?_);refine E3 (TI g c h) ?_;refine zc 7 (fun d=>?_) fun d=>?_
 ·refine zz 3 ?_;refine B0 (E8 _ 1 aX) A0 (zz 3 ?_);exact B2 (rs:=[.one (.list (List Delta) 1 aX []),D3 (y6 g c)]) (S6 rfl rfl rfl rfl rfl) ⟨_,rfl⟩
 have f:¬y6 g c≠0:=A3 d;have b:y6 g c=0:=Decidable.not_not.1 f;obtain⟨p,j,m⟩:=xI b;obtain⟨k,rfl⟩:∃k:Nat,c=(k:Int):=⟨c.toNat,by omega⟩
 rw[b];refine zz 5 ?_;refine E3 (cof_ok g k h p a B3) (zz 4 ?_);exact B2 (rs:=[.one (.list (List Delta) 1 aX (fC g k)),D3 0]) (S6 rfl rfl rfl rfl rfl) ⟨_,rfl⟩
theorem GW(g:Graph)(c:Nat)(h:FewT g)(W:Valid g)(C:Short g)(M:c<g.length):FnOk Tryz.prog 40 [S3 g,D3 c] (fun rs=>rs=[LW (Q4 g c)]):=by
 obtain⟨E,O⟩:∃E,E=g[c]:=⟨_,rfl⟩
 have D:g[((c:Nat):Int).toNat]?=some E:=by rw[O];simp[M]
 have B:R2 g c=E.Files:=vR (by rw[B45]at D;exact D);have V:=nI W c;have I:∀t∈R3 g c,t.length<=6:=fun t v=>C.tree v;have J:=C c;rw[B]at J;obtain⟨j,x⟩:∃j,j=R3 g c:=⟨_,rfl⟩
 obtain⟨u,L⟩:∃u,u=E.Files:=⟨_,rfl⟩
 have G:Q4 g c=v6 j u j.length:=by unfold Q4 v6;rw[B51,B,x,L]
 have Q:fC g c=Q7 j u j.length:=by unfold fC Q7;rw[B51,B,x,L]
 rw[<-L]at J;rw[<-x]at V I;rw[G];obtain⟨DS,A⟩:∃DS,DS=Q7 j u j.length:=⟨_,rfl⟩
 have ad:DS.length=j.length:=by rw[A];unfold Q7;rw[B68,B51]
 refine FnOk.intro Tryz.func40 F2 A0 A0 A0 A0 (zz 6 ?_);refine C4 (O9 5 _ jC A0) A0 (zz 5 ?_);refine E3 (xJ g c h.few W.rel M) (zz 2 ?_);rw[<-x];refine zz 5 ?_;refine E3 (cof_ok g c h W C M) (zz 3 ?_);rw[Q,<-A];refine zz 1 ?_;refine C2 (X:=Nat) (fun p=>([(0,B8 Commit 3 K5 g),(1,B7 c),(5,.s (.one (.buf 5 (List (Str×Str)) 1 jC (v6 j u p)))),(6,B8 (List File) 1 nV j),(21,.s (.one (.p (.list (List Delta) 1 aX DS)))),(22,B7 DS.length),(23,B7 p)],[(5,.spare (v6 j u p).length 1 63)])) (fun p=>p<=j.length) (fun p=>j.length-p) 0 (Nat.zero_le _) (Sees.of lf lo) ?_;intro p hp;dsimp only at hp ⊢;have ae:=OJ j u p;refine zc 5 (fun v=>?_) fun v=>?_;rotate_left
 ·have S:p=j.length:=by have z:=A3 v;(try dsimp only at z);omega
  rw[S];refine zz 7 ?_;exact B2 (rs:=[LW (v6 j u j.length)]) (G6 rfl rfl rfl) rfl
 have m:p<j.length:=by have z:=A1 v;(try dsimp only at z);omega
 have U:=KC (u:=u) m;obtain⟨t,w⟩:∃t,t=j[p]:=⟨_,rfl⟩
 have Z:j[p]?=some t:=by rw[w];simp[m]
 have ac:=I t (by rw[w];exact B50 m);rw[<-w]at U;have P:=BH t u;obtain⟨k,q⟩:∃k,k=i6 t u:=⟨_,rfl⟩
 have Y:DS[p]?=some k:=by
  rw[A,q,w];unfold Q7;rw[B51,B78,B44 m];rfl
 have T:lX t u=cH t u k k.length:=by unfold lX cH;rw[B51,q]
 rw[T]at U;rw[<-q]at P;refine zz 6 ?_;refine B0 (A9 A0 (.pure _ _ _ _) A0 B3 Y) A0 (zz 6 ?_);refine C4 (O9 9 _ fX A0) A0 (zz 9 ?_);refine C2 (X:=Nat) (fun i=>([(0,B8 Commit 3 K5 g),(1,B7 c),(5,.s (.one (.buf 5 (List (Str×Str)) 1 jC (v6 j u p)))),(6,B8 (List File) 1 nV j),(7,B7 p),(9,.s (.one (.buf 9 (Str×Str) 2 fX (cH t u k i)))),(21,.s (.one (.p (.list (List Delta) 1 aX DS)))),(22,B7 DS.length),(23,B7 p),(28,B8 Delta 2 lI k),(29,B7 k.length),(30,B7 i)],[(5,.spare (v6 j u p).length 1 63),(9,.spare (cH t u k i).length 2 54)])) (fun i=>i<=k.length) (fun i=>k.length-i) 0 (Nat.zero_le _) (Sees.of lf lo) ?_;intro i hi;dsimp only at hi ⊢;have af:=xH t u k i;refine zc 5 (fun v=>?_) fun v=>?_
 ·have y:i<k.length:=by have z:=A1 v;(try dsimp only at z);omega
  have H:=KD (t:=t) (u:=u) y;obtain⟨d,hd⟩:∃d,d=k[i]:=⟨_,rfl⟩
  have K:k[i]?=some d:=by rw[hd];simp[y]
  rw[<-hd]at H;have F:=OE u d.Path B3;rw[show bU u=bU E.Files by rw[L]]at F;refine zz 5 ?_;refine B0 (A9 A0 (.pure _ _ _ _) A0 B3 K) A0 (zz 1 ?_);refine C4 (H9 11 A0) A0 (zz 6 ?_);refine D1 (A9 A0 (.pure _ _ _ _) A0 B3 Z) A0 A0 (zz 3 ?_);refine D1 (K4 (OE t d.Path B3) A0 A0) A0 A0 (zz 10 ?_);refine D1 (A9 A0 (.pure _ _ _ _) A0 B3 D) A0 A0 (zz 4 ?_);refine D1 (K4 (F) A0 A0) A0 A0 (zz 11 ?_);refine B0 (C0 (c:=fX) (ys:=[(iI t d.Path,iI u d.Path)]) (C3 A0 A0 A0 A0 E6) A0 A0 A0) A0 (zz 7 ?_);refine⟨i+1,by omega,by omega,?_⟩;rw[H];exact (Sees.of lf lo)
 ·have R:i=k.length:=by have z:=A3 v;(try dsimp only at z);omega
  rw[R];have ab:=xH t u k k.length;refine zz 4 ?_;refine B0 (C0 (c:=jC) (ys:=[cH t u k k.length]) (C3 A0 A0 A0 A0 E6) A0 A0 A0) A0 (zz 7 ?_);refine⟨p+1,by omega,by omega,?_⟩;rw[U];exact (Sees.of lf lo)
abbrev cE(a:Str):Unit->Nat->Cell:=fun _ _=>.v (.string ⟨a.toArray⟩)
abbrev OP(x:Str×Str):S1:=.agg [.p (fX x 0),.p (fX x 1)]
abbrev mG(b:Bool):S1:=.one (.p (.v (.bool b)))
abbrev N8(i:Int):S1:=.one (.p (.v (.int .i64 i)))
theorem A64(a:Str)(x:Str×Str)(b:a.length<=1073741824)(c:x.1.length<=16777216)(d:x.2.length<=16777216) :
  AL.Met Tryz.prog 55 [OP x,.one (.eref Unit 1 (cE a) () 0)] [] [] [] (fun rs ob'=>rs=[mG (differs a x)]/\ob'=[]):=by
 refine AL.Met.intro Tryz.func55 F2 A0 A0 A0 (zz 2 ?_);refine C4 (n8 2 A0 A0 A0) A0 (zz 7 ?_);refine D1 (K4 (oU a x.1 b c) A0 A0) A0 A0 (zz 3 ?_);refine D1 (K4 (oU a x.2 b d) A0 A0) A0 A0 (zz 4 ?_);exact C7 (F1 rfl rfl) gM (ObIn.spec (ob':=[]) trivial) ⟨rfl,rfl⟩
theorem FB(f:FuncId)(α:Type)(j:Nat)(c:α->Nat->Cell)(v:α)(q:Str×Str->Bool)(l:List (Str×Str))(C:l.length<=1073741824)(A:∀x∈l,AL.Met Tryz.prog f [OP x,.one (.eref α j c v 0)] [] [] [] (fun w ob'=>w=[mG (q x)]/\ob'=[])) :
  AL.Met Tryz.prog 75 [.one (.p (.list (Str×Str) 2 fX l)),.one (.fncE f α j c v)] [] [] [] (fun w ob'=>(∃i:Int,w=[N8 i]/\decide (0<=i)=l.any q)/\ob'=[]):=by
 refine AL.Met.intro Tryz.func75 F2 A0 A0 A0 (zz 12 ?_);refine C2 (X:=Nat) (fun i=>([(0,B8 (Str×Str) 2 fX l),(1,.s (.one (.fncE f α j c v))),(7,B7 l.length),(8,B7 i)],[])) (fun i=>i<=l.length/\(l.take i).any q=false) (fun i=>l.length-i) 0 ⟨Nat.zero_le _,rfl⟩ (Sees.of lf lo) ?_;rintro i ⟨B,h⟩;dsimp only at B h ⊢;refine zc 5 (fun d=>?_) fun d=>?_;rotate_left
 ·have g:i=l.length:=by have g:=A3 d;(try dsimp only at g);omega
  rw[g,B51]at h;refine zz 6 ?_;exact C7 (F1 rfl rfl) gM (ObIn.spec (ob':=[]) trivial) ⟨⟨-1,rfl,by rw[h];rfl⟩,rfl⟩
 have b:i<l.length:=by have g:=A1 d;(try dsimp only at g);omega
 obtain⟨x,m⟩:∃x,x=l[i]:=⟨_,rfl⟩
 have z:l[i]?=some x:=by rw[m];simp[b]
 have k:=A x (by rw[m];exact B50 b);refine zz 13 ?_;refine B0 (A9 A0 (.pure _ _ _ _) A0 B3 z) A0 (zz 1 ?_);refine B0 (n_callE (k) A0 A0 A0) A0 ?_;refine zc 1 (fun d=>?_) fun d=>?_
 ·refine zz 6 ?_;refine C7 (F1 rfl rfl) gM (ObIn.spec (ob':=[]) trivial) ⟨⟨i,rfl,?_⟩,rfl⟩;rw[List.any_eq_true.2 ⟨x,by rw[m];exact B50 b,d⟩];exact A4 B3
 ·refine zz 5 ?_;refine⟨i+1,⟨b,?_⟩,by omega,(Sees.of lf lo)⟩;rw[List.take_add_one,z,Option.toList_some,List.any_append,h,Bool.false_or,List.any_cons,List.any_nil,Bool.or_false];exact d
theorem vT(f:FuncId)(α:Type)(a:Nat)(c:α->Nat->Cell)(v:α)(b:Str×Str->Bool)(l:List (Str×Str))(j:l.length<=1073741824)(g:∀x∈l,AL.Met Tryz.prog f [OP x,.one (.eref α a c v 0)] [] [] [] (fun d ob'=>d=[mG (b x)]/\ob'=[])) :
  AL.Met Tryz.prog 38 [.one (.p (.list (Str×Str) 2 fX l)),.one (.fncE f α a c v)] [] [] [] (fun d ob'=>d=[mG (l.any b)]/\ob'=[]):=by
 refine AL.Met.intro Tryz.func38 F2 A0 A0 A0 (zz 8 ?_);refine eK (FB f α a c v b l j g) A0 A0 A0 A0 ?_;rintro _ _ ⟨⟨i,rfl,h⟩,rfl⟩;refine⟨rfl,?_⟩;refine zz 3 ?_;refine zz 1 ?_;exact C7 (F1 rfl rfl) gM (ObIn.spec (ob':=[]) trivial) ⟨by rw[<-h],rfl⟩
def aU(B:List (List (Str×Str)))(i:Nat):List (Str×Str):=(B.take i).flatten
theorem xK{B:List (List (Str×Str))}{i:Nat}(h:i<B.length):aU B (i+1)=aU B i++B[i]:=by
 unfold aU;rw[List.take_add_one,B44 h,Option.toList_some,B87];simp
theorem GX:∀{B:List (List (Str×Str))},(∀l∈B,l.length<=400)->B.flatten.length<=400*B.length
 | [],_=>by simp
 | l::B,h=>by
  have:=GX fun x a=>h x (List.mem_cons_of_mem l a);have:=h l List.mem_cons_self;rw[B82,B48,B49];omega
theorem kZ{B:List (List (Str×Str))}(a:FewB B)(i:Nat):(aU B i).length<=13200:=by
 have b:=GX (B:=B.take i) fun l c=>a.lens l (List.mem_of_mem_take c);have d:=a.len;rw[B54]at b;unfold aU;omega
abbrev XJ(l:List (Str×Str)):Ob:=.grow 54 (Str×Str) 2 fX l
end Go.Proofs.YtabbdaafimcjhaaGreatDoor
