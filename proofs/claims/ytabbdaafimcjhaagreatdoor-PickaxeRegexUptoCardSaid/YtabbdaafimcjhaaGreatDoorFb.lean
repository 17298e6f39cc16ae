
/- Walks of the program's functions. -/
import Derived.RangeFuncBound
import Derived.RangeFuncOwn
import Derived.OwnWalkIn
import Derived.TacticsInMore
import Derived.LoopNIn
import Derived.LoopIn
import Derived.Test.YtabbdaafimcjhaaGreatDoorFa
import Derived.Lib.Bytealg
set_option linter.all false
namespace Go.Proofs.YtabbdaafimcjhaaGreatDoor
open Go Go.RowKit Go.AL
open Tryz (prog)
attribute [local go_sem] Oper.semAt_some
set_option maxRecDepth 100000
set_option maxHeartbeats 4000000
theorem sE:∀(a r b:Str),47∉a->L3 b (a++47::r)=(b++a)::L3 [] r
 | [],r,b,_=>by simp[L3]
 | x::a,r,b,h=>by
  have c:x≠47:=fun e=>h (by simp[e]);rw[C92,L3,A7 c,sE a r _ (fun e=>h (by simp[e])),C65];rfl
theorem sF:∀(a b:Str),47∉a->L3 b a=[b++a]
 | [],b,_=>by simp[L3]
 | x::a,b,h=>by
  have c:x≠47:=fun e=>h (by simp[e]);rw[L3,A7 c,sF a _ (fun e=>h (by simp[e])),C65];rfl
theorem x6{W:World}{B:Nat}{v:Value}{t:TypeId}(h:W.heap[B]?=some (.cells #[v] t (0,0))):W.cell? ⟨B,0,none⟩=some v/\W.frozen? ⟨B,0,none⟩=false:=by
 constructor<;>simp[World.cell?,World.frozen?,h]
structure RInv (rec:LoopState->Option Code->Loop) (n0:Nat) (w0:World) (l D b2 bs bp bv:Nat) (rest:Str) (W:World):Prop where
 s:W.heap[bs]?=some (.cells #[.string ⟨rest.toArray⟩] 9 (0,0))
 p:W.heap[bp]?=some (.cells #[.string ⟨#[47]⟩] 9 (0,0))
 v:W.heap[bv]?=some (.cells #[.int .i64 0] 3 (0,0))
 r:W.heap[b2]?=some (.cells #[.int .i64 0] 27 (0,0))
 l:W.heap[l]?=some (.loop (rec .ready none))
 d:W.heap[D]?=some (.deferred (some []))
 b:Below n0 w0 W
structure RFin (rec:LoopState->Option Code->Loop) (n0:Nat) (w0:World) (l D b2:Nat) (W:World):Prop where
 r:W.heap[b2]?=some (.cells #[.int .i64 210] 27 (0,0))
 l:W.heap[l]?=some (.loop (rec .done (some .ret)))
 d:W.heap[D]?=some (.deferred (some []))
 b:Below n0 w0 W
def leftIn(a:Nat)(W:World):Nat:=match W.cell? ⟨a,0,none⟩ with | some (.string s)=>s.size | _=>0
theorem dJ{W:World}{B:Nat}{v f:Value}{t:TypeId}(h:W.heap[B]?=some (.cells #[v] t (0,0))):(W.setCell ⟨B,0,none⟩ f).heap[B]?=some (.cells #[f] t (0,0)):=by
 obtain⟨d,b⟩:=C58.1 h;show (W.heap.modify B _)[B]?=_;rw[Array.getElem?_eq_getElem (by rw[Array.size_modify];exact d),Array.getElem_modify_self,b];rfl
theorem RInv.step{rec:LoopState->Option Code->Loop}{m:Nat}{o:World}{l D e c f j:Nat}{rest:Str}{W:World}(h:RInv rec m o l D e c f j rest W)(k:c≠f/\c≠j/\c≠e/\c≠l/\c≠D/\m<=c)(r:Str) :
  RInv rec m o l D e c f j r (W.setCell ⟨c,0,none⟩ (.string ⟨r.toArray⟩)):=by
 obtain⟨q,u,w,x,y,z⟩:=k;exact⟨dJ h.s,(Below.heap_setCell W _ _ _ (Ne.symm q)).trans h.p,(Below.heap_setCell W _ _ _ (Ne.symm u)).trans h.v,(Below.heap_setCell W _ _ _ (Ne.symm w)).trans h.r,(Below.heap_setCell W _ _ _ (Ne.symm x)).trans h.l,(Below.heap_setCell W _ _ _ (Ne.symm y)).trans h.d,h.b.setCell (p:=⟨c,0,none⟩) z _⟩
theorem QS{rec:LoopState->Option Code->Loop}{n0:Nat}{w0:World}{l D b2 bs bp bv:Nat}(hne:bs≠bp/\bs≠bv/\bs≠b2/\bs≠l/\bs≠D/\n0<=bs)
  (hIdx:∀(s:Str) (w:World),Calls prog 170 #[.string ⟨s.toArray⟩,.string ⟨#[47]⟩] w (fun e w'=>e=.returned (.int .i64 (Lib.indexByte s 47))/\w'=w))
  (hY:∀rest x W,RInv rec n0 w0 l D b2 bs bp bv rest W->YieldAt Fence.wide 3 prog l #[.string ⟨x.toArray⟩] W (fun e W'=>(S5 x=true/\e=.returned (.bool true)/\RInv rec n0 w0 l D b2 bs bp bv rest W')\/(S5 x=false/\e=.returned (.bool false)/\RFin rec n0 w0 l D b2 W')))
  (p:Str)(hp:p.length<=1073741824)(W:World)(hI:RInv rec n0 w0 l D b2 bs bp bv p W) :
  CallsIn Fence.wide 4 prog 227 #[.func (.yield l) #[] #[],.pointer (some ⟨bp,0,none⟩),.pointer (some ⟨bs,0,none⟩),.pointer (some ⟨bv,0,none⟩)] W (fun e W'=>(∃v,e=.returned v) /\
   (((L3 [] p).all S5=true/\∃rest,RInv rec n0 w0 l D b2 bs bp bv rest W')\/((L3 [] p).all S5=false/\RFin rec n0 w0 l D b2 W'))):=by
 refine callsIn_of_wp Tryz.func227 rfl trivial ?_ rfl;simp only[Tryz.ntmps227,List.size_toArray,C46,List.length_nil,Nat.reduceAdd,Nat.reduceSub,Array.replicate_succ,Array.replicate_zero,List.push_toArray,List.append_toArray,D06,C92];have hcp:=x6 hI.p
 gi_wp2
 gi_loopw [7] (fun v wr=>∃rest:Str,rest.length<=p.length/\(L3 [] p).all S5=(L3 [] rest).all S5/\RInv rec n0 w0 l D b2 bs bp bv rest wr) (fun v wr=>leftIn bs wr)
 case atStart=>exact⟨p,C45 _,rfl,hI⟩
 case round =>
  obtain⟨rest,hl,hall,hR⟩:=hrel;obtain⟨hs1,hs2⟩:=x6 hR.s;obtain⟨hp1,hp2⟩:=x6 hR.p;obtain⟨hv1,hv2⟩:=x6 hR.v;rcases bA 47 rest with ⟨h1,h2⟩ | ⟨x,r,h1,h2,h3⟩
  ·rw[sF _ _ h1]at hall;obtain⟨fn,tmps,assign,body,hy,hRd⟩:=hY rest rest wr hR
   gi_wp2_with (refine⟨trivial,?_⟩;gi_at_call 170;refine (callsIn_wide.2 (hIdx rest _)).mono ?_;rintro e w' ⟨rfl,rfl⟩;rw[h2])
   refine hRd.mono ?_;rintro e W' (⟨h5,rfl,h6⟩ | ⟨h5,rfl,h6⟩)
   ·gi_wp2
    go_end0
    exact⟨⟨_,rfl⟩,.inl ⟨by simp[hall,h5],rest,h6⟩⟩
   ·gi_wp2
    go_end0
    exact⟨⟨_,rfl⟩,.inr ⟨by simp[hall,h5],h6⟩⟩
  ·subst h1;rw[sE _ _ _ h2,List.all_cons]at hall;have hxl:x.length<(x++47::r).length:=by simp
   have hex:(⟨(x++47::r).toArray⟩:ByteArray).extract 0 x.length=⟨x.toArray⟩:=by
    apply ByteArray.ext;rw[ByteArray.data_extract];simp
   have hex2:(⟨(x++47::r).toArray⟩:ByteArray).extract (x.length+1) (x.length+(r.length+1))=⟨r.toArray⟩:=by
    apply ByteArray.ext;rw[ByteArray.data_extract];simp;exact C83 B1
   obtain⟨fn,tmps,assign,body,hy,hRd⟩:=hY _ x wr hR
   gi_wp2_with (refine⟨trivial,?_⟩;gi_at_call 170;refine (callsIn_wide.2 (hIdx _ _)).mono ?_;rintro e w' ⟨rfl,rfl⟩;rw[h3])
   refine hRd.mono ?_;rintro e W' (⟨h5,rfl,h6⟩ | ⟨h5,rfl,h6⟩)
   ·obtain⟨hs3,hs4⟩:=x6 h6.s;obtain⟨hp3,hp4⟩:=x6 h6.p
    gi_wp2
    try rw[hex2]
    have h7:=h6.step hne r;refine⟨⟨r,by simp at hl;omega,by simp[hall,h5],h7⟩,?_⟩;unfold leftIn;rw[(x6 h7.s).1,hs1];show r.toArray.size<(x++47::r).toArray.size;simp;omega
   ·gi_wp2
    refine bodyPost_ret (results_none A0 _ _ _) A0 ?_;exact⟨⟨_,rfl⟩,.inr ⟨by simp[hall,h5],h6⟩⟩
def chkPost(b:Nat)(x:Str)(W:World):Exit->Act->World->Prop
 | .normal,_,W'=>S5 x=true/\W'=W
 | .ret,_,W'=>S5 x=false/\W'=W.setCell ⟨b,0,none⟩ (.int .i64 210)
 | _,_,_=>False
theorem QT{ps:Array Tmp}{assign body:Code}{Q:Exit->Act->World->Prop}{a:Act}{w:World}{g:Operand}{b2 bs bp bv:Nat}{n0:Nat}{w0:World}{p:Str}(hp:p.length<=1073741824)
  (hne:bs≠bp/\bs≠bv/\bs≠b2/\n0<=bs/\n0<=b2)(hlt:bs<w.heap.size/\b2<w.heap.size/\n0<=w.heap.size)(hps:ps.size=1)
  (hIdx:∀(s:Str) (w:World),Calls prog 170 #[.string ⟨s.toArray⟩,.string ⟨#[47]⟩] w (fun e w'=>e=.returned (.int .i64 (Lib.indexByte s 47))/\w'=w))
  (hg:a.eval g=.func (.func 227) #[] #[.pointer (some ⟨bp,0,none⟩),.pointer (some ⟨bs,0,none⟩),.pointer (some ⟨bv,0,none⟩)])
  (hs:w.heap[bs]?=some (.cells #[.string ⟨p.toArray⟩] 9 (0,0)))(hsp:w.heap[bp]?=some (.cells #[.string ⟨#[47]⟩] 9 (0,0)))(hsv:w.heap[bv]?=some (.cells #[.int .i64 0] 3 (0,0)))(hr:w.heap[b2]?=some (.cells #[.int .i64 0] 27 (0,0)))(hb:Below n0 w0 w)
  (a₁:Str->Act)
  (hassign:∀(l:Nat) (x:Str) (W:World) (K:Act->World->Prop),K (a₁ x) W ->
   assign.wpIn (Fence.wide.inRound l) 3 prog (Exit.then K (fun _ _ _=>False)) { tmps:=(ps.zip #[Value.string ⟨x.toArray⟩]).foldl (fun t (p,v)=>t.setIfInBounds p v) a.tmps,defers:=[] } W)
  (hbody:∀(l:Nat) (x:Str) (W:World),W.heap[b2]?=some (.cells #[.int .i64 0] 27 (0,0))->body.wpIn (Fence.wide.inRound l) 3 prog (chkPost b2 x W) (a₁ x) W)
  (hdone:∀(D:Nat) (W:World),w.heap.size<=D->(L3 [] p).all S5=true->W.heap[b2]?=some (.cells #[.int .i64 0] 27 (0,0))->W.heap[D]?=some (.deferred (some []))->Below n0 w0 W->Q .normal { a with defers:={ target:=.collected D,args:=#[] }::a.defers } W)
  (hstop:∀(D:Nat) (W:World),w.heap.size<=D->(L3 [] p).all S5=false->W.heap[b2]?=some (.cells #[.int .i64 210] 27 (0,0))->W.heap[D]?=some (.deferred (some []))->Below n0 w0 W->Code.ret.wpIn Fence.wide 5 prog Q { a with defers:={ target:=.collected D,args:=#[] }::a.defers } W) :
  (Code.rangeFunc g ps assign body).wpIn Fence.wide 5 prog Q a w:=by
 refine wpIn_rangeFunc ?_;intro fn hfn;obtain⟨rec,hrec⟩:∃rec:LoopState->Option Code->Loop,rec=fun st pe=>{ state:=st,pending:=pe,fn,tmps:=a.tmps,params:=ps,assign,body,defers:=w.heap.size }:=⟨_,rfl⟩
 obtain⟨W1,hW1⟩:∃W1,(w.alloc (.deferred (some []))).alloc (.loop (rec .ready none))=W1:=⟨_,rfl⟩
 have old:∀k o,w.heap[k]?=some o->W1.heap[k]?=some o:=fun k o h=>by
  have hlt:=(C58.1 h).1;rw[<-hW1];exact (Below.heap_alloc _ _ _ (by rw[World.size_alloc];omega)).trans ((Below.heap_alloc _ _ _ hlt).trans h)
 have hL1:W1.heap[w.heap.size+1]?=some (.loop (rec .ready none)):=by
  rw[<-hW1];have:=World.alloc_heap_new (w.alloc (.deferred (some []))) (.loop (rec .ready none));rwa[World.size_alloc]at this
 have hK1:W1.heap[w.heap.size]?=some (.deferred (some [])):=by
  rw[<-hW1];exact (Below.heap_alloc _ _ _ dV).trans (World.alloc_heap_new w _)
 have hb1:Below n0 w0 W1:=by
  rw[<-hW1];exact hb.trans (((Below.refl n0 w).alloc hlt.2.2 _).alloc b7y _)
 refine⟨w.heap.size+1,[{ target:=.collected w.heap.size,args:=#[] }],W1,{ target:=.fn (.func 227) #[.pointer (some ⟨bp,0,none⟩),.pointer (some ⟨bs,0,none⟩),.pointer (some ⟨bv,0,none⟩)],args:=#[.func (.yield (w.heap.size+1)) #[] #[]] },W1,227,
  #[.func (.yield (w.heap.size+1)) #[] #[],.pointer (some ⟨bp,0,none⟩),.pointer (some ⟨bs,0,none⟩),.pointer (some ⟨bv,0,none⟩)],W1,?_,?_,?_,?_,fun _=>by omega,?_⟩
 ·rw[<-hW1,hrec];exact run_enterLoop_outer _ _ _ _ _
 ·simp only[resolve,hg];simp[go_sem]
 ·intro f' hf';trivial
 ·simp[invoke,go_sem]
 ·have hY:∀rest x W,RInv rec n0 w0 (w.heap.size+1) w.heap.size b2 bs bp bv rest W->YieldAt Fence.wide 3 prog (w.heap.size+1) #[.string ⟨x.toArray⟩] W (fun e W'=>(S5 x=true/\e=.returned (.bool true)/\RInv rec n0 w0 (w.heap.size+1) w.heap.size b2 bs bp bv rest W')\/(S5 x=false/\e=.returned (.bool false)/\RFin rec n0 w0 (w.heap.size+1) w.heap.size b2 W')):=by
   intro rest x W hI;have hy:=run_yield (P:=prog) (args:=#[Value.string ⟨x.toArray⟩]) hI.l (by rw[hrec];exact hps.symm);rw[hrec]at hy;refine⟨fn,_,assign,body,hy,roundIn_of_wpIn hfn (hassign _ x W _ ⟨_,run_beginRound hI.l (by rw[hrec]),?_⟩)⟩;have hltl:w.heap.size+1<W.heap.size:=(C58.1 hI.l).1;obtain⟨W2,hW2⟩:∃W2,W.putObj (w.heap.size+1) (.loop { rec .ready none with state:=.busy })=W2:=⟨_,rfl⟩
   rw[hW2];have oth:∀k,k≠w.heap.size+1->W2.heap[k]?=W.heap[k]?:=fun k hk=>by rw[<-hW2];exact World.putObj_heap_other hk
   have hl2:W2.heap[w.heap.size+1]?=some (.loop { rec .ready none with state:=.busy }):=by rw[<-hW2];exact World.putObj_heap_same hltl
   have hbB:∀(o:Obj) (X:World),Below n0 w0 X->w.heap.size+1<X.heap.size->Below n0 w0 (X.putObj (w.heap.size+1) o):=fun o X hX hXs=>hX.grown (grownBy_putObj' X _ o) (by have:=hX.size;omega) (fun k e=>by cases e;omega);have hb2:Below n0 w0 W2:=by rw[<-hW2];exact hbB _ _ hI.b hltl
   refine wpIn_mono (hbody _ x W2 ((oth _ B1).trans hI.r)) ?_;rintro e a3 W3 hp;cases e with
   | normal =>
    obtain⟨hok,rfl⟩:=hp;refine⟨_,_,run_endRound none hl2,.inl ⟨hok,rfl,?_⟩⟩;have fin:∀k,k≠w.heap.size+1->(W3.putObj (w.heap.size+1) (.loop { rec .ready none with state:=.ready,pending:=none })).heap[k]?=W.heap[k]?:=fun k hk=>(World.putObj_heap_other hk).trans (oth k hk);have hsz:w.heap.size+1<W3.heap.size:=(C58.1 hl2).1;have hbs:=(C58.1 hs).1;have hbp:=(C58.1 hsp).1;have hbv:=(C58.1 hsv).1;refine⟨(fin _ B1).trans hI.s,(fin _ B1).trans hI.p,(fin _ B1).trans hI.v,(fin _ B1).trans hI.r,?_,(fin _ B1).trans hI.d,hbB _ _ hb2 hsz⟩;refine (World.putObj_heap_same hsz).trans ?_;rw[hrec];rfl
   | ret =>
    obtain⟨hok,rfl⟩:=hp;have hl3:(W2.setCell ⟨b2,0,none⟩ (.int .i64 210)).heap[w.heap.size+1]?=some (.loop { rec .ready none with state:=.busy }):=(Below.heap_setCell W2 _ _ _ (by show w.heap.size+1≠b2;omega)).trans hl2;have hsz:w.heap.size+1<(W2.setCell ⟨b2,0,none⟩ (.int .i64 210)).heap.size:=(C58.1 hl3).1;refine⟨_,_,run_endRound (some .ret) hl3,.inr ⟨hok,rfl,?_⟩⟩;refine⟨(World.putObj_heap_other B1).trans (dJ ((oth _ B1).trans hI.r)),?_,?_,hbB _ _ (hb2.setCell (p:=⟨b2,0,none⟩) hne.2.2.2.2 _) hsz⟩
    ·refine (World.putObj_heap_same hsz).trans ?_;rw[hrec];rfl
    ·exact (World.putObj_heap_other B1).trans ((Below.heap_setCell W2 _ _ _ (by show w.heap.size≠b2;omega)).trans ((oth _ B1).trans hI.d))
   | _=>exact hp.elim
  refine (QS ⟨hne.1,hne.2.1,hne.2.2.1,by omega,by omega,hne.2.2.2.1⟩ hIdx hY p hp W1 ⟨old _ _ hs,old _ _ hsp,old _ _ hsv,old _ _ hr,hL1,hK1,hb1⟩).mono ?_;have hbE:∀(o:Obj) (X:World),Below n0 w0 X->w.heap.size+1<X.heap.size->Below n0 w0 (X.putObj (w.heap.size+1) o):=fun o X hX hXs=>hX.grown (grownBy_putObj' X _ o) (by have:=hX.size;omega) (fun k e=>by cases e;omega);rintro e W2 ⟨⟨v,rfl⟩,(⟨hall,rest,hI⟩ | ⟨hall,hI⟩)⟩
  ·have hsz:w.heap.size+1<W2.heap.size:=(C58.1 hI.l).1;refine⟨none,_,by have:=run_endLoop (P:=prog) hI.l (by rw[hrec];simp);rw[hrec]at this;exact this,?_⟩;exact hdone _ _ (C45 _) hall ((World.putObj_heap_other B1).trans hI.r) ((World.putObj_heap_other B1).trans hI.d) (hbE _ _ hI.b hsz)
  ·have hsz:w.heap.size+1<W2.heap.size:=(C58.1 hI.l).1;refine⟨some .ret,_,by have:=run_endLoop (P:=prog) hI.l (by rw[hrec];simp);rw[hrec]at this;exact this,?_⟩;exact hstop _ _ (C45 _) hall ((World.putObj_heap_other B1).trans hI.r) ((World.putObj_heap_other B1).trans hI.d) (hbE _ _ hI.b hsz)
theorem QU(w:World)(s p:ByteArray):CallsIn Fence.wide 3 prog 200 #[.string s,.string p,.int .i64 0] w fun e w' =>
  e=.returned (.func (.func 227) #[] #[.pointer (some ⟨w.heap.size+1,0,none⟩),.pointer (some ⟨w.heap.size,0,none⟩),.pointer (some ⟨w.heap.size+1+1,0,none⟩)]) /\
  w'=((w.alloc (.cells #[.string s] 9)).alloc (.cells #[.string p] 9)).alloc (.cells #[.int .i64 0] 3):=by
 have hmf:∀(fn:Fn) (first cap:Array Value) (w:World),(Instr.makeFunc fn first cap).run prog w=.ok (.func fn first cap) w:=fun _ _ _ _=>rfl;refine callsIn_of_wp Tryz.func200 rfl trivial ?_ rfl;simp only[Tryz.ntmps200,List.size_toArray,C46,List.length_nil,Nat.reduceAdd,Nat.reduceSub,Array.replicate_succ,Array.replicate_zero,List.push_toArray,List.append_toArray,D06,C92]
 gi_wp2
 go_ret
 exact⟨rfl,rfl⟩
theorem QV(w:World)(s p:ByteArray):CallsIn Fence.wide 4 prog 184 #[.string s,.string p] w fun e w' =>
  e=.returned (.func (.func 227) #[] #[.pointer (some ⟨w.heap.size+1,0,none⟩),.pointer (some ⟨w.heap.size,0,none⟩),.pointer (some ⟨w.heap.size+1+1,0,none⟩)]) /\
  w'=((w.alloc (.cells #[.string s] 9)).alloc (.cells #[.string p] 9)).alloc (.cells #[.int .i64 0] 3):=by
 refine callsIn_of_wp Tryz.func184 rfl trivial ?_ rfl;simp only[Tryz.ntmps184,List.size_toArray,C46,List.length_nil,Nat.reduceAdd,Nat.reduceSub,Array.replicate_succ,Array.replicate_zero,List.push_toArray,List.append_toArray,D06,C92]
 gi_wp2_with (refine⟨trivial,?_⟩;gi_at_call 200;refine (QU _ _ _).mono ?_;rintro e w' ⟨rfl,rfl⟩)
 go_ret
 exact⟨rfl,rfl⟩
theorem vE{tmps:Array Value}{b:Nat}{v:Value}{W:World}(ht:tmps[2]?.getD undef=.pointer (some ⟨b,0,none⟩))(hc:W.heap[b]?=some (.cells #[v] 27 (0,0))):(results Tryz.f160 tmps).run prog W=.ok v W:=by
 have h1:=(x6 hc).1;simp[results,Tryz.results160,go_sem,h1,ht]
theorem MP(p:Str)(hp:p.length<=1073741824)
  (hIdx:∀(s:Str) (w:World),Calls prog 170 #[.string ⟨s.toArray⟩,.string ⟨#[47]⟩] w (fun e w'=>e=.returned (.int .i64 (Lib.indexByte s 47))/\w'=w))
  (hCon:∀(s:Str) (w:World),Calls prog 183 #[.string ⟨s.toArray⟩,.string ⟨#[0]⟩] w (fun e w'=>e=.returned (.bool (decide (0<=Lib.indexByte s 0)))/\w'=w))(w:World) :
  CallsIn Fence.wide 5 prog 160 #[.string ⟨p.toArray⟩] w (fun e w'=>e=.returned (.int .i64 (if p.length>200\/0<=Lib.indexByte p 0 then 210 else if (L3 [] p).all S5=true then 0 else 210))/\Below w.heap.size w w'):=by
 refine callsIn_of_wp_marks Tryz.func160 rfl trivial ?_ rfl;simp only[Tryz.ntmps160,List.size_toArray,C46,List.length_nil,Nat.reduceAdd,Nat.reduceSub,Array.replicate_succ,Array.replicate_zero,List.push_toArray,List.append_toArray,D06,C92];have hnew:=x6 (World.alloc_heap_new w (.cells #[.int .i64 0] 27));have hB:Below w.heap.size w (w.alloc (.cells #[.int .i64 0] 27)):=(Below.refl _ w).alloc (C45 _) _;by_cases h1:200<p.length
 ·rw[A6 (.inl h1)]
  gi_wp2_with (refine⟨trivial,?_⟩)
  exact⟨_,vE rfl (World.alloc_heap_new w _),rfl,(Below.refl _ w).alloc (C45 _) _⟩
 by_cases h2:0<=Lib.indexByte p 0
 ·rw[A6 (.inr h2)]
  gi_wp2_with (refine⟨trivial,?_⟩;gi_at_call 183;refine (callsIn_wide.2 (hCon p _)).mono ?_;rintro e w' ⟨rfl,rfl⟩)
  exact⟨_,vE rfl (World.alloc_heap_new w _),rfl,(Below.refl _ w).alloc (C45 _) _⟩
 ·rw[A7 B1];obtain⟨r,hr0⟩:∃r:Int,(if (L3 [] p).all S5=true then 0 else 210:Int)=r:=⟨_,rfl⟩
  rw[hr0]
  gi_wp2_with (first | (refine⟨trivial,?_⟩;gi_at_call 183;refine (callsIn_wide.2 (hCon p _)).mono ?_;rintro e w' ⟨rfl,rfl⟩) | (refine⟨trivial,?_⟩;gi_at_call 184;refine (QV _ _ _).mono ?_;rintro e w' ⟨rfl,rfl⟩))
  obtain⟨W0,hW0⟩:∃W0,(((w.alloc (.cells #[.int .i64 0] 27)).alloc (.cells #[.string ⟨p.toArray⟩] 9)).alloc (.cells #[.string ⟨#[47]⟩] 9)).alloc (.cells #[.int .i64 0] 3)=W0:=⟨_,rfl⟩
  have hsz:W0.heap.size=w.heap.size+4:=by rw[<-hW0];simp
  have g0:W0.heap[w.heap.size]?=some (.cells #[.int .i64 0] 27 (0,0)):=by
   rw[<-hW0];refine (Below.heap_alloc _ _ _ b7y).trans ((Below.heap_alloc _ _ _ b7y).trans ((Below.heap_alloc _ _ _ dV).trans (World.alloc_heap_new w _)))
  have g1:W0.heap[w.heap.size+1]?=some (.cells #[.string ⟨p.toArray⟩] 9 (0,0)):=by
   rw[<-hW0];refine (Below.heap_alloc _ _ _ dV).trans ((Below.heap_alloc _ _ _ dV).trans ?_);have:=World.alloc_heap_new (w.alloc (.cells #[.int .i64 0] 27)) (.cells #[.string ⟨p.toArray⟩] 9)
   rwa[World.size_alloc]at this
  have g2:W0.heap[w.heap.size+1+1]?=some (.cells #[.string ⟨#[47]⟩] 9 (0,0)):=by
   rw[<-hW0];refine (Below.heap_alloc _ _ _ dV).trans ?_;have:=World.alloc_heap_new ((w.alloc (.cells #[.int .i64 0] 27)).alloc (.cells #[.string ⟨p.toArray⟩] 9)) (.cells #[.string ⟨#[47]⟩] 9);simp only[World.size_alloc]at this;exact this
  have g3:W0.heap[w.heap.size+1+1+1]?=some (.cells #[.int .i64 0] 3 (0,0)):=by
   rw[<-hW0];have:=World.alloc_heap_new (((w.alloc (.cells #[.int .i64 0] 27)).alloc (.cells #[.string ⟨p.toArray⟩] 9)).alloc (.cells #[.string ⟨#[47]⟩] 9)) (.cells #[.int .i64 0] 3);simp only[World.size_alloc]at this;exact this
  have hb0:Below w.heap.size w W0:=by
   rw[<-hW0];exact (((hB.alloc dV _).alloc b7y _).alloc b7y _)
  rw[hW0];refine QT (b2:=w.heap.size) (bs:=w.heap.size+1) (bp:=w.heap.size+1+1) (bv:=w.heap.size+1+1+1) (n0:=w.heap.size) (w0:=w) (p:=p) hp B1 B1 rfl hIdx rfl g1 g2 g3 g0 hb0 (fun x=>{ tmps:=#[.string ⟨p.toArray⟩,undef,.pointer (some ⟨w.heap.size,0,none⟩),.string ⟨x.toArray⟩,.string ⟨p.toArray⟩,.int .i64 p.length,.bool (decide (200<(p.length:Int))),.bool (decide (200<(p.length:Int))),.string ⟨p.toArray⟩,.bool (decide (0<=Lib.indexByte p 0)),.bool (decide (200<(p.length:Int))||decide (0<=Lib.indexByte p 0)),.string ⟨p.toArray⟩,.func (.func 227) #[] #[.pointer (some ⟨w.heap.size+1+1,0,none⟩),.pointer (some ⟨w.heap.size+1,0,none⟩),.pointer (some ⟨w.heap.size+1+1+1,0,none⟩)],.string ⟨x.toArray⟩,undef,undef,undef,undef,undef,undef,undef,undef,undef,undef],defers:=[] }) ?assign ?body ?done ?stop
  case assign =>
   intro l x W K hK
   gi_wp2
   exact hK
  case body =>
   intro l x W hr;obtain⟨hc1,hc2⟩:=x6 hr;by_cases e1:x=[]
   ·subst e1
    gi_wp2
    exact⟨rfl,rfl⟩
   by_cases e2:x=[46]
   ·subst e2
    gi_wp2
    exact⟨rfl,rfl⟩
   by_cases e3:x=[46,46]
   ·subst e3
    gi_wp2
    exact⟨rfl,rfl⟩
   have f1:x.isEmpty=false:=by cases x with | nil=>exact absurd rfl e1 | cons _ _=>rfl
   have f2:(x == [46])=false:=by simpa using e2
   have f3:(x == [46,46])=false:=by simpa using e3
   have hok:S5 x=true:=A4 ⟨e1,e2,e3⟩;clear e1 e2 e3
   gi_wp2
   all_goals exact⟨hok,rfl⟩
  case done =>
   intro D W hD hall hr hK hb;obtain⟨hc1,hc2⟩:=x6 hr;rw[A6 hall]at hr0;subst hr0;clear hall
   gi_wp2
   have hK2:(W.setCell ⟨w.heap.size,0,none⟩ (.int .i64 0)).heap[D]?=some (.deferred (some [])):=(Below.heap_setCell W _ _ _ (by show D≠w.heap.size;omega)).trans hK;refine⟨by simp,.inl ⟨_,_,rfl,run_takeDeferred hK2,?_⟩⟩;refine⟨_,vE rfl ((World.putObj_heap_other B1).trans (dJ hr)),rfl,?_⟩;have hb3:=hb.setCell (p:=⟨w.heap.size,0,none⟩) (C45 _) (.int .i64 0);exact hb3.grown (grownBy_putObj' _ _ _) (by have:=hb3.size;omega) (fun k e=>by cases e;omega)
  case stop =>
   intro D W hD hall hr hK hb;rw[hall,A7 F1]at hr0;subst hr0;clear hall
   gi_wp2
   refine⟨by simp,.inl ⟨_,_,rfl,run_takeDeferred hK,?_⟩⟩;refine⟨_,vE rfl ((World.putObj_heap_other B1).trans hr),rfl,?_⟩;exact hb.grown (grownBy_putObj' W _ _) (by have:=hb.size;omega) (fun k e=>by cases e;omega)
theorem HO(p:Str)(b:p.length<=1073741824):FnOk prog 160 [F6 p] (fun c=>c=[C8 (N8 p)]) :=
 C15 (xs:=[.string ⟨p.toArray⟩]) ⟨_,rfl,rfl,rfl⟩ rfl fun w d=>by
  have h:=callsIn_wide.1 (MP p b (fun s w=>by simpa using Tryz.strings_Index_one ⟨s.toArray⟩ 47 w) (fun s w=>by simpa using Tryz.strings_Contains_one ⟨s.toArray⟩ 0 w) w);refine h.mono ?_;rintro e w' ⟨rfl,hb⟩;refine⟨?_,hb⟩;rw[NR];have a:p.contains 0=true↔0<=Lib.indexByte p 0:=by rw[kJ,List.contains_iff_mem]
  simp only[a]
structure FewF (l:List File):Prop where
 len:l.length<=1073741824
 path:∀f∈l,f.Path.length<=1073741824
 blob:∀f∈l,f.Blob.length<=16777216
theorem VN(f:File)(a:f.Path.length<=1073741824):FnOk prog 159 [A18 f] (fun rs=>rs=[E1 (decide (N8 f.Path≠0))]):=by
 refine FnOk.intro Tryz.func159 F1 A0 A0 A0 A0 (F5 ?_);refine C2 (w9 1 A0 A0 A0) A0 (J0 ?_);refine E2 (HO f.Path a) (P1 ?_);exact A9 M1 rfl
theorem VO(f:File)(a:f.Blob.length<=16777216):FnOk prog 162 [A18 f] (fun rs=>rs=[E1 (decide (I6 f.Blob≠0))]):=by
 refine FnOk.intro Tryz.func162 F1 A0 A0 A0 A0 (F5 ?_);refine C2 (w9 1 A0 A0 A0) A0 (J0 ?_);refine E2 (JG f.Blob B1) (P1 ?_);exact A9 M1 rfl
theorem tH(l:List File)(h:FewF l):FnOk prog 116 [R5 l] (fun rs=>rs=[C8 (E8 l)]):=by
 have d:=h.len;refine FnOk.intro Tryz.func116 F1 A0 A0 A0 A0 ?_;refine zc 13 (fun a=>?_) fun a=>?_
 ·have g:(200:Int)<l.length:=A1 a;refine I2 ?_;exact A9 (rs:=[C8 1]) M1 (by unfold E8;rw[A6 B1])
 have g:¬(200:Int)<l.length:=A3 a;refine H3 ?_;refine E2 (nZ 159 (fun f=>decide (N8 f.Path≠0)) l d (fun f c=>VN f (h.path f c))) ?_;refine zc 2 (fun a=>?_) fun a=>?_
 ·refine I2 ?_;exact A9 (rs:=[C8 210]) M1 (by unfold E8;rw[A7 B1,A6 a])
 have b:=a;refine H3 ?_;refine E2 (QP l d h.path) ?_;refine zc 3 (fun a=>?_) fun a=>?_
 ·refine I2 ?_;exact A9 (rs:=[C8 211]) M1 (by unfold E8;rw[A7 B1,A7 (by rw[b];decide),A6 (by simpa using a)])
 have e:O8 l=true:=by simpa using a
 refine H3 ?_;refine E2 (nZ 162 (fun f=>decide (I6 f.Blob≠0)) l d (fun f c=>VO f (h.blob f c))) ?_;refine zc 2 (fun a=>?_) fun a=>?_
 ·refine I2 ?_;exact A9 (rs:=[C8 1]) M1 (by unfold E8;rw[A7 B1,A7 (by rw[b];decide),A7 (by rw[e];decide),A6 a])
 ·refine J0 ?_;exact A9 (rs:=[C8 0]) M1 (by unfold E8;rw[A7 B1,A7 (by rw[b];decide),A7 (by rw[e];decide),A7 (by rw[a];decide)])
theorem B48(a b:List File)(ha:FewF a)(hb:FewF b):FnOk prog 163 [R5 a,R5 b] (fun rs=>rs=[C8 (if E8 a≠0 then E8 a else E8 b)]):=by
 refine FnOk.intro Tryz.func163 F1 A0 A0 A0 A0 (R3 ?_);refine E2 (tH a ha) ?_;refine zc 7 (fun d=>?_) fun d=>?_
 ·have c:E8 a≠0:=A1 d;refine J0 ?_;exact A9 (rs:=[C8 (E8 a)]) M1 (by rw[A6 c])
 ·have c:¬E8 a≠0:=A3 d;refine P1 ?_;refine E2 (tH b hb) (H3 ?_);exact A9 (rs:=[C8 (E8 b)]) M1 (by rw[A7 c])
theorem QW(l:List File)(p:Str)(n:l.length<=1073741824):FnOk prog 79 [R5 l,F6 p] (fun rs=>rs=[F6 ((J7 l p).getD []),E1 (J7 l p).isSome]):=by
 refine FnOk.intro Tryz.func79 F1 A0 A0 A0 A0 (zz 13 ?_);refine B9 (X:=Nat) (fun i=>([(1,P6 p),(8,B8 File 2 U6 l),(9,B6 l.length),(10,B6 i)],[])) (fun i=>i<=l.length/\J7 l p=J7 (l.drop i) p) (fun i=>l.length-i) 0 ⟨C41 _,rfl⟩ (C1) ?_;rintro i ⟨k,a⟩;dsimp only at k a ⊢;refine zc 5 (fun d=>?_) fun d=>?_;rotate_left
 ·have b:i=l.length:=by have b:=A3 d;(try dsimp only at b);omega
  rw[C64 B1]at a;rw[a];refine I3 ?_;exact A9 (rs:=[F6 [],E1 false]) cN rfl
 have c:i<l.length:=by have b:=A1 d;(try dsimp only at b);omega
 obtain⟨f,h⟩:∃f,f=l[i]:=⟨_,rfl⟩
 have q:l[i]?=some f:=by rw[h];simp[c]
 rw[C57 c,<-h]at a;have j:J7 (f::l.drop (i+1)) p=if f.Path=p then some f.Blob else J7 (l.drop (i+1)) p:=rfl
 rw[j]at a;refine I3 ?_;refine C2 (H9 7 A0) A0 ?_;refine zc 9 (fun d=>?_) fun d=>?_
 ·have b:f.Path=p:=A1 d;rw[A6 b]at a;rw[a];refine R3 ?_;exact A9 (rs:=[F6 f.Blob,E1 true]) cN rfl
 ·have b:¬f.Path=p:=A3 d;rw[A7 b]at a;refine I2 ?_;exact⟨i+1,⟨c,a⟩,by omega,(C1)⟩
def oX(f x:File):Bool:=dL f.Path x.Path&&!above f.Path x.Path
theorem vF:∀(l:List File) (x:File),O8 (l++[x])=(O8 l&&l.all fun f=>oX f x)
 | [],x=>rfl
 | f::r,x=>by
  rw[C92,O8,O8,vF r x,D10,List.all_cons,List.all_cons,List.all_nil];unfold oX;cases (r.all fun x=>dL f.Path x.Path&&!above f.Path x.Path)<;>cases dL f.Path x.Path<;>cases above f.Path x.Path<;>cases O8 r<;>simp
theorem MQ:∀(l:List File) (i:Nat),O8 l=true->O8 (l.take i)=true:=by
 intro l;induction l with
 | nil=>intro i h;simpa using h
 | cons f r b =>
  intro i h;cases i with
  | zero=>rfl
  | succ i =>
   unfold O8 at h;rw[C39,C47]at h;rw[List.take_succ_cons];unfold O8;rw[C39,C47];exact⟨fun x a=>h.1 x (C97 a),b i h.2⟩
theorem aT{p:Prop}(h:p:=by assumption):p:=h
theorem HP(l:List File)(h:FewF l):FnOk prog 95 [R5 l] (fun rs=>rs=[C8 (E8 l)]):=by
 have O:=h.len;refine FnOk.intro Tryz.func95 F1 A0 A0 A0 A0 ?_;refine zc 11 (fun b=>?_) fun b=>?_
 ·have d:(200:Int)<l.length:=A1 b;refine I2 ?_;exact A9 (rs:=[C8 1]) M1 (by unfold E8;rw[A6 B1])
 have d:¬(200:Int)<l.length:=A3 b;refine I3 ?_;refine B9 (X:=Nat) (fun i=>([(0,B8 File 2 U6 l),(3,B6 i)],[])) (fun i=>i<=l.length/\((l.take i).any fun f=>decide (N8 f.Path≠0))=false) (fun i=>l.length-i) 0 ⟨C41 _,rfl⟩ (C1) ?_;rintro i ⟨B,s⟩;dsimp only at B s ⊢;refine zc 8 (fun b=>?_) fun b=>?_
 ·have c:i<l.length:=by have d:=A1 b;(try dsimp only at d);omega
  obtain⟨f,v⟩:∃f,f=l[i]:=⟨_,rfl⟩
  have G:l[i]?=some f:=by rw[v];simp[c]
  have w:f∈l:=by rw[v];exact C43 c
  refine O6 ?_;refine E2 (HL f.Path (h.path f w)) ?_;refine zc 2 (fun b=>?_) fun b=>?_
  ·have j:N8 f.Path≠0:=A1 b;refine I2 ?_;exact A9 (rs:=[C8 210]) M1 (by unfold E8;rw[A7 B1,A6 (List.any_eq_true.2 ⟨f,w,A4 j⟩)])
  ·have j:¬N8 f.Path≠0:=A3 b;refine J0 ?_;refine⟨i+1,⟨c,?_⟩,by omega,(C1)⟩;rw[C52,G,C53,D12,s,C98,List.any_cons,List.any_nil,Bool.or_false,A5 j]
 have o:i=l.length:=by have d:=A3 b;(try dsimp only at d);omega
 rw[o,C48]at s;have x:=s;have A:O8 l=false->[C8 211]=[C8 (E8 l)]:=fun e=>by unfold E8;rw[A7 B1,A7 (by rw[x];decide),A6 e]
 refine I3 ?_;refine B9 (X:=Nat) (fun i=>([(0,B8 File 2 U6 l),(4,B6 i)],[])) (fun i=>i<=l.length/\O8 (l.take i)=true) (fun i=>l.length-i) 0 ⟨C41 _,rfl⟩ (C1) ?_;rintro i ⟨B,E⟩;dsimp only at B E ⊢;refine zc 8 (fun b=>?_) fun b=>?_
 ·have c:i<l.length:=by have d:=A1 b;(try dsimp only at d);omega
  obtain⟨f,v⟩:∃f,f=l[i]:=⟨_,rfl⟩
  have G:l[i]?=some f:=by rw[v];simp[c]
  have w:f∈l:=by rw[v];exact C43 c
  have H:=h.path f w;have F:O8 (l.take (i+1))=(l.take i).all fun g=>oX g f:=by
   rw[C52,G,C53,vF,E,C84]
  refine R3 ?_;refine B9 (X:=Nat) (fun k=>([(0,B8 File 2 U6 l),(4,B6 i),(5,B6 k)],[])) (fun k=>k<=i/\((l.take k).all fun g=>oX g f)=true) (fun k=>i-k) 0 ⟨C41 _,rfl⟩ (C1) ?_;rintro k ⟨N,q⟩;dsimp only at N q ⊢;refine zc 7 (fun b=>?_) fun b=>?_
  ·have C:k<i:=by have d:=A1 b;(try dsimp only at d);omega
   obtain⟨g,m⟩:∃g,g=l[k]:=⟨_,rfl⟩
   have K:l[k]?=some g:=by rw[m];simp[show k<l.length by omega]
   have D:g∈l.take i:=by
    rw[m];have:(l.take i)[k]'b5y=l[k]:=List.getElem_take;rw[<-this];exact C43 _
   have I:=h.path g (C97 D);refine zz 15 ?_;refine D6 (MB A0 A0) A0 A0 (H3 ?_);refine F9 A0 A0 (fun m=>by have z:=m;(try simp at z);rw[m];exact C5 A0 (.pure _ _ _ _) A0 B1 aT) A0 A0 ?_;refine P1 ?_;refine F9 A0 A0 (fun m=>by have z:=m;(try simp at z);rw[m];exact C5 A0 (.pure _ _ _ _) A0 B1 aT) A0 A0 ?_;refine F5 ?_;refine F9 A0 A0 (fun m=>by have z:=m;(try simp at z);rw[m];exact I5 (A56 g.Path f.Path I H) A0 A0) A0 A0 ?_;refine F5 ?_;rw[x7];refine zc 0 (fun b=>?_) fun b=>?_
   ·have t:oX g f=false:=by
     unfold oX;rw[C67,C80]at b;rcases b with j | j
     ·have j:dL g.Path f.Path=false:=j;rw[j];rfl
     ·rw[j];simp
    refine I2 ?_;refine A9 (rs:=[C8 211]) M1 (A ?_);cases z:O8 l
    ·rfl
    ·have L:=MQ l (i+1) z;rw[F,C47]at L;rw[L g D]at t;cases t
   ·have t:oX g f=true:=by
     unfold oX;rw[C86,Bool.not_eq_false']at b;have j:dL g.Path f.Path=true:=b.1;rw[j,b.2];rfl
    refine J0 ?_;refine⟨k+1,⟨C,?_⟩,by omega,(C1)⟩;rw[C52,K,C53,D10,q,C84,List.all_cons,List.all_nil,t];rfl
  ·have J:k=i:=by have d:=A3 b;(try dsimp only at d);omega
   rw[J]at q;refine J0 ?_;exact⟨i+1,⟨c,by rw[F];exact q⟩,by omega,(C1)⟩
 have o:i=l.length:=by have d:=A3 b;(try dsimp only at d);omega
 rw[o,C48]at E;refine I3 ?_;refine B9 (X:=Nat) (fun i=>([(0,B8 File 2 U6 l),(6,B6 i)],[])) (fun i=>i<=l.length/\((l.take i).any fun f=>decide (I6 f.Blob≠0))=false) (fun i=>l.length-i) 0 ⟨C41 _,rfl⟩ (C1) ?_;rintro i ⟨B,s⟩;dsimp only at B s ⊢;refine zc 8 (fun b=>?_) fun b=>?_
 ·have c:i<l.length:=by have d:=A1 b;(try dsimp only at d);omega
  obtain⟨f,v⟩:∃f,f=l[i]:=⟨_,rfl⟩
  have G:l[i]?=some f:=by rw[v];simp[c]
  have w:f∈l:=by rw[v];exact C43 c
  have M:=h.blob f w;refine O6 ?_;refine E2 (QG f.Blob B1) ?_;refine zc 2 (fun b=>?_) fun b=>?_
  ·have j:I6 f.Blob≠0:=A1 b;refine I2 ?_;exact A9 (rs:=[C8 1]) M1 (by unfold E8;rw[A7 B1,A7 (by rw[x];decide),A7 (by rw[E];decide),A6 (List.any_eq_true.2 ⟨f,w,A4 j⟩)])
  ·have j:¬I6 f.Blob≠0:=A3 b;refine J0 ?_;refine⟨i+1,⟨c,?_⟩,by omega,(C1)⟩;rw[C52,G,C53,D12,s,C98,List.any_cons,List.any_nil,Bool.or_false,A5 j]
 have o:i=l.length:=by have d:=A3 b;(try dsimp only at d);omega
 rw[o,C48]at s;refine J0 ?_;exact A9 (rs:=[C8 0]) M1 (by unfold E8;rw[A7 B1,A7 (by rw[x];decide),A7 (by rw[E];decide),A7 (by rw[s];decide)])
structure FewT (g:Graph):Prop where
 few:FewG g
 tree:∀c∈g,FewF c.Files
theorem FewT.files{g:Graph}(h:FewT g)(c:Nat):FewF (Q9 g c):=by
 unfold Q9;by_cases a:c<g.length
 ·rw[C36 a];exact h.tree _ (C43 a)
 ·rw[C63 B1];exact⟨by simp,(fun _ h=>by cases h),(fun _ h=>by cases h)⟩
theorem kA:∀{g:List Commit} {i:Nat},(∀k,k<i->∀h:k<g.length,E8 g[k].Files=0)->j5 g=j5 (g.drop i)
 | g,0,_=>rfl
 | [],i+1,_=>by simp
 | c::r,i+1,h=>by
  have a:=h 0 B1 dV;rw[j5,A7 (by simpa using a),List.drop_succ_cons];exact kA fun k d b=>h (k+1) B1 (by simpa using b)
theorem A62{g:Graph}{c:Nat}(b:c<g.length)(a:D8 g c≠[])(h:J3 (P2 g (D8 g c)) c=true):cyclic g=true:=by
 unfold cyclic;rw[List.any_eq_true];exact⟨c,C62.2 b,by rw[h,Bool.and_true];exact A4 a⟩
theorem rdag_ok(g:Graph)(h:FewT g):FnOk prog 49 [I9 g] (fun rs=>rs=[C8 (K7 g)]):=by
 have m:=h.few.len;refine FnOk.intro Tryz.func49 F1 A0 A0 A0 A0 ?_;refine zc 11 (fun b=>?_) fun b=>?_
 ·have j:(300:Int)<g.length:=A1 b;refine I2 ?_;exact A9 (rs:=[C8 1]) M1 (by unfold K7 j6;rw[A6 (by rw[A5 B1];rfl)])
 have j:¬(300:Int)<g.length:=A3 b;refine I3 ?_;refine B9 (X:=Nat) (fun i=>([(0,B8 Commit 3 F2 g),(3,B6 i)],[])) (fun i=>i<=g.length/\((g.take i).any fun c=>decide (c.Parents.length>32))=false) (fun i=>g.length-i) 0 ⟨C41 _,rfl⟩ (C1) ?_;rintro i ⟨E,G⟩;dsimp only at E G ⊢;refine zc 8 (fun b=>?_) fun b=>?_
 ·have f:i<g.length:=by have j:=A1 b;(try dsimp only at j);omega
  obtain⟨c,q⟩:∃c,c=g[i]:=⟨_,rfl⟩
  have K:g[i]?=some c:=by rw[q];simp[f]
  have C:c∈g:=by rw[q];exact C43 f
  refine zc 13 (fun b=>?_) fun b=>?_
  ·have D:(32:Int)<c.Parents.length:=A1 b;refine I2 ?_;exact A9 (rs:=[C8 1]) M1 (by unfold K7 j6;rw[A6 (by rw[List.any_eq_true.2 ⟨c,C,A4 (show c.Parents.length>32 by omega)⟩];simp)])
  ·have D:¬(32:Int)<c.Parents.length:=A3 b;refine J0 ?_;refine⟨i+1,⟨f,?_⟩,by omega,(C1)⟩;rw[C52,K,C53,D12,G,C98,List.any_cons,List.any_nil,Bool.or_false,A5 (show ¬c.Parents.length>32 by omega)]
 have v:i=g.length:=by have j:=A3 b;(try dsimp only at j);omega
 rw[v,C48]at G;have I:j6 g=true:=by unfold j6;rw[G,A4 (show g.length<=300 by omega)];rfl
 refine I3 ?_;refine B9 (X:=Nat) (fun i=>([(0,B8 Commit 3 F2 g),(4,B6 i)],[])) (fun i=>i<=g.length/\((g.take i).all fun c=>fT g.length [] c.Parents)=true) (fun i=>g.length-i) 0 ⟨C41 _,rfl⟩ (C1) ?_;rintro i ⟨E,ha⟩;dsimp only at E ha ⊢;refine zc 8 (fun b=>?_) fun b=>?_
 ·have f:i<g.length:=by have j:=A1 b;(try dsimp only at j);omega
  obtain⟨c,q⟩:∃c,c=g[i]:=⟨_,rfl⟩
  have K:g[i]?=some c:=by rw[q];simp[f]
  have C:c∈g:=by rw[q];exact C43 f
  have P:=h.few.pars c C;have L:fT g.length [] c.Parents=false->[C8 230]=[C8 (K7 g)]:=fun x=>by
   have:related g=false:=by
    unfold related;rw[List.all_eq_false];exact⟨c,C,by rw[x];decide⟩
   unfold K7;rw[A7 (by rw[I];decide),A6 this]
  refine R3 ?_;refine B9 (X:=Nat) (fun k=>([(0,B8 Commit 3 F2 g),(4,B6 i),(5,B6 k)],[])) (fun k=>k<=c.Parents.length/\fT g.length [] c.Parents=fT g.length (c.Parents.take k) (c.Parents.drop k)) (fun k=>c.Parents.length-k) 0 ⟨C41 _,rfl⟩ (C1) ?_;rintro k ⟨V,x⟩;dsimp only at V x ⊢;refine zc 12 (fun b=>?_) fun b=>?_
  ·have A:k<c.Parents.length:=by have j:=A1 b;(try dsimp only at j);omega
   have R:c.Parents[k]?=some c.Parents[k]:=by simp[A]
   rw[C57 A]at x;obtain⟨p,W⟩:∃p,p=c.Parents[k]:=⟨_,rfl⟩
   rw[<-W]at R x;have T:c.Parents.take (k+1)=c.Parents.take k++[p]:=by rw[C52,R,C53]
   rw[fT,<-T]at x;refine zz 28 ?_;refine D7 A0 A0 A0 A0 (fun m=>by have w:=m;(try simp at w);rw[m];exact C5 A0 (.pure _ _ _ _) A0 B1 aT) ?_;refine H3 ?_;refine D7 A0 A0 A0 A0 (fun m=>by have w:=m;(try simp at w);rw[m];exact IQ A0 (.pure _ _ _ _) A0 B1 B1) ?_;refine G5 ?_;refine D7 A0 A0 A0 A0 (fun m=>by have w:=m;(try simp at w);rw[m];exact I5 (A09 (c.Parents.take ((k:Nat):Int).toNat) p b5y) A0 A0) ?_;refine F5 ?_;rw[C37,x7,x7];refine zc 0 (fun b=>?_) fun b=>?_
   ·rw[C67,C67,decide_eq_true_eq,decide_eq_true_eq,decide_eq_true_eq]at b;have j:decide (0<=p/\p<(g.length:Int)/\p∉c.Parents.take k)=false:=by
     rw[decide_eq_false_iff_not];rintro⟨Z,a2,a3⟩;rcases b with (h | h) | h
     ·omega
     ·omega
     ·exact a3 h
    rw[j,Bool.false_and]at x;refine I2 ?_;exact A9 (rs:=[C8 230]) M1 (L x)
   ·rw[C86,C86,decide_eq_false_iff_not,decide_eq_false_iff_not,decide_eq_false_iff_not]at b;have j:decide (0<=p/\p<(g.length:Int)/\p∉c.Parents.take k)=true:=A4 ⟨by omega,by omega,b.2⟩;rw[j,C84]at x;refine J0 ?_;exact⟨k+1,⟨A,x⟩,by omega,(C1)⟩
  ·have j:k=c.Parents.length:=by have j:=A3 b;(try dsimp only at j);omega
   rw[j,List.drop_length]at x;refine J0 ?_;refine⟨i+1,⟨f,?_⟩,by omega,(C1)⟩;rw[C52,K,C53,D10,ha,C84,List.all_cons,List.all_nil,Bool.and_true,x];rfl
 have v:i=g.length:=by have j:=A3 b;(try dsimp only at j);omega
 rw[v,C48]at ha;have B:related g=true:=ha;have Q:K7 g=if cyclic g=true then 231 else if jP g=true then 3 else j5 g:=by unfold K7;rw[A7 (by rw[I];decide),A7 (by rw[B];decide)]
 rw[Q];refine I3 ?_;refine B9 (X:=Nat) (fun i=>([(0,B8 Commit 3 F2 g),(7,B6 i)],[])) (fun i=>i<=g.length/\∀c,c<i->(decide (D8 g c≠[])&&J3 (P2 g (D8 g c)) c)=false) (fun i=>g.length-i) 0 ⟨C41 _,fun c h=>by omega⟩ (C1) ?_;rintro i ⟨E,J⟩;dsimp only at E J ⊢;refine zc 8 (fun b=>?_) fun b=>?_
 ·have f:i<g.length:=by have j:=A1 b;(try dsimp only at j);omega
  obtain⟨c,q⟩:∃c,c=g[i]:=⟨_,rfl⟩
  have K:g[i]?=some c:=by rw[q];simp[f]
  have C:c∈g:=by rw[q];exact C43 f
  have P:=h.few.pars c C;have H:D8 g i=c.Parents:=by rw[c9 f,q]
  have hpr:=(K6 B i).1;have O:c.Parents≠[]↔(0:Int)<c.Parents.length:=by
   constructor
   ·intro h;have:=List.length_pos_iff.2 h;omega
   ·intro h e;rw[e]at h;simp at h
  have Y:(P2 g c.Parents)[((i:Nat):Int).toNat]?=some (J3 (P2 g c.Parents) i):=by rw[C37];exact lC (by rw[pN];exact f)
  rw[H]at hpr;refine zz 16 ?_;refine D7 A0 A0 A0 A0 (fun m=>by have w:=m;(try simp at w);rw[m];exact C5 A0 (.pure _ _ _ _) A0 B1 aT) ?_;refine F5 ?_;refine D7 A0 A0 A0 A0 (fun m=>by have w:=m;(try simp at w);rw[m];exact I5 (JD g c.Parents h.few.len h.few.pars B hpr P) A0 A0) ?_;refine G5 ?_;refine D7 A0 A0 A0 A0 (fun m=>by have w:=m;(try simp at w);rw[m];exact C5 A0 (.pure _ _ _ _) A0 B1 aT) ?_;refine H3 ?_;rw[P4];refine zc 0 (fun b=>?_) fun b=>?_
  ·rw[C39,decide_eq_true_eq]at b;have:=A62 f (by rw[H];exact O.2 b.1) (by rw[H];exact b.2);rw[A6 this];refine I2 ?_;exact A9 (rs:=[C8 231]) M1 rfl
  ·refine J0 ?_;refine⟨i+1,⟨f,fun d hd=>?_⟩,by omega,(C1)⟩;by_cases e:d=i
   ·subst e;rw[H,decide_eq_decide.2 O];exact b
   ·exact J d B1
 have v:i=g.length:=by have j:=A3 b;(try dsimp only at j);omega
 have M:cyclic g=false:=by
  unfold cyclic;rw[List.any_eq_false];intro c q;rw[J c (by rw[v];exact C62.1 q)];decide
 rw[M,A7 F1];refine I3 ?_;refine B9 (X:=Nat) (fun i=>([(0,B8 Commit 3 F2 g),(8,B6 i)],[])) (fun i=>i<=g.length/\((g.take i).any fun c=>decide (c.Date<0\/c.Date>2147483647))=false) (fun i=>g.length-i) 0 ⟨C41 _,rfl⟩ (C1) ?_;rintro i ⟨E,G⟩;dsimp only at E G ⊢;refine zc 8 (fun b=>?_) fun b=>?_
 ·have f:i<g.length:=by have j:=A1 b;(try dsimp only at j);omega
  obtain⟨c,q⟩:∃c,c=g[i]:=⟨_,rfl⟩
  have K:g[i]?=some c:=by rw[q];simp[f]
  have C:c∈g:=by rw[q];exact C43 f
  refine zz 14 ?_;refine D7 A0 A0 A0 A0 (fun m=>by have w:=m;(try simp at w);rw[m];exact C5 A0 (.pure _ _ _ _) A0 B1 aT) ?_;refine zc 5 (fun b=>?_) fun b=>?_
  ·have D:c.Date<0\/c.Date>2147483647:=A1 (or_pick.symm.trans b);have:jP g=true:=List.any_eq_true.2 ⟨c,C,A4 D⟩;rw[A6 this];refine I2 ?_;exact A9 (rs:=[C8 3]) M1 rfl
  ·have D:¬(c.Date<0\/c.Date>2147483647):=A3 (or_pick.symm.trans b);refine J0 ?_;refine⟨i+1,⟨f,?_⟩,by omega,(C1)⟩;rw[C52,K,C53,D12,G,C98,List.any_cons,List.any_nil,Bool.or_false,A5 D]
 have v:i=g.length:=by have j:=A3 b;(try dsimp only at j);omega
 rw[v,C48]at G;have S:jP g=false:=G;rw[S,A7 F1];refine I3 ?_;refine B9 (X:=Nat) (fun i=>([(0,B8 Commit 3 F2 g),(9,B6 i)],[])) (fun i=>i<=g.length/\∀k,k<i->∀h:k<g.length,E8 g[k].Files=0) (fun i=>g.length-i) 0 ⟨C41 _,fun c h=>by omega⟩ (C1) ?_;rintro i ⟨E,U⟩;dsimp only at E U ⊢;have z:=kA U;refine zc 8 (fun b=>?_) fun b=>?_
 ·have f:i<g.length:=by have j:=A1 b;(try dsimp only at j);omega
  obtain⟨c,q⟩:∃c,c=g[i]:=⟨_,rfl⟩
  have K:g[i]?=some c:=by rw[q];simp[f]
  have C:c∈g:=by rw[q];exact C43 f
  rw[C57 f,<-q,j5]at z;refine O6 ?_;refine E2 (HP c.Files (h.tree c C)) ?_;refine zc 7 (fun b=>?_) fun b=>?_
  ·have D:E8 c.Files≠0:=A1 b;rw[A6 D]at z;rw[z];refine J0 ?_;exact A9 (rs:=[C8 (E8 c.Files)]) M1 rfl
  ·have D:¬E8 c.Files≠0:=A3 b;refine J0 ?_;refine⟨i+1,⟨f,fun k V hkl=>?_⟩,by omega,(C1)⟩;by_cases e:k=i
   ·subst e;rw[<-q];exact C75.1 D
   ·exact U k B1 hkl
 have v:i=g.length:=by have j:=A3 b;(try dsimp only at j);omega
 rw[v,List.drop_length]at z;rw[z];refine J0 ?_;exact A9 (rs:=[C8 0]) M1 rfl
theorem A11(g:Graph)(h:FewT g):FnOk prog 68 [I9 g] (fun rs=>rs=[C8 (K7 g)]):=by
 have A:=h.few.len;refine FnOk.intro Tryz.func68 F1 A0 A0 A0 A0 (Z2 ?_);refine E2 (QK g h.few B1) ?_;refine zc 3 (fun a=>?_) fun a=>?_
 ·have f:j6 g=false:=by simpa using a
  refine I2 ?_;exact A9 (rs:=[C8 1]) M1 (by unfold K7;rw[A6 f])
 have m:j6 g=true:=by simpa using a
 refine H3 ?_;refine E2 (QL g h.few B1) ?_;refine zc 3 (fun a=>?_) fun a=>?_
 ·have f:related g=false:=by simpa using a
  refine I2 ?_;exact A9 (rs:=[C8 230]) M1 (by unfold K7;rw[A7 (by rw[m];decide),A6 f])
 have d:related g=true:=by simpa using a
 have o:K7 g=if cyclic g=true then 231 else if jP g=true then 3 else j5 g:=by unfold K7;rw[A7 (by rw[m];decide),A7 (by rw[d];decide)]
 rw[o];refine H3 ?_;refine r8 (VK g h.few d) A0 A0 A0 ?_;rintro _ ⟨z,v,rfl,w⟩;refine J0 ?_;have n:=w.done d;have n:decide ((v.length:Int)<g.length)=cyclic g:=by rw[<-n,decide_eq_decide];omega
 refine uI ?_;rw[n];refine zc 0 (fun a=>?_) fun a=>?_
 ·rw[A6 a];refine I2 ?_;exact A9 (rs:=[C8 231]) M1 rfl
 rw[a,A7 F1];refine H3 ?_;refine uZ (jF 115 (fun c=>decide (c.Date<0\/c.Date>2147483647)) g B1 (fun c _=>VI c)) A0 A0 A0 ?_;refine zc 2 (fun a=>?_) fun a=>?_
 ·have f:jP g=true:=a;rw[A6 f];refine I2 ?_;exact A9 (rs:=[C8 3]) M1 rfl
 have r:jP g=false:=a;rw[r,A7 F1];refine Z2 ?_;refine B9 (X:=Nat) (fun i=>([(24,B8 Commit 3 F2 g),(25,B6 g.length),(26,B6 i)],[])) (fun i=>i<=g.length/\∀k,k<i->∀h:k<g.length,E8 g[k].Files=0) (fun i=>g.length-i) 0 ⟨C41 _,fun c h=>by omega⟩ (C1) ?_;rintro i ⟨x,u⟩;dsimp only at x u ⊢;have b:=kA u;refine zc 5 (fun a=>?_) fun a=>?_
 ·have j:i<g.length:=by have f:=A1 a;(try dsimp only at f);omega
  obtain⟨c,p⟩:∃c,c=g[i]:=⟨_,rfl⟩
  have C:g[i]?=some c:=by rw[p];simp[j]
  have y:c∈g:=by rw[p];exact C43 j
  rw[C57 j,<-p,j5]at b;refine I3 ?_;refine C2 (H9 4 A0) A0 (J0 ?_);refine E2 (tH c.Files (h.tree c y)) ?_;refine zc 7 (fun a=>?_) fun a=>?_
  ·have q:E8 c.Files≠0:=A1 a;rw[A6 q]at b;rw[b];refine J0 ?_;exact A9 (rs:=[C8 (E8 c.Files)]) M1 rfl
  ·have q:¬E8 c.Files≠0:=A3 a;refine I2 ?_;refine⟨i+1,⟨j,fun k B hkl=>?_⟩,by omega,(C1)⟩;by_cases e:k=i
   ·subst e;rw[<-p];exact C75.1 q
   ·exact u k B1 hkl
 have t:i=g.length:=by have f:=A3 a;(try dsimp only at f);omega
 rw[t,List.drop_length]at b;rw[b];refine J0 ?_;exact A9 (rs:=[C8 0]) M1 rfl
def n7(L:List Int)(n:Nat):List Bool:=(List.range n).map fun c:Nat=>decide ((c:Int)∈L)
theorem JJ{L:List Int}{n c:Nat}(h:c<n):J3 (n7 L n) c=decide ((c:Int)∈L):=by
 unfold J3 n7;rw[C96,D02 h];rfl
theorem DI(L:List Int)(n:Nat):(n7 L n).length=n:=by simp[n7]
theorem VP(n:Nat):n7 [] n=List.replicate n false:=by
 refine List.ext_getElem (by simp[n7]) fun i a b=>?_;simp[n7]
theorem QX{L:List Int}{n b:Nat}(h:b<n):(n7 L n).set b true=n7 (L++[(b:Int)]) n:=by
 refine List.ext_getElem? fun i=>?_;unfold n7;rw[D22,C96,C96,C74,C94,A6 h];by_cases c:i<n
 ·rw[D02 c];by_cases e:b=i
  ·rw[A6 e,<-e];simp
  ·have a:¬(i:Int)=b:=by omega
   rw[A7 e];simp[a]
 ·have e:¬b=i:=by omega
  rw[A7 e,C63 (by rw[C94];omega)];rfl
def VQ(a:List Bool)(L:List Int)(b:List Int):Bool:=b.all fun k=>!(J3 a k.toNat&&decide (k∉L))
theorem A63(g:Graph)(a:List Bool)(L:List Int)(c:Nat):o6 g a L c=(VQ a L (cO g c g.length)&&(J3 a c&&decide ((c:Int)∉L))):=by
 unfold o6 VQ cO;rw[Bool.and_comm]
 congr 1
 rw[List.all_map,List.all_filter]
 congr 1
 funext k;simp only[Function.comp_def,C37];cases h:decide ((c:Int)∈D8 g k)<;>simp
theorem A64(g:Graph)(inn:List Bool)(L:List Int)(c:Nat)(z:FewG g)(G:inn.length=g.length)(I:c<g.length) :
  FnOk prog 51 [I9 g,OJ inn,OJ (n7 L g.length),C8 c] (fun rs=>rs=[E1 (o6 g inn L c)]):=by
 have J:=DI L g.length;obtain⟨b,j⟩:∃b,b=cO g c g.length:=⟨_,rfl⟩
 have hkl:=DE g c g.length;have B:∀k∈b,0<=k/\k<g.length:=fun k s=>by
  rw[j]at s;unfold cO at s;obtain⟨i,G,rfl⟩:=C71.1 s;have:=C62.1 (List.mem_filter.1 G).1;omega
 rw[A63,<-j];rw[<-j]at hkl;have H:=z.len;refine FnOk.intro Tryz.func51 F1 A0 A0 A0 A0 (R3 ?_);refine E2 (B45 g c z.len z.pars) (F5 ?_);rw[<-j];refine J0 ?_;refine B9 (X:=Nat) (fun k=>([(1,B8 Bool 1 M8 inn),(2,B8 Bool 1 M8 (n7 L g.length)),(3,B6 c),(9,B8 Int 1 C7 b),(10,B6 k)],[])) (fun k=>k<=b.length/\VQ inn L (b.take k)=true) (fun k=>b.length-k) 0 ⟨C41 _,rfl⟩ (C1) ?_;rintro k ⟨s,hb⟩;dsimp only at s hb ⊢;refine zc 8 (fun f=>?_) fun f=>?_;rotate_left
 ·have A:k=b.length:=by have w:=A3 f;(try dsimp only at w);omega
  rw[A,C48]at hb;have E:inn[((c:Nat):Int).toNat]?=some (J3 inn c):=by rw[C37,lC B1]
  have F:(n7 L g.length)[((c:Nat):Int).toNat]?=some (J3 (n7 L g.length) c):=by rw[C37,lC B1]
  refine O6 ?_;refine D7 A0 A0 A0 A0 (fun m=>by have n:=m;(try simp at n);rw[m];exact C5 A0 (.pure _ _ _ _) A0 B1 aT) ?_;refine J0 ?_;refine A9 M1 ?_;rw[hb,JJ I,P4,C84,decide_not]
 have l:k<b.length:=by have w:=A1 f;(try dsimp only at w);omega
 obtain⟨d,x⟩:∃d,d=b[k]:=⟨_,rfl⟩
 have K:b[k]?=some d:=by rw[x];simp[l]
 have y:=B d (by rw[x];exact C43 l);have E:inn[d.toNat]?=some (J3 inn d.toNat):=lC B1;have F:(n7 L g.length)[d.toNat]?=some (J3 (n7 L g.length) d.toNat):=lC B1;have D:J3 (n7 L g.length) d.toNat=decide (d∈L):=by rw[JJ B1,Int.toNat_of_nonneg y.1]
 have q:VQ inn L b=true->(J3 inn d.toNat&&decide (d∉L))=false:=fun h=>by
  have:=C47.1 h d (by rw[x];exact C43 l);have v:J3 inn d.toNat=false\/d∈L:=by simpa using this
  rcases v with v | v<;>simp[v]
 refine zz 16 ?_;refine D7 A0 A0 A0 A0 (fun m=>by have n:=m;(try simp at n);rw[m];exact C5 A0 (.pure _ _ _ _) A0 B1 aT) ?_;refine G5 ?_;refine D7 A0 A0 A0 A0 (fun m=>by have n:=m;(try simp at n);rw[m];exact C5 A0 (.pure _ _ _ _) A0 B1 aT) ?_;refine P1 ?_;rw[D];refine zc 0 (fun f=>?_) fun f=>?_
 ·rw[P4]at f;have C:VQ inn L b=false:=by
   cases n:VQ inn L b
   ·rfl
   ·have:=q n;rw[decide_not]at this;rw[this]at f;cases f
  rw[C];refine I2 ?_;exact A9 (rs:=[E1 false]) M1 rfl
 ·rw[P4]at f;refine J0 ?_;refine⟨k+1,⟨l,?_⟩,by omega,(C1)⟩;unfold VQ at hb ⊢;rw[C52,K,C53,D10,hb,C84,List.all_cons,List.all_nil,Bool.and_true,decide_not,f];rfl
theorem A65(g:Graph)(inn:List Bool)(L:List Int)(m:Nat):-1<=cY g inn L m/\cY g inn L m<m\/cY g inn L m = -1:=by
 rcases lO g inn L m with ⟨h,_⟩ | ⟨b,h1,h2,_⟩
 ·exact .inr h
 ·left;omega
theorem QY{g:Graph}{c:Nat}{a:Commit}(h:g[c]?=some a):j7 g c=a.Date:=by unfold j7;rw[h];rfl
theorem A66(g:Graph)(s:Int)(O:FewG g)(H:FnOk prog 49 [I9 g] (fun rs=>rs=[C8 (K7 g)])) :
  FnOk prog 26 [I9 g,I4 [s]] (fun rs=>rs=[I4 (N6 g s).1,C8 (N6 g s).2]):=by
 have ak:=O.len;refine FnOk.intro Tryz.func26 F1 A0 A0 A0 A0 (Z2 ?_);refine E2 (H) ?_;refine zc 7 (fun q=>?_) fun q=>?_
 ·have z:K7 g≠0:=A1 q;refine H3 ?_;refine B2 (E3 _ 1 C7) A0 (H3 ?_);exact A9 cN (by unfold N6;rw[A6 z])
 have z:¬K7 g≠0:=A3 q;have aj:=x9 (C75.1 z);refine I3 ?_;refine B9 (X:=Nat) (fun i=>([(0,B8 Commit 3 F2 g),(1,B8 Int 1 C7 [s]),(7,B6 i)],[])) (fun i=>i<=1/\(i=1->p6 g s)) (fun i=>1-i) 0 ⟨C41 _,fun h=>by cases h⟩ (C1) ?_;rintro i ⟨hi,V⟩;dsimp only at hi V ⊢;refine zc 8 (fun q=>?_) fun q=>?_
 ·have F:i=0:=by have z:=A1 q;simp only[C46,List.length_nil]at z;omega
  subst F;have hv:[s][((0:Nat):Int).toNat]?=some s:=rfl;refine zz 13 ?_;refine D7 A0 A0 A0 A0 (fun A=>by have T:=A;(try simp at T);rw[A];exact C5 A0 (.pure _ _ _ _) A0 B1 aT) ?_;refine zc 6 (fun q=>?_) fun q=>?_
  ·rw[or_pick]at q;have h2:=A1 q;refine F5 ?_;refine B2 (E3 _ 1 C7) A0 (H3 ?_);exact A9 (rs:=[I4 [],C8 5]) cN (by unfold N6;rw[A7 z,A7 (fun h=>by unfold p6 at h;omega)])
  ·rw[or_pick]at q;have h2:=A3 q;refine J0 ?_;exact⟨1,⟨C45 _,fun _=>by unfold p6;omega⟩,by omega,(C1)⟩
 have af:i=1:=by have z:=A3 q;simp only[C46,List.length_nil]at z;omega
 have V:=V af;have U:N6 g s=(nR g [s],0):=by unfold N6;rw[A7 z,A6 V]
 rw[U];have ai:∀f∈[s],0<=f/\f<g.length:=fun f O=>by rw[C42.1 O];exact V
 refine I2 ?_;refine E2 (JD g [s] O.len O.pars aj.rel ai dV) (F5 ?_);obtain⟨inn,E⟩:∃inn,inn=P2 g [s]:=⟨_,rfl⟩
 have ag:inn.length=g.length:=by rw[E];exact pN g _
 have S:nR g [s]=rV g inn (g.length+1) []:=by rw[E];rfl
 rw[<-E,S];refine P1 ?_;refine C2 (a8 754 Bool M8 false A0 A0 B1 B1 (fun _=>PE) VH) A0 (P1 ?_);refine C2 (L2 10 _ C7 A0) A0 (F5 ?_);rw[C37,<-VP];refine B9 (X:=List Int) (fun j=>([(0,B8 Commit 3 F2 g),(8,B8 Bool 1 M8 inn),(9,.s (.one (.mut 754))),(10,.s (.one (.buf 10 Int 1 C7 j)))],[(10,.spare j.length 1 3),(754,.arr Bool 1 M8 (n7 j g.length))])) (fun j=>j.Nodup/\(∀x∈j,0<=x/\x<g.length)/\rV g inn (g.length+1-j.length) j=rV g inn (g.length+1) []) (fun j=>g.length+1-j.length) [] ⟨List.nodup_nil,(fun _ h=>by cases h),rfl⟩ (C1) ?_;rintro j ⟨J,K,G⟩;dsimp only at J K G ⊢;have am:=p5 J K;have R:=DI j g.length;refine V7 ?_;refine B9 (X:=Nat) (fun m=>([(0,B8 Commit 3 F2 g),(8,B8 Bool 1 M8 inn),(9,.s (.one (.mut 754))),(10,.s (.one (.buf 10 Int 1 C7 j))),(11,B6 (cY g inn j m)),(12,B6 m)],[(10,.spare j.length 1 3),(754,.arr Bool 1 M8 (n7 j g.length))])) (fun m=>m<=g.length) (fun m=>g.length-m) 0 (C41 _) (C1) ?_;intro m hm;dsimp only at hm ⊢;have Z:=A65 g inn j m;obtain⟨b,hb⟩:∃b,b=cY g inn j m:=⟨_,rfl⟩
 rw[<-hb]at Z ⊢;refine zc 8 (fun q=>?_) fun q=>?_
 ·have F:m<g.length:=by have z:=A1 q;(try dsimp only at z);omega
  have an:g[((m:Nat):Int).toNat]?=some g[m]:=by simp[F]
  have W:0<=b->g[b.toNat]?=some (g[b.toNat]?.getD ⟨[],0,[]⟩):=fun h0=>by
   rw[C36 B1];rfl
  have ae:j7 g m=g[m].Date:=QY (by simp[F]);have ad:0<=b->j7 g b.toNat=(g[b.toNat]?.getD ⟨[],0,[]⟩).Date:=fun h0=>QY (W h0);have w:cY g inn j (m+1)=if o6 g inn j m=true/\(b<0\/j7 g m>j7 g b.toNat) then (m:Int) else b:=by rw[cY,<-hb]
  refine Z2 ?_;refine D6 (A52 (fun _=>Sees.freeze (k:=754) A0) (A64 g inn j m O ag F) A0 A0 A0) A0 A0 (J0 ?_);refine j2 A0 A0 (.gd (.val _)) (fun A=>by have T:=A;(try simp at T);obtain⟨B,C⟩:=N0 A;(try rw[B]);(try rw[C]);exact C5 A0 (.pure _ _ _ _) A0 B1 aT) A0 A0 ?_;refine P1 ?_;refine j2 A0 A0 (.gd (.val _)) (fun A=>by have T:=A;(try simp at T);obtain⟨B,C⟩:=N0 A;(try rw[B]);(try rw[C]);exact C5 A0 (.pure _ _ _ _) A0 B1 (W B1)) A0 A0 ?_;refine F5 ?_;refine j2 A0 A0 (.gd (.val _)) (fun A=>by obtain⟨B,C⟩:=N0 A;(try rw[B]);(try rw[C]);exact IM A0 A0) A0 A0 ?_;refine F9 A0 A0 (fun A=>by rw[A];exact l8 A0 (fun h=>by first | rfl | (rw[h];rfl)) (fun h=>by first | rfl | (rw[h];rfl))) A0 A0 ?_;refine F5 ?_;have I:(if o6 g inn j m=true then (if decide (b<0)=true then true else decide ((g[b.toNat]?.getD ⟨[],0,[]⟩).Date<g[m].Date)) else false)=decide (o6 g inn j m=true/\(b<0\/j7 g m>j7 g b.toNat)):=by
   cases hr:o6 g inn j m
   ·simp
   ·by_cases P:b<0
    ·simp[P]
    ·rw[ae,ad B1];simp[P]
  rw[I];refine zc 0 (fun q=>?_) fun q=>?_
  ·rw[A6 (A1 q)]at w;skip;refine Z2 ?_;refine⟨m+1,by omega,by omega,?_⟩;rw[w];exact (C1)
  ·rw[A7 (A3 q)]at w;refine J0 ?_;refine⟨m+1,by omega,by omega,?_⟩;rw[w];exact (C1)
 have ah:m=g.length:=by have z:=A3 q;(try dsimp only at z);omega
 have Y:b=iI g inn j:=by rw[hb,ah];rfl
 refine zc 7 (fun q=>?_) fun q=>?_
 ·have h3:b<0:=A1 q;rw[TT B1]at G;rw[<-G];refine I3 ?_;exact A9 (rs:=[I4 j,C8 0]) cN rfl
 ·have h3:¬b<0:=A3 q;obtain⟨c,ab,Q,al,ac⟩:=KW (g:=g) (inn:=inn) (L:=j) B1;rw[Y,Q];rw[KX B1 B1,Q]at G;refine I2 ?_;refine B2 (D9 A0 A0 A0 B1 (by (rw[R];omega))) A0 ?_;refine U0 (G3 TySz.out A0 A0 (by (rw[R];omega)) A0 A0) ?_;refine P1 ?_;refine B2 (B7 (c:=C7) (ys:=[(c:Int)]) (C0 A0 A0 A0 A0 D2) A0 A0 A0) A0 (H3 ?_);refine⟨j++[(c:Int)],⟨List.nodup_append.2 ⟨J,by simp,fun x M y hy e=>by rw[C42.1 hy]at e;exact ac (e ▸ M)⟩,fun x M=>?_,?_⟩,by rw[C40,C51];omega,?_⟩
  ·rcases C49.1 M with M | M
   ·exact K x M
   ·rw[C42.1 M];omega
  ·rw[<-G,C40,C51]
   congr 1<;>omega
  ·rw[<-QX ab];exact (C1)
theorem QZ{b s:Str}{p:Nat}{a:List Int}{f:Nat}(h:iJ b s f p a=y5 b s):a.length<=(y5 b s).length:=by
 have key:∀(f p:Nat) (a:List Int),a.length<=(iJ b s f p a).length:=by
  intro f;induction f with
  | zero=>intro p a;exact C45 _
  | succ f c =>
   intro p a;rw[iJ];split
   ·exact C45 _
   ·rename_i i _;have:=c (i+b.length) (a++[(i:Int)]);rw[C40]at this;omega
 rw[<-h];exact key f p a
theorem zE{w:World}(h:Grd prog (fun _=>False) w):∃m,w.cell? ⟨0,0,none⟩=some (.int .i64 m):=by
 obtain⟨b,⟨d,_⟩,g,f⟩:=h;obtain⟨m,e⟩:=Tryz.laysM143.s1_3 b d;refine⟨m,?_⟩;have c:0<b.heap.size:=World.block_lt_of_cell? b _ e;rw[World.cell?_of_block (w:=b) (a:=⟨0,0,none⟩) (f _ c).1];exact e
theorem B49(s a:Str)(d:s.length<4294967281):FnOk prog 170 [F6 s,F6 a] (fun rs=>rs=[C8 (Lib.index s a)]) :=
 C15 (xs:=[.string ⟨s.toArray⟩,.string ⟨a.toArray⟩]) ⟨_,rfl,rfl,rfl⟩ rfl fun w b=>by
  obtain⟨m,c⟩:=zE b;refine (Tryz.strings_Index ⟨s.toArray⟩ ⟨a.toArray⟩ m w d c).mono ?_;rintro e w' ⟨rfl,rfl⟩;exact⟨by simp,rfl,rfl,rfl,C45 _,fun _ _=>rfl⟩
theorem RA(b s:Str)(p:Nat)(y:b.length<=1073741824)(z:s.length<=1073741824):FnOk prog 142 [F6 b,F6 s,C8 p] (fun rs=>rs=[C8 ((o7 b s p).getD 0:Nat),E1 (o7 b s p).isSome]):=by
 refine FnOk.intro Tryz.func142 F1 A0 A0 A0 A0 ?_;refine zc 21 (fun c=>?_) fun c=>?_
 ·simp only[or_pick]at c;have h:=A1 c;have u:o7 b s p=none:=by
   unfold o7;rw[A6 (by rcases h with (h | h) | h<;>first | exact .inl h | exact absurd h B1 | exact .inr (.inl B1))]
  rw[u];refine J0 ?_;exact A9 (rs:=[C8 0,E1 false]) cN rfl
 simp only[or_pick]at c;have h:=A3 c;have q:b≠[]:=fun e=>h (.inl (.inl e));have x:p<=s.length:=by
  apply C69;intro e;exact h (.inr B1)
 have w:(s.drop p).length<=s.length:=by rw[C61];omega
 have k:=Lib.index_ge (s.drop p) b;have d:=Lib.index_room (s.drop p) b;rw[C61]at d;have hnx:o7 b s p=if Lib.index (s.drop p) b<0 then none else some (p+(Lib.index (s.drop p) b).toNat):=by
  unfold o7;by_cases f:Lib.index (s.drop p) b<0
  ·rw[A6 (.inr (.inr f)),A6 f]
  ·rw[A7 (by simp only[not_or];exact⟨q,by omega,f⟩),A7 f]
 obtain⟨i,v⟩:∃i,i=Lib.index (s.drop p) b:=⟨_,rfl⟩
 refine I2 ?_;refine B2 (mC A0 A0 B1 B1) A0 (G5 ?_);refine E2 (B49 (s.drop p) b B1) (F5 ?_);rw[C37,<-v];rw[<-v]at hnx k d;refine zc 6 (fun c=>?_) fun c=>?_
 ·have j:i<0:=A1 c;rw[hnx,A6 j];refine J0 ?_;exact A9 (rs:=[C8 0,E1 false]) cN rfl
 ·have j:¬i<0:=A3 c;rw[hnx,A7 j];refine O6 ?_;refine A9 cN ?_;dsimp only[Option.getD,Option.isSome];rw[show (p:Int)+i=((p+i.toNat:Nat):Int) by omega]
theorem HQ(d s:Str)(q:d.length<=1073741824)(A:s.length<=16777216):FnOk prog 98 [F6 d,F6 s] (fun rs=>rs=[I4 (y5 d s)]):=by
 have z:=kM d s;refine FnOk.intro Tryz.func98 F1 A0 A0 A0 A0 (J0 ?_);refine C2 (L2 5 _ C7 A0) A0 (I2 ?_);refine E2 (RA d s 0 q B1) (R3 ?_);refine B9 (X:=Nat×List Int) (fun x=>([(0,P6 d),(1,P6 s),(5,.s (.one (.buf 5 Int 1 C7 x.2))),(6,B6 ((o7 d s x.1).getD 0:Nat)),(7,L6 (o7 d s x.1).isSome)],[(5,.spare x.2.length 1 3)])) (fun x=>x.1<=s.length/\iJ d s (s.length+2-x.1) x.1 x.2=y5 d s) (fun x=>s.length+1-x.1) (0,[]) ⟨C41 _,rfl⟩ (C1) ?_;rintro⟨p,k⟩ ⟨y,h⟩;dsimp only at y h ⊢;have w:=QZ h;refine I2 ?_;cases hnx:o7 d s p with
 | none =>
  rw[lP hnx]at h;refine zc 0 (fun j=>?_) fun j=>?_
  ·cases j
  ·refine I3 ?_;exact A9 (rs:=[I4 k]) M1 (by rw[h])
 | some i =>
  have l:=jS hnx;have v:0<d.length:=List.length_pos_iff.2 l.1;rw[tZ B1 hnx]at h;refine zc 0 (fun j=>?_) fun j=>?_
  ·refine J0 ?_;refine B2 (B7 (c:=C7) (ys:=[(i:Int)]) (C0 A0 A0 A0 A0 D2) A0 A0 A0) A0 (H3 ?_);dsimp only[Option.getD];refine I3 ?_;refine r8 ((show FnOk prog 142 [F6 d,F6 s,C8 ((i:Int)+(d.length:Int))] (fun rs=>rs=[C8 ((o7 d s (i+d.length)).getD 0:Nat),E1 (o7 d s (i+d.length)).isSome]) from by rw[show (i:Int)+(d.length:Int)=((i+d.length:Nat):Int) by omega];exact RA d s (i+d.length) q B1)) A0 A0 A0 ?_;rintro _ rfl;refine J0 ?_;refine⟨(i+d.length,k++[(i:Int)]),⟨by dsimp only;omega,?_⟩,by dsimp only;omega,(C1)⟩;dsimp only;rw[<-h];exact FU _ _ _ _ B1 B1
  ·cases j
theorem qM(nd s:Str)(a:nd.length<=1073741824)(c:s.length<=16777216):FnOk prog 56 [F6 nd,F6 s] (fun rs=>rs=[C8 (u9 nd s)]):=by
 have b:=kM nd s;refine FnOk.intro Tryz.func56 F1 A0 A0 A0 A0 (R3 ?_);refine E2 (HQ nd s a c) (P1 ?_);exact A9 M1 rfl
theorem lD{g:Graph}{c:Nat}{a:Commit}(h:g[c]?=some a):Q9 g c=a.Files:=by unfold Q9;rw[h];rfl
def n8(g:Graph)(ps:List Int)(i:Nat):List (List File):=(ps.take i).map fun p=>Q9 g p.toNat
theorem vG{g:Graph}{ps:List Int}{i:Nat}(h:i<ps.length):n8 g ps (i+1)=n8 g ps i++[Q9 g ps[i].toNat]:=by
 unfold n8;rw[C52,C36 h,C53,C90];rfl
theorem zF(g:Graph)(ps:List Int)(i:Nat):(n8 g ps i).length<=i:=by
 unfold n8;rw[C74,C59];omega
theorem A67(g:Graph)(c:Nat)(D:FewG g)(H:related g=true)(y:c<g.length):FnOk prog 52 [I9 g,C8 c] (fun rs=>rs=[qV (O9 g c)]):=by
 obtain⟨d,m⟩:∃d,d=g[c]:=⟨_,rfl⟩
 have K:g[((c:Nat):Int).toNat]?=some d:=by rw[m];simp[y]
 have w:D8 g c=d.Parents:=by rw[c9 y,m]
 have hpr:=(K6 H c).1;have G:=D.pars d (by rw[m];exact C43 y);have A:O9 g c=if d.Parents=[] then [[]] else n8 g d.Parents d.Parents.length:=by unfold O9 n8;rw[w,C48]
 rw[w]at hpr;rw[A];refine FnOk.intro Tryz.func52 F1 A0 A0 A0 A0 ?_;refine zc 15 (fun v=>?_) fun v=>?_
 ·have j:d.Parents=[]:=by
   have j:=A1 v;exact List.length_eq_zero_iff.1 B1
  rw[A6 j];refine F5 ?_;refine B2 (B7 (c:=cT) (ys:=[[]]) (QE A0 A0 D2) A0 A0 A0) A0 (H3 ?_);exact A9 (rs:=[qV [[]]]) M1 rfl
 have j:¬d.Parents=[]:=fun e=>by
  have j:=A3 v;rw[e]at j;exact j rfl
 rw[A7 j];refine H3 ?_;refine C2 (L2 5 _ cT A0) A0 (I3 ?_);refine B9 (X:=Nat) (fun i=>([(0,B8 Commit 3 F2 g),(1,B6 c),(5,.s (.one (.buf 5 (List File) 1 cT (n8 g d.Parents i)))),(6,B6 i)],[(5,.spare (n8 g d.Parents i).length 1 41)])) (fun i=>i<=d.Parents.length) (fun i=>d.Parents.length-i) 0 (C41 _) (C1) ?_;intro i E;dsimp only at E ⊢;have I:=zF g d.Parents i;refine zc 12 (fun v=>?_) fun v=>?_
 ·have q:i<d.Parents.length:=by have j:=A1 v;(try dsimp only at j);omega
  have F:=hpr _ (C43 q);obtain⟨p,B⟩:∃p:Nat,d.Parents[i]=(p:Int):=⟨d.Parents[i].toNat,by omega⟩
  have J:d.Parents[i]?=some (p:Int):=by rw[C36 q,B]
  obtain⟨x,hpm⟩:∃x,x=g[p]:=⟨_,rfl⟩
  have k:g[((p:Nat):Int).toNat]?=some x:=by rw[hpm,C37];simp[show p<g.length by omega]
  have C:=vG (g:=g) q;rw[B,C37,lD (by rw[C37]at k;exact k)]at C;refine zz 17 ?_;refine B2 (B7 (c:=cT) (ys:=[x.Files]) (C0 A0 A0 A0 A0 D2) A0 A0 A0) A0 (R3 ?_);refine⟨i+1,by omega,by omega,?_⟩;rw[C];exact (C1)
 ·have z:i=d.Parents.length:=by have j:=A3 v;(try dsimp only at j);omega
  rw[z];refine I3 ?_;exact A9 (rs:=[qV (n8 g d.Parents d.Parents.length)]) M1 rfl
theorem merge_a{a:Str}{d c:List Str}(h:c=[]\/∃b r,c=b::r/\dL a b=true):R6 (a::d) c=a::R6 d c:=by
 rcases h with rfl | ⟨b,r,rfl,h⟩
 ·rw[R6,u0]
 ·rw[R6,u0,A6 h]
theorem merge_b{c:List Str}{b:Str}{d:List Str}(h:c=[]\/∃a r,c=a::r/\dL b a=true):R6 c (b::d)=b::R6 c d:=by
 rcases h with rfl | ⟨a,r,rfl,h⟩
 ·rfl
 ·rw[R6,u0,A7 (by rw[KI h];decide),A6 h];rfl
theorem B50{a b:Str}{d c:List Str}(e:dL a b=false)(f:dL b a=false):R6 (a::d) (b::c)=a::R6 d c:=by
 rw[R6,u0,A7 (by rw[e];decide),A7 (by rw[f];decide)]
theorem xR(d c:List Str):(R6 d c).length<=d.length+c.length:=by
 have key:∀(d:List Str),∀c,(R6 d c).length<=d.length+c.length:=by
  intro d;induction d with
  | nil=>intro c;simp[R6]
  | cons a d f =>
   intro c;rw[R6];induction c with
   | nil=>rw[u0];have:=f [];simp only[List.length_nil,C46]at this ⊢;omega
   | cons b c i =>
    rw[u0];split
    ·have:=f (b::c);simp only[C46]at this ⊢;omega
    ·split
     ·simp only[C46]at i ⊢;omega
     ·have:=f c;simp only[C46]at this ⊢;omega
 exact key d c
abbrev U4(l:List File):List Str:=l.map (·.Path)
theorem A68(a b:List File)(ha:a.length<=1048576)(hb:b.length<=1048576):FnOk prog 97 [R5 a,R5 b] (fun rs=>rs=[cG (R6 (U4 a) (U4 b))]):=by
 have K:=xR (U4 a) (U4 b);rw[C74,C74]at K;obtain⟨M,R⟩:∃M,M=R6 (U4 a) (U4 b):=⟨_,rfl⟩
 rw[<-R]at K ⊢;refine FnOk.intro Tryz.func97 F1 A0 A0 A0 A0 (J0 ?_);refine C2 (L2 5 _ L8 A0) A0 (R3 ?_);refine B9 (X:=Nat×Nat×List Str) (fun x=>([(0,B8 File 2 U6 a),(1,B8 File 2 U6 b),(5,.s (.one (.buf 5 Str 1 L8 x.2.2))),(6,B6 x.1),(7,B6 x.2.1)],[(5,.spare x.2.2.length 1 9)])) (fun x=>x.1<=a.length/\x.2.1<=b.length/\x.2.2++R6 (U4 (a.drop x.1)) (U4 (b.drop x.2.1))=M) (fun x=>a.length-x.1+(b.length-x.2.1)) (0,0,[]) ⟨C41 _,C41 _,by rw[R];rfl⟩ (C1) ?_;rintro⟨i,j,A⟩ ⟨S,T,z⟩;dsimp only at S T z ⊢;have Z:A.length<=M.length:=by rw[<-z,C40];omega
 refine zc 14 (fun m=>?_) fun m=>?_;rotate_left
 ·have C:=A3 (or_pick.symm.trans m);have H:i=a.length:=by omega
  have W:j=b.length:=by omega
  rw[H,W,List.drop_length,List.drop_length]at z;have z:A++[]=M:=z;rw[C77]at z;refine I3 ?_;exact A9 (rs:=[cG A]) M1 (by rw[z])
 have ab:=A1 (or_pick.symm.trans m);obtain⟨x,U⟩:∃x,x=a.getD i ⟨[],[]⟩:=⟨_,rfl⟩
 obtain⟨y,V⟩:∃y,y=b.getD j ⟨[],[]⟩:=⟨_,rfl⟩
 have B:(i:Int)<a.length->a[((i:Nat):Int).toNat]?=some x:=fun h=>by rw[U,C37,C38,C36 B1];rfl
 have G:¬(j:Int)=b.length->b[((j:Nat):Int).toNat]?=some y:=fun h=>by rw[V,C37,C38,C36 B1];rfl
 have D:i<a.length->U4 (a.drop i)=x.Path::U4 (a.drop (i+1)):=fun h=>by
  rw[C57 h,U,C38,C36 h];rfl
 have E:j<b.length->U4 (b.drop j)=y.Path::U4 (b.drop (j+1)):=fun h=>by
  rw[C57 h,V,C38,C36 h];rfl
 have O:j=b.length->U4 (b.drop j)=[]:=fun h=>by rw[h,List.drop_length];rfl
 have L:i=a.length->U4 (a.drop i)=[]:=fun h=>by rw[h,List.drop_length];rfl
 refine zz 17 ?_;refine j2 A0 A0 (.gd (.val _)) (fun k=>by have F:=k;(try simp at F);obtain⟨q,w⟩:=N0 k;(try rw[q]);(try rw[w]);exact C5 A0 (.pure _ _ _ _) A0 B1 (B (A1 w))) A0 A0 ?_;refine P1 ?_;refine j2 A0 A0 (.gd (.val _)) (fun k=>by have F:=k;(try simp at F);obtain⟨q,w⟩:=N0 k;(try rw[q]);(try rw[w]);exact C5 A0 (.pure _ _ _ _) A0 B1 (G (A3 q))) A0 A0 ?_;refine F5 ?_;refine j2 A0 A0 (.gd (.val _)) (fun k=>by obtain⟨q,w⟩:=N0 k;(try rw[q]);(try rw[w]);exact ZY A0 A0) A0 A0 ?_;refine F9 A0 A0 (fun k=>by rw[k];exact l8 A0 (fun h=>by first | rfl | (rw[h];rfl)) (fun h=>by first | rfl | (rw[h];rfl))) A0 A0 ?_;refine zc 3 (fun m=>?_) fun m=>?_
 ·have I:i<a.length/\(j=b.length\/dL x.Path y.Path=true):=by
   by_cases C:j=b.length
   ·exact⟨by omega,.inl C⟩
   ·by_cases H:i<a.length
    ·refine⟨H,.inr ?_⟩;simpa[show ¬(j:Int)=b.length by omega,show (i:Int)<a.length by omega,AL.gd] using m
    ·simp[show ¬(j:Int)=b.length by omega,show ¬(i:Int)<a.length by omega,AL.gd]at m
  have P:R6 (U4 (a.drop i)) (U4 (b.drop j))=x.Path::R6 (U4 (a.drop (i+1))) (U4 (b.drop j)):=by
   rw[D I.1];refine merge_a ?_;rcases I.2 with h | h
   ·exact .inl (O h)
   ·by_cases C:j=b.length
    ·exact .inl (O C)
    ·exact .inr ⟨y.Path,_,E B1,h⟩
  rw[P]at z;refine I2 ?_;refine B2 (C5 A0 (.pure _ _ _ _) A0 B1 (B B1)) A0 (F5 ?_);refine B2 (B7 (c:=L8) (ys:=[x.Path]) (C0 A0 A0 A0 A0 D2) A0 A0 A0) A0 (R3 ?_);exact⟨(i+1,j,A++[x.Path]),⟨by dsimp only;omega,T,by dsimp only;rw[<-z];simp⟩,by dsimp only;omega,(C1)⟩
 have I:j<b.length/\(i<a.length->dL x.Path y.Path=false):=by
  by_cases C:j=b.length
  ·simp[C,AL.gd]at m
  ·refine⟨by omega,fun H=>?_⟩;simpa[show ¬(j:Int)=b.length by omega,show (i:Int)<a.length by omega,AL.gd] using m
 refine Z2 ?_;refine F9 A0 A0 (fun k=>by have F:=k;(try simp at F);rw[k];exact C5 A0 (.pure _ _ _ _) A0 B1 (G B1)) A0 A0 ?_;refine P1 ?_;refine F9 A0 A0 (fun k=>by have F:=k;(try simp at F);rw[k];exact C5 A0 (.pure _ _ _ _) A0 B1 (B B1)) A0 A0 ?_;refine F5 ?_;refine F9 A0 A0 (fun k=>by rw[k];exact ZY A0 A0) A0 A0 ?_;refine H3 ?_;rw[x7];refine zc 0 (fun m=>?_) fun m=>?_
 ·have Y:i=a.length\/dL y.Path x.Path=true:=by
   rw[C67,decide_eq_true_eq]at m;rcases m with h | h
   ·left;omega
   ·exact .inr h
  have Q:R6 (U4 (a.drop i)) (U4 (b.drop j))=y.Path::R6 (U4 (a.drop i)) (U4 (b.drop (j+1))):=by
   rw[E I.1];refine merge_b ?_;rcases Y with h | h
   ·exact .inl (L h)
   ·by_cases C:i=a.length
    ·exact .inl (L C)
    ·exact .inr ⟨x.Path,_,D B1,h⟩
  rw[Q]at z;refine I2 ?_;refine B2 (C5 A0 (.pure _ _ _ _) A0 B1 (G B1)) A0 (F5 ?_);refine B2 (B7 (c:=L8) (ys:=[y.Path]) (C0 A0 A0 A0 A0 D2) A0 A0 A0) A0 (R3 ?_);exact⟨(i,j+1,A++[y.Path]),⟨S,by dsimp only;omega,by dsimp only;rw[<-z];simp⟩,by dsimp only;omega,(C1)⟩
 ·rw[C86,decide_eq_false_iff_not]at m;have J:i<a.length:=by omega
  have H:dL y.Path x.Path=false:=m.2;rw[D J,E I.1,B50 (I.2 J) H]at z;refine I2 ?_;refine B2 (C5 A0 (.pure _ _ _ _) A0 B1 (B B1)) A0 (F5 ?_);refine B2 (B7 (c:=L8) (ys:=[x.Path]) (C0 A0 A0 A0 A0 D2) A0 A0 A0) A0 (V7 ?_);exact⟨(i+1,j+1,A++[x.Path]),⟨by dsimp only;omega,by dsimp only;omega,by dsimp only;rw[<-z];simp⟩,by dsimp only;omega,(C1)⟩
def aU(a b:List File)(l:List Str)(i:Nat):List Delta:=(l.take i).filterMap (u5 a b)
theorem HR{a b:List File}{l:List Str}{i:Nat}(h:i<l.length):aU a b l (i+1)=aU a b l i++(u5 a b l[i]).toList:=by
 have e:[l[i]].filterMap (u5 a b)=(u5 a b l[i]).toList:=by
  cases c:u5 a b l[i] with
  | none=>rw[List.filterMap_cons_none c];rfl
  | some d=>rw[List.filterMap_cons_some c];rfl
 unfold aU;rw[C52,C36 h,C53,List.filterMap_append,e]
theorem MR(a b:List File)(l:List Str)(i:Nat):(aU a b l i).length<=l.length:=by
 unfold aU;have:=List.length_filterMap_le (u5 a b) (l.take i);rw[C59]at this;omega
theorem VR(a b:List File)(ha:a.length<=1048576)(hb:b.length<=1048576):FnOk prog 53 [R5 a,R5 b] (fun rs=>rs=[vY (W7 a b)]):=by
 have w:=xR (U4 a) (U4 b);rw[C74,C74]at w;obtain⟨M,A⟩:∃M,M=R6 (U4 a) (U4 b):=⟨_,rfl⟩
 have z:W7 a b=aU a b M M.length:=by unfold W7 aU;rw[C48,A]
 rw[<-A]at w;rw[z];refine FnOk.intro Tryz.func53 F1 A0 A0 A0 A0 (J0 ?_);refine C2 (L2 5 _ bM A0) A0 (I2 ?_);refine E2 (A68 a b ha hb) (F5 ?_);rw[<-A];refine J0 ?_;refine B9 (X:=Nat) (fun i=>([(0,B8 File 2 U6 a),(1,B8 File 2 U6 b),(5,.s (.one (.buf 5 Delta 2 bM (aU a b M i)))),(6,B8 Str 1 L8 M),(7,B6 i)],[(5,.spare (aU a b M i).length 2 100)])) (fun i=>i<=M.length) (fun i=>M.length-i) 0 (C41 _) (C1) ?_;intro i E;dsimp only at E ⊢;have D:=MR a b M i;refine zc 8 (fun d=>?_) fun d=>?_;rotate_left
 ·have B:i=M.length:=by have m:=A3 d;(try dsimp only at m);omega
  rw[B];refine I3 ?_;exact A9 (rs:=[vY (aU a b M M.length)]) M1 rfl
 have j:i<M.length:=by have m:=A1 d;(try dsimp only at m);omega
 have k:=HR (a:=a) (b:=b) j;obtain⟨p,C⟩:∃p,p=M[i]:=⟨_,rfl⟩
 have F:M[i]?=some p:=by rw[C];simp[j]
 rw[<-C]at k;refine O6 ?_;refine E2 (vA a p B1) (zz 13 ?_);refine E2 (vA b p B1) (R3 ?_);unfold u5 at k;cases q:J7 a p with
 | none =>
  rw[q]at k;refine zc 5 (fun d=>?_) fun d=>?_;rotate_left
  ·cases d
  skip;refine I3 ?_;refine B2 (B7 (c:=bM) (ys:=[⟨p,1⟩]) (C0 A0 A0 A0 A0 D2) A0 A0 A0) A0 (R3 ?_);refine⟨i+1,j,by omega,?_⟩;rw[k];exact (C1)
 | some x =>
  rw[q]at k;refine zc 5 (fun d=>?_) fun d=>?_
  ·cases d
  refine k2 ?_;cases v:J7 b p with
  | none =>
   rw[v]at k;refine zc 5 (fun d=>?_) fun d=>?_;rotate_left
   ·cases d
   skip;refine I3 ?_;refine B2 (B7 (c:=bM) (ys:=[⟨p,2⟩]) (C0 A0 A0 A0 A0 D2) A0 A0 A0) A0 (R3 ?_);refine⟨i+1,j,by omega,?_⟩;rw[k];exact (C1)
  | some y =>
   rw[v]at k;dsimp only at k;refine zc 5 (fun d=>?_) fun d=>?_
   ·cases d
   refine zc 7 (fun d=>?_) fun d=>?_
   ·have m:x≠y:=A1 d;rw[A6 m]at k;skip;refine I3 ?_;refine B2 (B7 (c:=bM) (ys:=[⟨p,3⟩]) (C0 A0 A0 A0 A0 D2) A0 A0 A0) A0 (R3 ?_);refine⟨i+1,j,by omega,?_⟩;rw[k];exact (C1)
   ·have m:¬x≠y:=A3 d;rw[A7 m]at k;refine J0 ?_;refine⟨i+1,j,by omega,?_⟩;rw[k,Option.toList_none,C77];exact (C1)
theorem tI(a b:List File):(W7 a b).length<=a.length+b.length:=by
 unfold W7;have d:=List.length_filterMap_le (u5 a b) (R6 (a.map (·.Path)) (b.map (·.Path)));have c:=xR (a.map (·.Path)) (b.map (·.Path));rw[C74,C74]at c;omega
theorem Valid.files{g:Graph}(h:Valid g)(c:Nat):(Q9 g c).length<=200:=by
 unfold Q9;by_cases a:c<g.length
 ·rw[C36 a];exact (dZ (h.tree _ (C43 a))).2.1
 ·rw[C63 B1];simp
theorem Valid.trees{g:Graph}(h:Valid g)(c:Nat):∀t∈O9 g c,t.length<=200:=by
 intro t a;unfold O9 at a;split at a
 ·rw[C42.1 a];simp
 ·obtain⟨p,_,rfl⟩:=C71.1 a;exact Valid.files h _
theorem jG{g:Graph}(h:Valid g)(c:Nat):(O9 g c).length<=33:=by
 unfold O9;split
 ·simp
 ·rw[C74];by_cases a:c<g.length
  ·rw[c9 a];have:=h.pars _ (C43 a);omega
  ·rw[lJ a];simp
theorem RB{l:List File}(h:FewF l)(p:Str):(bC l p).length<=16777216:=by
 unfold bC;cases a:J7 l p with
 | none=>simp
 | some x =>
  obtain⟨f,b,_,rfl⟩:=eW a;exact h.blob f b
structure FewB (B:List (List (Str×Str))):Prop where
 len:B.length<=33
 lens:∀l∈B,l.length<=400
 strs:∀l∈B,∀x∈l,x.1.length<=16777216/\x.2.length<=16777216
theorem qN{g:Graph}(h:FewT g)(e:Valid g)(c:Nat):FewB (L9 g c) where
 len:=by unfold L9;rw[C74];exact jG e c
 lens:=fun l b=>by
  unfold L9 at b;obtain⟨t,a,rfl⟩:=C71.1 b;unfold gK;rw[C74];have i:=tI t (Q9 g c);have j:=Valid.trees e c t a;have k:=Valid.files e c;omega
 strs:=fun l b x f=>by
  unfold L9 at b;obtain⟨t,a,rfl⟩:=C71.1 b;unfold gK at f;obtain⟨d,_,rfl⟩:=C71.1 f;refine⟨RB ?_ _,RB (h.files c) _⟩;unfold O9 at a;split at a
  ·rw[C42.1 a];exact⟨by simp,(fun _ h=>by cases h),(fun _ h=>by cases h)⟩
  ·obtain⟨p,_,rfl⟩:=C71.1 a;exact h.files _
def X0(b:List (List File))(u:List File)(i:Nat):List (List (Str×Str)):=(b.take i).map fun t=>gK t u
theorem vH{a:List (List File)}{u:List File}{i:Nat}(h:i<a.length):X0 a u (i+1)=X0 a u i++[gK a[i] u]:=by
 unfold X0;rw[C52,C36 h,C53,C90];rfl
theorem zG(a:List (List File))(u:List File)(i:Nat):(X0 a u i).length<=a.length:=by
 unfold X0;rw[C74,C59];omega
def n9(t u:List File)(b:List Delta)(i:Nat):List (Str×Str):=(b.take i).map (YU t u)
theorem vI{t u:List File}{a:List Delta}{i:Nat}(h:i<a.length):n9 t u a (i+1)=n9 t u a i++[YU t u a[i]]:=by
 unfold n9;rw[C52,C36 h,C53,C90];rfl
theorem jH(t u:List File)(a:List Delta)(i:Nat):(n9 t u a i).length<=a.length:=by
 unfold n9;rw[C74,C59];omega
theorem A69(g:Graph)(c:Nat)(h:FewT g)(K:Valid g)(T:c<g.length):FnOk prog 27 [I9 g,C8 c] (fun rs=>rs=[wS (L9 g c)]):=by
 obtain⟨v,L⟩:∃v,v=g[c]:=⟨_,rfl⟩
 have I:g[((c:Nat):Int).toNat]?=some v:=by rw[L];simp[T]
 have B:Q9 g c=v.Files:=lD (by rw[C37]at I;exact I);have H:=Valid.files K c;have S:=jG K c;have G:=Valid.trees K c;rw[B]at H;obtain⟨j,A⟩:∃j,j=O9 g c:=⟨_,rfl⟩
 obtain⟨u,J⟩:∃u,u=v.Files:=⟨_,rfl⟩
 have E:L9 g c=X0 j u j.length:=by unfold L9 X0;rw[C48,B,A,J]
 rw[<-J]at H;rw[<-A]at S G;rw[E];refine FnOk.intro Tryz.func27 F1 A0 A0 A0 A0 (R3 ?_);refine E2 (A67 g c h.few K.rel T) (F5 ?_);rw[<-A];refine F5 ?_;refine C2 (L2 6 _ aH A0) A0 (I3 ?_);refine B9 (X:=Nat) (fun p=>([(0,B8 Commit 3 F2 g),(1,B6 c),(5,B8 (List File) 1 cT j),(6,.s (.one (.buf 6 (List (Str×Str)) 1 aH (X0 j u p)))),(7,B6 p)],[(6,.spare (X0 j u p).length 1 63)])) (fun p=>p<=j.length) (fun p=>j.length-p) 0 (C41 _) (C1) ?_;intro p hp;dsimp only at hp ⊢;have Y:=zG j u p;refine zc 8 (fun y=>?_) fun y=>?_;rotate_left
 ·have P:p=j.length:=by have w:=A3 y;(try dsimp only at w);omega
  rw[P];refine I3 ?_;exact A9 (rs:=[wS (X0 j u j.length)]) M1 rfl
 have m:p<j.length:=by have w:=A1 y;(try dsimp only at w);omega
 have R:=vH (u:=u) m;obtain⟨t,z⟩:∃t,t=j[p]:=⟨_,rfl⟩
 have ad:j[p]?=some t:=by rw[z];simp[m]
 have W:=G t (by rw[z];exact C43 m);rw[<-z]at R;have M:=tI t u;obtain⟨k,x⟩:∃k,k=W7 t u:=⟨_,rfl⟩
 have Q:gK t u=n9 t u k k.length:=by unfold gK n9;rw[C48,x]
 rw[Q]at R;have D:=VR t u B1 B1;rw[show R5 u=R5 v.Files by rw[J],<-x]at D;refine I2 ?_;refine C2 (L2 8 _ dD A0) A0 (x5 ?_);refine D6 (I5 (D) A0 A0) A0 A0 (F5 ?_);rw[<-x]at M;refine J0 ?_;refine B9 (X:=Nat) (fun i=>([(0,B8 Commit 3 F2 g),(1,B6 c),(5,B8 (List File) 1 cT j),(6,.s (.one (.buf 6 (List (Str×Str)) 1 aH (X0 j u p)))),(7,B6 p),(8,.s (.one (.buf 8 (Str×Str) 2 dD (n9 t u k i)))),(9,B8 Delta 2 bM k),(10,B6 i)],[(6,.spare (X0 j u p).length 1 63),(8,.spare (n9 t u k i).length 2 54)])) (fun i=>i<=k.length) (fun i=>k.length-i) 0 (C41 _) (C1) ?_;intro i Z;dsimp only at Z ⊢;have ab:=jH t u k i;refine zc 8 (fun y=>?_) fun y=>?_
 ·have q:i<k.length:=by have w:=A1 y;(try dsimp only at w);omega
  have F:=vI (t:=t) (u:=u) q;obtain⟨d,U⟩:∃d,d=k[i]:=⟨_,rfl⟩
  have ac:k[i]?=some d:=by rw[U];simp[q]
  rw[<-U]at F;have C:=vA u d.Path B1;rw[show R5 u=R5 v.Files by rw[J]]at C;refine zz 14 ?_;refine D6 (I5 (vA t d.Path B1) A0 A0) A0 A0 (zz 18 ?_);refine D6 (I5 (C) A0 A0) A0 A0 (V7 ?_);refine B2 (B7 (c:=dD) (ys:=[(bC t d.Path,bC u d.Path)]) (C0 A0 A0 A0 A0 D2) A0 A0 A0) A0 (R3 ?_);refine⟨i+1,by omega,by omega,?_⟩;rw[F];exact (C1)
 ·have O:i=k.length:=by have w:=A3 y;(try dsimp only at w);omega
  rw[O];have V:=jH t u k k.length;refine P1 ?_;refine B2 (B7 (c:=aH) (ys:=[n9 t u k k.length]) (C0 A0 A0 A0 A0 D2) A0 A0 A0) A0 (R3 ?_);refine⟨p+1,by omega,by omega,?_⟩;rw[R];exact (C1)
theorem vJ(nd s:Str)(a:s.length<=16777216):0<=u9 nd s/\u9 nd s<=16777218:=by
 have:=kM nd s;unfold u9;omega
def DJ(f:Str×Str->Bool)(B:List (List (Str×Str)))(p:Nat):Bool:=(B.take p).any fun l=>l.any f
theorem VS{f:Str×Str->Bool}{B:List (List (Str×Str))}{p:Nat}(h:p<B.length):DJ f B (p+1)=(DJ f B p||B[p].any f):=by
 unfold DJ;rw[C52,C36 h,C53,D12];simp
theorem B51{f:Str×Str->Bool}{l:List (Str×Str)}{i:Nat}(h:i<l.length):(l.take (i+1)).any f=((l.take i).any f||f l[i]):=by
 rw[C52,C36 h,C53,D12];simp
theorem cmp_lt:∀(a b:Str),decide (Lib.compareBytes a b<0)=dL a b
 | [],[]=>rfl
 | [],_::_=>rfl
 | _::_,[]=>rfl
 | a::x,b::y=>by
  rw[Lib.compareBytes,lI];have f:=cmp_lt x y;by_cases c:a<b
  ·simp[c]
  ·by_cases d:b<a
   ·have:¬a=b:=fun e=>by subst e;exact c d
    simp[c,d,this]
   ·have:a=b:=C89.1 (by rw[UInt8.lt_iff_toNat_lt]at c d;omega);subst this;simpa[c] using f
theorem VT(a b:Str):FnOk prog 167 [F6 a,F6 b] (fun c=>c=[C8 (Lib.compareBytes a b)]) :=
 C09 (xs:=[.string ⟨a.toArray⟩,.string ⟨b.toArray⟩]) ⟨_,rfl,rfl,rfl⟩ rfl fun w=>by simpa using Tryz.strings_Compare ⟨a.toArray⟩ ⟨b.toArray⟩ w
theorem A70(x y:Delta):FnOk prog 166 [pDelta x,pDelta y] (fun a=>a=[C8 (Lib.compareBytes x.Path y.Path)]):=by
 refine FnOk.intro Tryz.func166 F1 A0 A0 A0 A0 (F5 ?_);refine C2 (w9 2 A0 A0 A0) A0 (C2 (w9 3 A0 A0 A0) A0 (R3 ?_));refine E2 (VT x.Path y.Path) (H3 ?_);exact A9 M1 rfl
def dB(a:List Delta)(x:Delta)(m:Nat)(rest:List Delta):List Delta:=(a.drop m).reverse++x::((a.take m).reverse++rest)
theorem A71{a:List Delta}{x:Delta}{m:Nat}{rest:List Delta}(b:m<=a.length):(dB a x m rest).length=a.length+1+rest.length:=by
 unfold dB;simp only[C40,D14,C61,C46,C59];omega
theorem insAt_x{a:List Delta}{x:Delta}{m:Nat}{rest:List Delta}(_hm:m<=a.length):(dB a x m rest)[a.length-m]?=some x:=by
 unfold dB;rw[C76 dV,D14,C61,D18];rfl
theorem insAt_p{a:List Delta}{x:Delta}{m:Nat}{rest:List Delta}(b:m<a.length):(dB a x m rest)[a.length-m-1]?=some a[m]:=by
 unfold dB;rw[C68 b7y,List.getElem?_reverse b7y,C61,C66];rw[show m+(a.length-m-1-(a.length-m-1))=m by omega,C36 b]
theorem VU{a:List Delta}{x:Delta}{m:Nat}{rest:List Delta}(c:m<a.length):((dB a x m rest).set (a.length-m) a[m]).set (a.length-m-1) x=dB a x (m+1) rest:=by
 have d:(a.drop m).reverse=(a.drop (m+1)).reverse++[a[m]]:=by rw[C57 c,List.reverse_cons]
 have f:(a.take (m+1)).reverse=a[m]::(a.take m).reverse:=by rw[C52,C36 c,C53,List.reverse_append];rfl
 have b:(a.drop (m+1)).reverse.length=a.length-m-1:=by rw[D14,C61];omega
 unfold dB;rw[d,f,C65,C92,D06];generalize (a.drop (m+1)).reverse=P at b ⊢;rw[<-b,show a.length-m=P.length+1 by omega];rw[List.set_append_right _ _ B1,show P.length+1-P.length=1 by omega];rw[List.set_append_right _ _ B1,D18];rfl
theorem insR_at{b:List Delta}{x:Delta}:∀{m:Nat},m<=b.length->(∀k,(h:k<m)->(c:k<b.length)->dL x.Path b[k].Path=true)->(∀h:m<b.length,dL x.Path b[m].Path=false)->rU x b=b.take m++x::b.drop m:=by
 induction b with
 | nil=>intro m _ _ _;rw[List.take_nil,List.drop_nil];rfl
 | cons y r i =>
  intro m g e c;cases m with
  | zero =>
   have:=c dV;unfold rU;rw[A7 (by rw[show y.Path=((y::r)[0]).Path from rfl,this];decide)];rfl
  | succ m =>
   have f:dL x.Path y.Path=true:=e 0 B1 dV;unfold rU;rw[A6 f,i (m:=m) (by simpa using g) (fun k j d=>e (k+1) B1 (by simpa using d)) (fun h=>c (by simpa using h))];rfl
theorem VV{b:List Delta}{x:Delta}{m:Nat}{rest:List Delta}(f:m<=b.length)(d:∀k,(h:k<m)->(c:k<b.length)->dL x.Path b[k].Path=true)(c:∀h:m<b.length,dL x.Path b[m].Path=false):dB b x m rest=(rU x b).reverse++rest:=by
 rw[insR_at f d c];unfold dB;rw[List.reverse_append,List.reverse_cons];simp only[C65,List.singleton_append,C92,D06]
theorem JK(l a:List Delta):(dC a l).length=a.length+l.length:=by
 induction l generalizing a with
 | nil=>rfl
 | cons x r b=>rw[dC,b,zV,C46];omega
theorem VW(l:List Delta)(i:Nat)(h:i<l.length):dC [] (l.take (i+1))=rU l[i] (dC [] (l.take i)):=by
 have key:∀(a b c:List Delta),dC c (a++b)=dC (dC c a) b:=by
  intro a;induction a with
  | nil=>intro b c;rfl
  | cons x r d=>intro b c;exact d b _
 rw[C52,C36 h,C53,key];rfl
def iB(l:List Delta)(i:Nat):List Delta:=(dC [] (l.take i)).reverse++l.drop i
theorem VX(l:List Delta)(i:Nat):(iB l i).length=l.length:=by
 unfold iB;rw[C40,D14,JK,C59,C61,List.length_nil];omega
theorem VY(l:List Delta):iB l 1=l:=by
 cases l with
 | nil=>rfl
 | cons x r=>rfl
theorem VZ{l:List Delta}{i:Nat}(h:i<l.length):dB (dC [] (l.take i)) l[i] 0 (l.drop (i+1))=iB l i:=by
 unfold dB iB;rw[List.drop_zero,C79,C57 h];rfl
theorem RC{l:List Delta}{i:Nat}(h:i<l.length):iB l (i+1)=(rU l[i] (dC [] (l.take i))).reverse++l.drop (i+1):=by
 unfold iB;rw[VW l i h]
abbrev sG(l:List Delta):Ob:=.grow 100 Delta 2 bM l
theorem b4y{p:Prop}(h:p:=by repeat (first | exact Z6 | refine tail_drop rfl ?_ | refine Z7 rfl ?_)):p:=h
theorem PG{p:Prop}(h:p:=by repeat (first | exact O3 | refine U3 rfl ?_)):p:=h
theorem RD{gf:Fr}{ob:Obs}(l:List Delta)(hl:l.length<=1048576)(h0:B5 ob 802=some (sG l)) :
  AL.Met prog 201 [.one (.mut 802),.one (.p (.v (.int .i64 0))),.one (.p (.v (.int .i64 l.length))),.one (.p (.v (.func (.func 166) #[] #[])))] gf ob []
   (fun rs ob'=>rs=[]/\ob'=(802,sG (sO l))::ob):=by
 refine AL.Met.introH Tryz.func201 F1 rfl rfl rfl (fun R=>?_);refine I3 ?_;refine B9 (X:=Nat) (fun i=>([(0,.s (.one (.mut 802))),(1,B6 0),(2,B6 l.length),(3,I7 (.func (.func 166) #[] #[])),(8,B6 i)]++gf,(802,sG (iB l i))::ob)) (fun i=>1<=i/\(i<=l.length\/(i=1/\l=[]))) (fun i=>l.length-i) 1 ⟨C45 _,by cases l;exact .inr ⟨rfl,rfl⟩;left;simp⟩ ?_ ?_
 ·rw[VY];exact C04 lf R J6 (D3 (L:=[(802,_)]) ⟨h0,trivial⟩ O3)
 rintro i ⟨V,I⟩;dsimp only at V I ⊢;have ab:=VX l i;refine zc 7 (fun B=>?_) fun B=>?_;rotate_left
 ·have U:=A3 B;have he:iB l i=sO l:=by
   rcases I with G | ⟨G,h3⟩
   ·have:i=l.length:=by omega
    rw[this];unfold iB sO;rw[C48,List.drop_length,C77]
   ·rw[G,h3];rfl
  rw[he];refine G5 ?_;exact V6 (iZ rfl) iV (fun _ _ h=>h) ⟨rfl,rfl⟩
 have J:i<l.length:=by have U:=A1 B;omega
 obtain⟨x,hx⟩:∃x,x=l[i]:=⟨_,rfl⟩
 obtain⟨b,E⟩:∃b,b=dC [] (l.take i):=⟨_,rfl⟩
 obtain⟨rest,A⟩:∃rest,rest=l.drop (i+1):=⟨_,rfl⟩
 have K:b.length=i:=by rw[E,JK,C59,List.length_nil];omega
 have S:rest.length=l.length-(i+1):=by rw[A,C61]
 have Z:=VZ J;have e1:=RC J;rw[<-hx,<-E,<-A]at Z e1;rw[<-Z];refine Z2 ?_;refine B9 (X:=Nat) (fun m=>([(0,.s (.one (.mut 802))),(1,B6 0),(2,B6 l.length),(3,I7 (.func (.func 166) #[] #[])),(8,B6 i),(9,B6 ((i-m:Nat):Int))]++gf,(802,sG (dB b x m rest))::ob)) (fun m=>m<=i/\∀k,(h:k<m)->(G:k<b.length)->dL x.Path b[k].Path=true) (fun m=>i-m) 0 ⟨C41 _,fun k h=>by omega⟩ ?_ ?_
 ·exact C04 lf R J6 (D3 (L:=[(802,_)]) ⟨rfl,trivial⟩ PG)
 rintro m ⟨hm,z⟩;dsimp only at hm z ⊢;have d:=A71 (x:=x) (rest:=rest) (show m<=b.length by omega);have w:=insAt_x (x:=x) (rest:=rest) (show m<=b.length by omega);rw[K]at d w;have w:(dB b x m rest)[((i-m:Nat):Int).toNat]?=some x:=by rw[C37];exact w
 have q:(0:Int)<((i-m:Nat):Int)->(dB b x m rest)[(((i-m:Nat):Int)-1).toNat]?=some (b.getD m ⟨[],0⟩):=fun h=>by
  have:=insAt_p (x:=x) (rest:=rest) (show m<b.length by omega);rw[show (((i-m:Nat):Int)-1).toNat=b.length-m-1 by omega,this,C38,C36 B1];rfl
 obtain⟨y,Y⟩:∃y,y=b.getD m ⟨[],0⟩:=⟨_,rfl⟩
 rw[<-Y]at q;have D:=cmp_lt x.Path y.Path;refine O6 ?_;refine F9 A0 A0 (fun g=>by have F:=g;(try simp at F);rw[g];exact K9 A0 A0 A0 B1 (by (rw[d];omega))) A0 A0 ?_;refine F9 A0 A0 (fun g=>by rw[g];exact gN A0 A0 w A0) A0 A0 ?_;refine F5 ?_;refine F9 A0 A0 (fun g=>by have F:=g;(try simp at F);rw[g];exact aM A0 A0 B1) A0 A0 ?_;refine F9 A0 A0 (fun g=>by have F:=g;(try simp at F);rw[g];exact K9 A0 A0 A0 B1 (by (rw[d];omega))) A0 A0 ?_;refine F9 A0 A0 (fun g=>by have F:=g;(try simp at F);rw[g];exact gN A0 A0 (q B1) A0) A0 A0 ?_;refine F9 A0 A0 (fun g=>by rw[g];exact MC (A70 x y) A0 A0 A0) A0 A0 ?_;refine zc 3 (fun B=>?_) fun B=>?_
 ·rw[P4,C39,decide_eq_true_eq,D]at B;have C:m<b.length:=by omega
  have Q:y=b[m]:=by rw[Y,C38,C36 C];rfl
  have M:=VU (x:=x) (rest:=rest) C;rw[K,<-Q]at M;have q:=q B.1;have O:((dB b x m rest).set ((i-m:Nat):Int).toNat y)[(((i-m:Nat):Int)-1).toNat]?=some y:=by
   rw[List.getElem?_set_ne B1];exact q
  refine H3 ?_;refine N7 [17,15] [[],[15],[17,15]] [(15,([],[])),(17,([],[]))] [(0,[]),(1,[]),(2,[]),(3,[]),(4,[]),(5,[]),(6,[]),(7,[]),(8,[]),(9,[]),(10,[]),(11,[]),(12,[]),(13,[]),(14,[]),(15,[]),(16,[15]),(17,[15])] [(2,[15]),(3,[15]),(4,[15])] E4 E4 (C6 A0 A0 E4 A0 A0 (C9 A0 A0) (C6 A0 A0 E4 A0 A0 (C9 A0 A0) (C6 A0 A0 E4 A0 A0 (C9 A0 A0) (C6 A0 A0 E4 A0 A0 (C9 A0 A0) (C6 A0 A0 E4 A0 A0 (aM A0 A0 B1) (C6 A0 A0 E4 A0 A0 (C9 A0 A0) (C6 A0 A0 E4 A0 A0 (C9 A0 A0) (C6 A0 A0 E4 A0 A0 (aM A0 A0 B1) (C6 A0 A0 E4 A0 A0 (K9 A0 A0 A0 B1 (by (rw[d];omega))) ?_)))))))));refine C6 A0 A0 E4 A0 A0 (gN A0 A0 q A0) (C6 A0 A0 E4 A0 A0 (C9 A0 A0) (C6 A0 A0 E4 A0 A0 (C9 A0 A0) (C6 A0 A0 E4 A0 A0 (K9 A0 A0 A0 B1 (by (first | (rw[d];omega) | (rw[C78,d];omega)))) ?_)));refine C6 A0 A0 E4 A0 A0 (gN A0 A0 w A0) (C6 A0 A0 E4 A0 A0 (K9 A0 A0 A0 B1 (by (rw[d];omega))) ?_);refine Z4 A0 A0 E4 A0 A0 (gV (fun T H=>dH (y) TySz.out (S7 H A0) A0 w (S7 H A0) A0 A0 A0 (fun _ _ _ h=>cL h) (by intro j U G;rcases j with _ | _ | _ | _ | _ | _ | _ | j<;>first | rfl | omega))) A0 ?_;refine C6 A0 A0 E4 A0 A0 (K9 A0 A0 A0 B1 (by (rw[C78,d];omega))) ?_;refine Z4 A0 A0 E4 A0 A0 (gV (fun T H=>dH (x) TySz.out (S7 H A0) A0 O (S7 H A0) A0 A0 A0 (fun _ _ _ h=>cL h) (by intro j U G;rcases j with _ | _ | _ | _ | _ | _ | _ | j<;>first | rfl | omega))) A0 ?_;refine CQ E4 rfl ?_ ?_
  ·refine G4 A0 A0 E4 A0 A0 (C9 A0 A0) (G4 A0 A0 E4 A0 A0 (C9 A0 A0) (G4 A0 A0 E4 A0 A0 (aM A0 A0 B1) ?_));exact lA
  refine I2 ?_;refine⟨m+1,⟨by omega,fun k hk W=>?_⟩,by omega,?_⟩
  ·by_cases e:k=m
   ·subst e;rw[<-Q];exact B.2
   ·exact z k B1 W
  ·rw[C37,show (((i-m:Nat):Int)-1).toNat=i-m-1 by omega,M,show ((i-(m+1):Nat):Int)=((i-m:Nat):Int)-1 by omega];exact C04 lf R b4y (D3 (L:=[(802,_)]) ⟨rfl,trivial⟩ PG)
 ·rw[P4,D05,decide_eq_false_iff_not,D]at B;have hd:dB b x m rest=iB l (i+1):=by
   rw[e1];refine VV B1 z fun C=>?_;rcases B with h | h
   ·omega
   ·rw[Y,C38,C36 C]at h;exact h
  rw[hd];refine J0 ?_;refine⟨i+1,⟨by omega,.inl B1⟩,by omega,?_⟩;exact C04 lf R J6 (D3 (L:=[(802,_)]) ⟨rfl,trivial⟩ PG)
theorem pdq_met{gf:Fr}{ob:Obs}(l:List Delta)(n:Int)(k:l.length<=12)(b:B5 ob 802=some (sG l)) :
  AL.Met prog 186 [.one (.mut 802),.one (.p (.v (.int .i64 0))),.one (.p (.v (.int .i64 l.length))),.one (.p (.v (.int .i64 n))),.one (.p (.v (.func (.func 166) #[] #[])))] gf ob []
   (fun g ob'=>g=[]/\ob'=(802,sG (sO l))::ob):=by
 refine AL.Met.introH Tryz.func186 F1 rfl rfl rfl (fun d=>?_);refine Z2 ?_;refine B9 (X:=Nat) (fun _=>([(0,.s (.one (.mut 802))),(1,B6 0),(2,B6 l.length),(3,B6 n),(4,I7 (.func (.func 166) #[] #[])),(10,L6 true),(11,L6 true)]++gf,ob)) (fun _=>True) (fun _=>0) 0 trivial ?_ ?_
 ·exact C04 lf d J6 (fun _ _ h=>h)
 intro _ _;dsimp only;refine zc 14 (fun a=>?_) fun a=>?_
 ·refine J0 ?_;refine O4 (RD l B1 b) A0 A0 A0 (F5 ?_);exact D1 (iZ rfl) iV (fun _ _ h=>h) ⟨rfl,rfl⟩
 ·have j:=A3 a;omega
theorem B52(n:Nat)(b:n<256):FnOk prog 210 [.one (.v (.int .u64 n))] (fun a=>a=[C8 (Lib.bitLen n:Nat)]) :=
 C09 (xs:=[.int .u64 n]) ⟨_,rfl,rfl,rfl⟩ rfl fun w=>by simpa using Tryz.bits_Len64 (n:Int) w B1 B1
theorem WA(n:Nat)(a:n<256):FnOk prog 187 [.one (.v (.int .u64 n))] (fun b=>∃r:Int,b=[C8 r]):=by
 refine FnOk.intro Tryz.func187 F1 A0 A0 A0 A0 (I2 ?_);refine c_condF (P1 ?_);refine E2 (B52 n a) (H3 ?_);exact A9 M1 ⟨_,rfl⟩
theorem MS{gf:Fr}{ob:Obs}(l:List Delta)(b:l.length<=12)(a:B5 ob 802=some (sG l)) :
  AL.Met prog 165 [.one (.mut 802),.one (.p (.v (.func (.func 166) #[] #[])))] gf ob []
   (fun rs ob'=>rs=[]/\ob'=(802,sG (sO l))::ob):=by
 have d:IntKind.u64.wrap (l.length:Int)=(l.length:Nat):=by unfold IntKind.wrap;simp[IntKind.signed,IntKind.bits];omega
 refine AL.Met.intro Tryz.func165 F1 A0 A0 A0 (H3 ?_);refine B2 (LW A0 a) A0 (I3 ?_);refine r8 ((by rw[d];exact WA l.length B1)) A0 A0 A0 ?_;rintro _ ⟨r,rfl⟩;refine G5 ?_;refine O4 (pdq_met l r b a) A0 A0 A0 (G5 ?_);skip;exact V6 (iZ rfl) iV (fun _ _ h=>h) ⟨rfl,rfl⟩
def oY(b:List File)(a:List File)(i:Nat):List Delta:=(a.take i).filterMap (kI b)
theorem RE{b a:List File}{i:Nat}(h:i<a.length):oY b a (i+1)=oY b a i++(kI b a[i]).toList:=by
 have e:[a[i]].filterMap (kI b)=(kI b a[i]).toList:=by
  cases c:kI b a[i] with
  | none=>rw[List.filterMap_cons_none c];rfl
  | some d=>rw[List.filterMap_cons_some c];rfl
 unfold oY;rw[C52,C36 h,C53,List.filterMap_append,e]
def kB(a:List File)(b:List File)(i:Nat):List Delta:=(b.take i).filterMap (rT a)
theorem RF{a b:List File}{i:Nat}(h:i<b.length):kB a b (i+1)=kB a b i++(rT a b[i]).toList:=by
 have e:[b[i]].filterMap (rT a)=(rT a b[i]).toList:=by
  cases c:rT a b[i] with
  | none=>rw[List.filterMap_cons_none c];rfl
  | some d=>rw[List.filterMap_cons_some c];rfl
 unfold kB;rw[C52,C36 h,C53,List.filterMap_append,e]
theorem WB(b a:List File)(i:Nat):(oY b a i).length<=a.length:=by
 unfold oY;have:=List.length_filterMap_le (kI b) (a.take i);rw[C59]at this;omega
theorem WC(a b:List File)(i:Nat):(kB a b i).length<=b.length:=by
 unfold kB;have:=List.length_filterMap_le (rT a) (b.take i);rw[C59]at this;omega
def pA(a b:List File):Int:=if E8 a≠0 then E8 a else E8 b
theorem b1z{p:Prop}(h:p:=by (simp only[C40,C46,List.length_nil];omega)):p:=h
theorem PH{p:Prop}(h:p:=by (simp only[C46,List.length_nil];omega)):p:=h
theorem B53(a b:List File)(ha:FewF a)(hb:FewF b)(G:pA a b=0->a.length+b.length<=12):FnOk prog 120 [R5 a,R5 b] (fun rs=>rs=[vY (if pA a b≠0 then [] else W7 a b),C8 (pA a b)]):=by
 have H:=ha.len;have J:=hb.len;refine FnOk.intro Tryz.func120 F1 A0 A0 A0 A0 (O6 ?_);refine E2 (B48 a b ha hb) ?_;refine zc 7 (fun d=>?_) fun d=>?_
 ·have q:pA a b≠0:=A1 d;refine H3 ?_;refine B2 (E3 _ 2 bM) A0 (H3 ?_);exact A9 (rs:=[vY [],C8 (pA a b)]) cN (by rw[A6 q])
 have q:¬pA a b≠0:=A3 d;have w:pA a b=0:=C75.1 q;have N:=G w;have B:E8 a=0:=by
  apply C69;intro h;unfold pA at w;rw[A6 h]at w;exact h w
 have I:E8 b=0:=by unfold pA at w;rw[A7 (fun h=>h B)]at w;exact w
 have C:=(dZ B).1;have D:=(dZ I).1;have K:=vC C;have L:=vC D;rw[w,A7 (show ¬(0:Int)≠0 from fun h=>h rfl),<-B08 C D];refine P1 ?_;refine fS (QN a H) A0 A0 A0 A0 ?_;rintro _ _ ⟨rfl,rfl⟩;refine⟨rfl,?_⟩;refine G5 ?_;refine fS (DG b J) A0 A0 A0 A0 ?_;rintro _ _ ⟨rfl,rfl⟩;refine⟨rfl,?_⟩;refine H3 ?_;refine F5 ?_;refine C2 (CD 802 _ bM A0) A0 (Z2 ?_);refine B9 (X:=Nat) (fun i=>([(1,B8 File 2 U6 b),(7,.s (.one (.mut 801))),(8,.s (.one (.mut 800))),(9,.s (.one (.mut 802))),(28,B8 File 2 U6 a),(29,B6 a.length),(30,B6 i)],[(800,.map Str cM (b9 b)),(801,.map Str cM (b9 a)),(802,sG (oY b a i))])) (fun i=>i<=a.length) (fun i=>a.length-i) 0 (C41 _) (C1) ?_;intro i M;dsimp only at M ⊢;have T:=WB b a i;refine zc 5 (fun d=>?_) fun d=>?_
 ·have v:i<a.length:=by have q:=A1 d;(try dsimp only at q);omega
  obtain⟨f,E⟩:∃f,f=a[i]:=⟨_,rfl⟩
  have U:a[i]?=some f:=by rw[E];simp[v]
  have l:=RE (b:=b) v;rw[<-E]at l;refine I3 ?_;refine C2 (H9 11 A0) A0 (I3 ?_);refine B2 (oS (f.Path) (r:=((J7 b f.Path).map HM)) A0 A0 A0 eN eO (L f.Path)) A0 (V7 ?_);cases j:J7 b f.Path with
  | none =>
   have g:kI b f=some ⟨f.Path,2⟩:=by unfold kI;rw[j]
   rw[g]at l;refine zc 0 (fun d=>?_) fun d=>?_
   ·skip;refine I2 ?_;refine B2 (B7 (c:=bM) (ys:=[⟨f.Path,2⟩]) (C0 A0 A0 A0 A0 D2) A0 A0 A0) A0 (C2 (R4 A0 A0 A0 (.pure _ _ _ _) PH A0) A0 (J0 ?_));refine⟨i+1,by omega,by omega,?_⟩;rw[l];exact (C1)
   ·cases d
  | some y =>
   refine zc 0 (fun d=>?_) fun d=>?_
   ·cases d
   refine zc 7 (fun d=>?_) fun d=>?_
   ·have F:y≠f.Blob:=A1 d;have g:kI b f=some ⟨f.Path,3⟩:=by unfold kI;rw[j];dsimp only;rw[A6 F]
    rw[g]at l;skip;refine I2 ?_;refine B2 (B7 (c:=bM) (ys:=[⟨f.Path,3⟩]) (C0 A0 A0 A0 A0 D2) A0 A0 A0) A0 (C2 (R4 A0 A0 A0 (.pure _ _ _ _) PH A0) A0 (J0 ?_));refine⟨i+1,by omega,by omega,?_⟩;rw[l];exact (C1)
   ·have F:¬y≠f.Blob:=A3 d;have g:kI b f=none:=by unfold kI;rw[j];dsimp only;rw[A7 F]
    rw[g]at l;refine I2 ?_;refine⟨i+1,by omega,by omega,?_⟩;rw[l];simp only[Option.toList_none,C77];exact (C1)
 have z:i=a.length:=by have q:=A3 d;(try dsimp only at q);omega
 have P:oY b a a.length=a.filterMap (kI b):=by unfold oY;rw[C48]
 obtain⟨A,x⟩:∃A,A=a.filterMap (kI b):=⟨_,rfl⟩
 have Q:A.length<=a.length:=by rw[x];exact List.length_filterMap_le _ _
 rw[z,P,<-x];refine Z2 ?_;refine B9 (X:=Nat) (fun i=>([(7,.s (.one (.mut 801))),(9,.s (.one (.mut 802))),(60,B8 File 2 U6 b),(61,B6 b.length),(62,B6 i)],[(801,.map Str cM (b9 a)),(802,sG (A++kB a b i))])) (fun i=>i<=b.length) (fun i=>b.length-i) 0 (C41 _) (by rw[show A++kB a b 0=A by unfold kB;simp];exact (C1)) ?_;intro i M;dsimp only at M ⊢;have O:=WC a b i;refine zc 5 (fun d=>?_) fun d=>?_
 ·have v:i<b.length:=by have q:=A1 d;(try dsimp only at q);omega
  obtain⟨f,E⟩:∃f,f=b[i]:=⟨_,rfl⟩
  have U:b[i]?=some f:=by rw[E];simp[v]
  have l:=RF (a:=a) v;rw[<-E]at l;refine I3 ?_;refine C2 (H9 15 A0) A0 (I3 ?_);refine B2 (oS (f.Path) (r:=((J7 a f.Path).map HM)) A0 A0 A0 eN eO (K f.Path)) A0 (V7 ?_);cases j:J7 a f.Path with
  | none =>
   have g:rT a f=some ⟨f.Path,1⟩:=by unfold rT;rw[j]
   rw[g]at l;refine zc 0 (fun d=>?_) fun d=>?_
   ·skip;refine I2 ?_;refine B2 (B7 (c:=bM) (ys:=[⟨f.Path,1⟩]) (C0 A0 A0 A0 A0 D2) A0 A0 A0) A0 (C2 (R4 A0 A0 A0 (.pure _ _ _ _) b1z A0) A0 (J0 ?_));refine⟨i+1,by omega,by omega,?_⟩;rw[l,<-C65];exact (C1)
   ·cases d
  | some y =>
   have g:rT a f=none:=by unfold rT;rw[j]
   rw[g]at l;refine zc 0 (fun d=>?_) fun d=>?_
   ·cases d
   ·refine I2 ?_;refine⟨i+1,by omega,by omega,?_⟩;rw[l];simp only[Option.toList_none,C77];exact (C1)
 have z:i=b.length:=by have q:=A3 d;(try dsimp only at q);omega
 have R:A++kB a b b.length=dY a b:=by unfold kB dY;rw[C48,x]
 have S:=YJ a b;rw[z,R];refine P1 ?_;refine O4 (MS (dY a b) B1 A0) A0 A0 A0 (F5 ?_);refine C3 (Sees.freezeG (k:=802) A0 A0) (J0 ?_);exact A9 (rs:=[vY (diffOf a b),C8 0]) cN rfl
theorem DK{nd:Str}:∀{l:List (Str×Str)},(∀x∈l,x.1.length<=16777216/\x.2.length<=16777216) -> -(16777218*(l.length:Int))<=y6 nd l/\y6 nd l<=16777218*(l.length:Int)
 | [],_=>⟨by simp[y6],by simp[y6]⟩
 | x::r,h=>by
  have d:=DK (nd:=nd) fun y a=>h y (C55 _ a);have b:=vJ nd x.1 (h x C56).1;have c:=vJ nd x.2 (h x C56).2;have e:y6 nd (x::r)=u9 nd x.2-u9 nd x.1+y6 nd r:=by unfold y6;rw[C73,D19]
  rw[e,C46];constructor<;>omega
theorem B54{nd:Str}{l:List (Str×Str)}{i:Nat}(h:i<l.length):y6 nd (l.take (i+1))=y6 nd (l.take i)+(u9 nd l[i].2-u9 nd l[i].1):=by
 unfold y6;rw[C52,C36 h,C53,C90,List.sum_append];simp
theorem RG{nd:Str}{B:List (List (Str×Str))}{p:Nat}(h:p<B.length):(B.take (p+1)).map (y6 nd)=(B.take p).map (y6 nd)++[y6 nd B[p]]:=by
 rw[C52,C36 h,C53,C90];rfl
theorem zH{g:Graph}{c:Int}(h:bO g c=0):Valid g/\0<=c/\c<g.length:=by
 unfold bO at h;split at h
 ·rename_i a;exact absurd h a
 ·rename_i a;split at h
  ·rename_i b;exact⟨x9 (C75.1 a),b⟩
  ·cases h
theorem WD(g:Graph)(c:Int)(h:FewT g):FnOk prog 99 [I9 g,C8 c] (fun rs=>rs=[C8 (bO g c)]):=by
 refine FnOk.intro Tryz.func99 F1 A0 A0 A0 A0 (R3 ?_);refine E2 (A11 g h) ?_;refine zc 7 (fun a=>?_) fun a=>?_
 ·have b:K7 g≠0:=A1 a;refine J0 ?_;exact A9 (rs:=[C8 (K7 g)]) M1 (by unfold bO;rw[A6 b])
 have b:¬K7 g≠0:=A3 a;refine J0 ?_;refine E2 (dis_ok g c) ?_;refine zc 2 (fun a=>?_) fun a=>?_
 ·have d:¬p6 g c:=by simpa using a
  refine I2 ?_;exact A9 (rs:=[C8 5]) M1 (by unfold bO;rw[A7 b,A7 d])
 ·have d:p6 g c:=by simpa using a
  refine J0 ?_;exact A9 (rs:=[C8 0]) M1 (by unfold bO;rw[A7 b,A6 d])
theorem zI(g:Graph)(c:Nat)(D:FewG g)(H:related g=true)(y:c<g.length):FnOk prog 77 [I9 g,C8 c] (fun rs=>rs=[qV (O9 g c)]):=by
 obtain⟨d,m⟩:∃d,d=g[c]:=⟨_,rfl⟩
 have K:g[((c:Nat):Int).toNat]?=some d:=by rw[m];simp[y]
 have w:D8 g c=d.Parents:=by rw[c9 y,m]
 have hpr:=(K6 H c).1;have G:=D.pars d (by rw[m];exact C43 y);have A:O9 g c=if d.Parents=[] then [[]] else n8 g d.Parents d.Parents.length:=by unfold O9 n8;rw[w,C48]
 rw[w]at hpr;rw[A];refine FnOk.intro Tryz.func77 F1 A0 A0 A0 A0 ?_;refine zc 15 (fun v=>?_) fun v=>?_
 ·have j:d.Parents=[]:=by
   have j:=A1 v;exact List.length_eq_zero_iff.1 B1
  rw[A6 j];refine F5 ?_;refine B2 (B7 (c:=cT) (ys:=[[]]) (QE A0 A0 D2) A0 A0 A0) A0 (H3 ?_);exact A9 (rs:=[qV [[]]]) M1 rfl
 have j:¬d.Parents=[]:=fun e=>by
  have j:=A3 v;rw[e]at j;exact j rfl
 rw[A7 j];refine H3 ?_;refine C2 (L2 5 _ cT A0) A0 (zz 13 ?_);refine B9 (X:=Nat) (fun i=>([(0,B8 Commit 3 F2 g),(5,.s (.one (.buf 5 (List File) 1 cT (n8 g d.Parents i)))),(20,B8 Int 1 C7 d.Parents),(21,B6 d.Parents.length),(22,B6 i)],[(5,.spare (n8 g d.Parents i).length 1 41)])) (fun i=>i<=d.Parents.length) (fun i=>d.Parents.length-i) 0 (C41 _) (C1) ?_;intro i E;dsimp only at E ⊢;have I:=zF g d.Parents i;refine zc 5 (fun v=>?_) fun v=>?_
 ·have q:i<d.Parents.length:=by have j:=A1 v;(try dsimp only at j);omega
  have F:=hpr _ (C43 q);obtain⟨p,B⟩:∃p:Nat,d.Parents[i]=(p:Int):=⟨d.Parents[i].toNat,by omega⟩
  have J:d.Parents[i]?=some (p:Int):=by rw[C36 q,B]
  obtain⟨x,hpm⟩:∃x,x=g[p]:=⟨_,rfl⟩
  have k:g[((p:Nat):Int).toNat]?=some x:=by rw[hpm,C37];simp[show p<g.length by omega]
  have C:=vG (g:=g) q;rw[B,C37,lD (by rw[C37]at k;exact k)]at C;refine zz 16 ?_;refine B2 (B7 (c:=cT) (ys:=[x.Files]) (C0 A0 A0 A0 A0 D2) A0 A0 A0) A0 (I3 ?_);refine⟨i+1,by omega,by omega,?_⟩;rw[C];exact (C1)
 ·have z:i=d.Parents.length:=by have j:=A3 v;(try dsimp only at j);omega
  rw[z];refine I3 ?_;exact A9 (rs:=[qV (n8 g d.Parents d.Parents.length)]) M1 rfl
def Short(g:Graph):Prop:=∀c:Nat,(Q9 g c).length<=6
theorem Short.tree{g:Graph}(h:Short g){c:Nat}{t:List File}(a:t∈O9 g c):t.length<=6:=by
 unfold O9 at a;split at a
 ·rw[C42.1 a];simp
 ·obtain⟨p,_,rfl⟩:=C71.1 a;exact h _
theorem A72{g:Graph}(h:FewT g){c:Nat}{t:List File}(a:t∈O9 g c):FewF t:=by
 unfold O9 at a;split at a
 ·rw[C42.1 a];exact⟨by simp,(fun _ h=>by cases h),(fun _ h=>by cases h)⟩
 ·obtain⟨p,_,rfl⟩:=C71.1 a;exact h.files _
theorem Valid.check{g:Graph}(h:Valid g)(c:Nat):E8 (Q9 g c)=0:=by
 unfold Q9;by_cases a:c<g.length
 ·rw[C36 a];exact h.tree _ (C43 a)
 ·rw[C63 B1];decide
theorem Valid.checks{g:Graph}(h:Valid g){c:Nat}{t:List File}(a:t∈O9 g c):E8 t=0:=by
 unfold O9 at a;split at a
 ·rw[C42.1 a];decide
 ·obtain⟨p,_,rfl⟩:=C71.1 a;exact Valid.check h _
def gO(g:Graph)(c:Nat):List (List Delta):=(O9 g c).map fun t=>W7 t (Q9 g c)
def T3(b:List (List File))(u:List File)(i:Nat):List (List Delta):=(b.take i).map fun t=>W7 t u
theorem DL{a:List (List File)}{u:List File}{i:Nat}(h:i<a.length):T3 a u (i+1)=T3 a u i++[W7 a[i] u]:=by
 unfold T3;rw[C52,C36 h,C53,C90];rfl
theorem HS(a:List (List File))(u:List File)(i:Nat):(T3 a u i).length<=a.length:=by
 unfold T3;rw[C74,C59];omega
theorem cof_ok(g:Graph)(c:Nat)(h:FewT g)(F:Valid g)(z:Short g)(P:c<g.length):FnOk prog 78 [I9 g,C8 c] (fun rs=>rs=[.one (.list (List Delta) 1 cU (gO g c))]):=by
 obtain⟨w,H⟩:∃w,w=g[c]:=⟨_,rfl⟩
 have E:g[((c:Nat):Int).toNat]?=some w:=by rw[H];simp[P]
 have x:Q9 g c=w.Files:=lD (by rw[C37]at E;exact E);have L:=jG F c;have A:∀t∈O9 g c,FewF t/\E8 t=0/\t.length<=6:=fun t m=>⟨A72 h m,Valid.checks F m,z.tree m⟩
 have D:=h.files c;have C:=Valid.check F c;have O:=z c;obtain⟨d,v⟩:∃d,d=O9 g c:=⟨_,rfl⟩
 obtain⟨u,M⟩:∃u,u=w.Files:=⟨_,rfl⟩
 have y:gO g c=T3 d u d.length:=by unfold gO T3;rw[C48,x,v,M]
 rw[x,<-M]at D C O;rw[<-v]at L A;rw[y];refine FnOk.intro Tryz.func78 F1 A0 A0 A0 A0 (J0 ?_);refine C2 (L2 5 _ cU A0) A0 (J0 ?_);refine E2 (zI g c h.few F.rel P) (H3 ?_);rw[<-v];refine G5 ?_;refine B9 (X:=Nat) (fun p=>([(0,B8 Commit 3 F2 g),(1,B6 c),(5,.s (.one (.buf 5 (List Delta) 1 cU (T3 d u p)))),(12,B8 (List File) 1 cT d),(13,B6 d.length),(14,B6 p)],[(5,.spare (T3 d u p).length 1 95)])) (fun p=>p<=d.length) (fun p=>d.length-p) 0 (C41 _) (C1) ?_;intro p S;dsimp only at S ⊢;have R:=HS d u p;refine zc 5 (fun m=>?_) fun m=>?_
 ·have k:p<d.length:=by have G:=A1 m;(try dsimp only at G);omega
  have Q:=DL (u:=u) k;obtain⟨t,q⟩:∃t,t=d[p]:=⟨_,rfl⟩
  have U:d[p]?=some t:=by rw[q];simp[k]
  obtain⟨B,J,T⟩:=A t (by rw[q];exact C43 k);rw[<-q]at Q;have K:pA t u=0:=by unfold pA;rw[J,A7 (fun h=>h rfl),C]
  have j:=B53 t u B D (fun _=>by omega);rw[K,A7 (fun h=>h rfl),show R5 u=R5 w.Files by rw[M]]at j;refine zz 17 ?_;refine E2 (j) (Z2 ?_);refine B2 (B7 (c:=cU) (ys:=[W7 t u]) (C0 A0 A0 A0 A0 D2) A0 A0 A0) A0 (I3 ?_);refine⟨p+1,by omega,by omega,?_⟩;rw[Q];exact (C1)
 ·have I:p=d.length:=by have G:=A3 m;(try dsimp only at G);omega
  rw[I];refine I3 ?_;exact A9 (rs:=[.one (.list (List Delta) 1 cU (T3 d u d.length))]) M1 rfl
theorem A73(g:Graph)(c:Int)(h:FewT g)(a:Short g):FnOk prog 57 [I9 g,C8 c] (fun rs=>∃l,rs=[.one (.list (List Delta) 1 cU l),C8 (bO g c)]):=by
 refine FnOk.intro Tryz.func57 F1 A0 A0 A0 A0 (O6 ?_);refine E2 (WD g c h) ?_;refine zc 7 (fun d=>?_) fun d=>?_
 ·refine H3 ?_;refine B2 (E3 _ 1 cU) A0 (H3 ?_);exact A9 (rs:=[.one (.list (List Delta) 1 cU []),C8 (bO g c)]) cN ⟨_,rfl⟩
 have f:¬bO g c≠0:=A3 d;have b:bO g c=0:=C75.1 f;obtain⟨p,j,m⟩:=zH b;obtain⟨k,rfl⟩:∃k:Nat,c=(k:Int):=⟨c.toNat,by omega⟩
 rw[b];refine I2 ?_;refine E2 (cof_ok g k h p a B1) (P1 ?_);exact A9 (rs:=[.one (.list (List Delta) 1 cU (gO g k)),C8 0]) cN ⟨_,rfl⟩
theorem JL(g:Graph)(c:Nat)(h:FewT g)(V:Valid g)(C:Short g)(L:c<g.length):FnOk prog 40 [I9 g,C8 c] (fun rs=>rs=[wS (L9 g c)]):=by
 obtain⟨D,M⟩:∃D,D=g[c]:=⟨_,rfl⟩
 have J:g[((c:Nat):Int).toNat]?=some D:=by rw[M];simp[L]
 have B:Q9 g c=D.Files:=lD (by rw[C37]at J;exact J);have U:=jG V c;have H:∀t∈O9 g c,t.length<=6:=fun t v=>C.tree v;have I:=C c;rw[B]at I;obtain⟨j,x⟩:∃j,j=O9 g c:=⟨_,rfl⟩
 obtain⟨u,K⟩:∃u,u=D.Files:=⟨_,rfl⟩
 have F:L9 g c=X0 j u j.length:=by unfold L9 X0;rw[C48,B,x,K]
 have P:gO g c=T3 j u j.length:=by unfold gO T3;rw[C48,B,x,K]
 rw[<-K]at I;rw[<-x]at U H;rw[F];obtain⟨DS,A⟩:∃DS,DS=T3 j u j.length:=⟨_,rfl⟩
 have ac:DS.length=j.length:=by rw[A];unfold T3;rw[C74,C48]
 refine FnOk.intro Tryz.func40 F1 A0 A0 A0 A0 (J0 ?_);refine C2 (L2 5 _ aH A0) A0 (I2 ?_);refine E2 (zI g c h.few V.rel L) (F5 ?_);rw[<-x];refine I2 ?_;refine E2 (cof_ok g c h V C L) (H3 ?_);rw[P,<-A];refine G5 ?_;refine B9 (X:=Nat) (fun p=>([(0,B8 Commit 3 F2 g),(1,B6 c),(5,.s (.one (.buf 5 (List (Str×Str)) 1 aH (X0 j u p)))),(6,B8 (List File) 1 cT j),(21,.s (.one (.p (.list (List Delta) 1 cU DS)))),(22,B6 DS.length),(23,B6 p)],[(5,.spare (X0 j u p).length 1 63)])) (fun p=>p<=j.length) (fun p=>j.length-p) 0 (C41 _) (C1) ?_;intro p hp;dsimp only at hp ⊢;have ad:=zG j u p;refine zc 5 (fun v=>?_) fun v=>?_;rotate_left
 ·have R:p=j.length:=by have z:=A3 v;(try dsimp only at z);omega
  rw[R];refine I3 ?_;exact A9 (rs:=[wS (X0 j u j.length)]) M1 rfl
 have m:p<j.length:=by have z:=A1 v;(try dsimp only at z);omega
 have T:=vH (u:=u) m;obtain⟨t,w⟩:∃t,t=j[p]:=⟨_,rfl⟩
 have ag:j[p]?=some t:=by rw[w];simp[m]
 have Z:=H t (by rw[w];exact C43 m);rw[<-w]at T;have O:=tI t u;obtain⟨k,q⟩:∃k,k=W7 t u:=⟨_,rfl⟩
 have af:DS[p]?=some k:=by
  rw[A,q,w];unfold T3;rw[C48,C96,C36 m];rfl
 have S:gK t u=n9 t u k k.length:=by unfold gK n9;rw[C48,q]
 rw[S]at T;rw[<-q]at O;refine zz 13 ?_;refine C2 (L2 9 _ dD A0) A0 (Z2 ?_);refine B9 (X:=Nat) (fun i=>([(0,B8 Commit 3 F2 g),(1,B6 c),(5,.s (.one (.buf 5 (List (Str×Str)) 1 aH (X0 j u p)))),(6,B8 (List File) 1 cT j),(7,B6 p),(9,.s (.one (.buf 9 (Str×Str) 2 dD (n9 t u k i)))),(21,.s (.one (.p (.list (List Delta) 1 cU DS)))),(22,B6 DS.length),(23,B6 p),(28,B8 Delta 2 bM k),(29,B6 k.length),(30,B6 i)],[(5,.spare (X0 j u p).length 1 63),(9,.spare (n9 t u k i).length 2 54)])) (fun i=>i<=k.length) (fun i=>k.length-i) 0 (C41 _) (C1) ?_;intro i hi;dsimp only at hi ⊢;have ae:=jH t u k i;refine zc 5 (fun v=>?_) fun v=>?_
 ·have y:i<k.length:=by have z:=A1 v;(try dsimp only at z);omega
  have G:=vI (t:=t) (u:=u) y;obtain⟨d,W⟩:∃d,d=k[i]:=⟨_,rfl⟩
  have ab:k[i]?=some d:=by rw[W];simp[y]
  rw[<-W]at G;have E:=QW u d.Path B1;rw[show R5 u=R5 D.Files by rw[K]]at E;refine I3 ?_;refine C2 (H9 11 A0) A0 (O6 ?_);refine D6 (I5 (QW t d.Path B1) A0 A0) A0 A0 (zz 15 ?_);refine D6 (I5 (E) A0 A0) A0 A0 (V7 ?_);refine B2 (B7 (c:=dD) (ys:=[(bC t d.Path,bC u d.Path)]) (C0 A0 A0 A0 A0 D2) A0 A0 A0) A0 (I3 ?_);refine⟨i+1,by omega,by omega,?_⟩;rw[G];exact (C1)
 ·have Q:i=k.length:=by have z:=A3 v;(try dsimp only at z);omega
  rw[Q];have Y:=jH t u k k.length;refine P1 ?_;refine B2 (B7 (c:=aH) (ys:=[n9 t u k k.length]) (C0 A0 A0 A0 A0 D2) A0 A0 A0) A0 (I3 ?_);refine⟨p+1,by omega,by omega,?_⟩;rw[T];exact (C1)
abbrev cE(a:Str):Unit->Nat->Cell:=fun _ _=>.v (.string ⟨a.toArray⟩)
abbrev RH(x:Str×Str):S1:=.agg [.p (dD x 0),.p (dD x 1)]
abbrev oA(b:Bool):S1:=.one (.p (.v (.bool b)))
abbrev P7(i:Int):S1:=.one (.p (.v (.int .i64 i)))
theorem B55(a:Str)(x:Str×Str)(b:a.length<=1073741824)(c:x.1.length<=16777216)(d:x.2.length<=16777216) :
  AL.Met prog 55 [RH x,.one (.eref Unit 1 (cE a) () 0)] [] [] [] (fun rs ob'=>rs=[oA (differs a x)]/\ob'=[]):=by
 refine AL.Met.intro Tryz.func55 F1 A0 A0 A0 (F5 ?_);refine C2 (w9 2 A0 A0 A0) A0 (I3 ?_);refine D6 (I5 (qM a x.1 b c) A0 A0) A0 A0 (H3 ?_);refine D6 (I5 (qM a x.2 b d) A0 A0) A0 A0 (P1 ?_);exact D1 V9 iV (ObIn.spec (ob':=[]) trivial) ⟨rfl,rfl⟩
theorem HT(f:FuncId)(α:Type)(j:Nat)(c:α->Nat->Cell)(v:α)(q:Str×Str->Bool)(l:List (Str×Str))(B:l.length<=1073741824)(w:∀x∈l,AL.Met prog f [RH x,.one (.eref α j c v 0)] [] [] [] (fun u ob'=>u=[oA (q x)]/\ob'=[])) :
  AL.Met prog 75 [.one (.p (.list (Str×Str) 2 dD l)),.one (.fncE f α j c v)] [] [] [] (fun u ob'=>(∃i:Int,u=[P7 i]/\decide (0<=i)=l.any q)/\ob'=[]):=by
 refine AL.Met.intro Tryz.func75 F1 A0 A0 A0 (x5 ?_);refine B9 (X:=Nat) (fun i=>([(0,B8 (Str×Str) 2 dD l),(1,.s (.one (.fncE f α j c v))),(7,B6 l.length),(8,B6 i)],[])) (fun i=>i<=l.length/\(l.take i).any q=false) (fun i=>l.length-i) 0 ⟨C41 _,rfl⟩ (C1) ?_;rintro i ⟨z,h⟩;dsimp only at z h ⊢;refine zc 5 (fun d=>?_) fun d=>?_;rotate_left
 ·have g:i=l.length:=by have g:=A3 d;(try dsimp only at g);omega
  rw[g,C48]at h;refine J0 ?_;exact D1 V9 iV (ObIn.spec (ob':=[]) trivial) ⟨⟨-1,rfl,by rw[h];rfl⟩,rfl⟩
 have b:i<l.length:=by have g:=A1 d;(try dsimp only at g);omega
 obtain⟨x,m⟩:∃x,x=l[i]:=⟨_,rfl⟩
 have A:l[i]?=some x:=by rw[m];simp[b]
 have k:=w x (by rw[m];exact C43 b);refine zz 15 ?_;refine B2 (n_callE (k) A0 A0 A0) A0 ?_;refine zc 1 (fun d=>?_) fun d=>?_
 ·refine J0 ?_;refine D1 V9 iV (ObIn.spec (ob':=[]) trivial) ⟨⟨i,rfl,?_⟩,rfl⟩;rw[List.any_eq_true.2 ⟨x,by rw[m];exact C43 b,d⟩];exact A4 B1
 ·refine I2 ?_;refine⟨i+1,⟨b,?_⟩,by omega,(C1)⟩;rw[C52,A,C53,D12,h,C98,List.any_cons,List.any_nil,Bool.or_false];exact d
theorem xS(f:FuncId)(α:Type)(a:Nat)(c:α->Nat->Cell)(v:α)(b:Str×Str->Bool)(l:List (Str×Str))(j:l.length<=1073741824)(g:∀x∈l,AL.Met prog f [RH x,.one (.eref α a c v 0)] [] [] [] (fun d ob'=>d=[oA (b x)]/\ob'=[])) :
  AL.Met prog 38 [.one (.p (.list (Str×Str) 2 dD l)),.one (.fncE f α a c v)] [] [] [] (fun d ob'=>d=[oA (l.any b)]/\ob'=[]):=by
 refine AL.Met.intro Tryz.func38 F1 A0 A0 A0 (R3 ?_);refine fS (HT f α a c v b l j g) A0 A0 A0 A0 ?_;rintro _ _ ⟨⟨i,rfl,h⟩,rfl⟩;refine⟨rfl,?_⟩;refine H3 ?_;refine G5 ?_;exact D1 V9 iV (ObIn.spec (ob':=[]) trivial) ⟨by rw[<-h],rfl⟩
def cQ(B:List (List (Str×Str)))(i:Nat):List (Str×Str):=(B.take i).flatten
theorem zJ{B:List (List (Str×Str))}{i:Nat}(h:i<B.length):cQ B (i+1)=cQ B i++B[i]:=by
 unfold cQ;rw[C52,C36 h,C53,D11];simp
theorem JM:∀{B:List (List (Str×Str))},(∀l∈B,l.length<=400)->B.flatten.length<=400*B.length
 | [],_=>by simp
 | l::B,h=>by
  have:=JM fun x a=>h x (C55 l a);have:=h l C56;rw[D03,C40,C46];omega
theorem mS{B:List (List (Str×Str))}(a:FewB B)(i:Nat):(cQ B i).length<=13200:=by
 have b:=JM (B:=B.take i) fun l c=>a.lens l (C97 c);have d:=a.len;rw[C59]at b;unfold cQ;omega
abbrev A12(l:List (Str×Str)):Ob:=.grow 54 (Str×Str) 2 dD l
end Go.Proofs.YtabbdaafimcjhaaGreatDoor
