/- The abstract logic, its second half. No project text. -/
import Derived.Test.YtjmoigcpoopjhaaGreatDoorAl
set_option linter.unusedSimpArgs false
attribute [local semireducible] Go.AL.Neu Go.AL.Eff Go.AL.EffV Go.AL.WpL Go.AL.WpC Go.AL.FnOk Go.AL.LexD Go.AL.Sees Go.AL.RetOk
namespace Go.AL
open Go Go.RowKit
set_option linter.unusedVariables false
section
variable {P:Program} {nt:Nat} {fr:Fr} {ob:Obs} {Q:Post}
theorem D2 {c:Code} {X:Type} (E:X→Fr × Obs) (I:X→Prop) (m:X→Nat) (x0:X) (h0:I x0) (start:Sees P nt fr ob (E x0).1 (E x0).2)
  (round:∀x,I x→WpC P nt c (E x).1 (E x).2 (B79 (fun fr' ob'=>∃x',I x'∧m x' < m x∧Sees P nt fr' ob' (E x').1 (E x').2) Q)):WpC P nt (.loop c) fr ob Q :=
 c_loop (X:=ULift X) (fun x=>E x.down) (fun x=>I x.down) (fun x=>m x.down) ⟨x0⟩ h0 start fun x hx=>(round x.down hx).mono fun e fr' ob' hq=>by
  cases e with
  | normal=>obtain ⟨x',h1,h2,h3⟩:=hq;exact ⟨⟨x'⟩,h1,h2,h3⟩
  | _=>exact hq
theorem A80 {c:Code} (fr':Fr) (ob':Obs) (hs:Sees P nt fr ob fr' ob') (k:WpC P nt c fr' ob' Q):WpC P nt c fr ob Q:=D3 hs k
theorem G61 {x y:Code} (fr':Fr) (ob':Obs) (hx:WpC P nt x fr ob (B79 (fun f o=>Sees P nt f o fr' ob') Q)) (k:WpC P nt y fr' ob' Q):WpC P nt (.seq x y) fr ob Q :=
 c_seq (hx.mono fun e f o hq=>by
  cases e with
  | normal=>exact D3 hq k
  | _=>exact hq)
end
end Go.AL
namespace Go.AL
open Go Go.RowKit
set_option linter.unusedVariables false
section
variable {P:Program} {nt:Nat} {ops:Array Oper} {rest:List Oper} {fr:Fr} {ob:Obs} {Q:Post} {d:Nat}
def gd (x b:Bool) (s:SV):SV:=cond (x == b) s .un
theorem B5 {op:Op} {ty:TypeId} {pos:String} {af:Array Edge} {j t:Nat} {b x:Bool} {s:SV} (ht:(ops[j]?).bind (·.dst)=some t) (htn:Nat.blt t nt=true) (hx:E5 fr t=some (.s (.one (.p (.v (.bool x)))))) (hd:Nat.blt d nt=true)
  (h:x=b→Neu P ⟨some d,op,ty,pos,af,none⟩ fr ob (fun s'=>s'=s)) (k:WpL P nt ops rest ((d,gd x b s)::fr) ob Q):WpL P nt ops (⟨some d,op,ty,pos,af,some (j,b)⟩::rest) fr ob Q:=by
 by_cases hb:x=b
 ·refine G9 ht htn hx hb (A6 (h hb) hd ?_)
  have:gd x b s=s:=by simp [gd,hb]
  rwa [this] at k
 ·refine K1 ht htn hx hb hd ?_
  have:gd x b s=.un:=by
   have:(x == b)=false:=by simpa using hb
   simp [gd,this]
  rwa [this] at k
theorem F6 {K:Fr→Obs→Prop} {op:Op} {ty:TypeId} {pos:String} {af:Array Edge} {s:SV} {j t:Nat} {b x:Bool} (hj:(ops[j]?).bind (·.dst)=some t) (hx:E5 fr t=some (.s (.one (.p (.v (.bool x))))))
  (h:x=b→Neu P ⟨some d,op,ty,pos,af,none⟩ (b8 fr (D77 op)) ob (fun s'=>s'=s)) (ht:turns op=false) (hd:Nat.blt d nt=true) (k:LexD P nt ops K rest ((d,gd x b s)::fr) ob) :
  LexD P nt ops K (⟨some d,op,ty,pos,af,some (j,b)⟩::rest) fr ob:=by
 by_cases hb:x=b
 ·refine d_run hj hx hb ?_ ht hd (s:=s) ?_
  ·have:=h hb
   intro S G a w hs
   have h1:=this S G a w hs
   unfold Does at h1 ⊢
   exact h1
  ·have:gd x b s=s:=by simp [gd,hb]
   rwa [this] at k
 ·refine E84 hj hx hb ht hd ?_
  have:gd x b s=.un:=by
   have:(x == b)=false:=by simpa using hb
   simp [gd,this]
  rwa [this] at k
theorem Wants.gd {b x c W:Bool} {s:SV} (h:Wants b s W):Wants b (AL.gd x c s) ((x == c)&&W):=by
 unfold AL.gd
 cases hx:(x == c) with
 | true=>simpa using h
 | false=>exact .un
theorem X5 {x c y b:Bool} (h:((x == c)&&(y == b))=true):x=c∧y=b:=by simpa using h
theorem G62 {x c y b z e:Bool} (h:((x == c)&&((y == b)&&(z == e)))=true):x=c∧y=b∧z=e:=by simpa using h
theorem I0 {α:Type} {ec:Nat} {c:α→Nat→Cell} {n:Nat}:E78 fr ec c [] n []:=rfl
theorem G6 {α:Type} {ec:Nat} {c:α→Nat→Cell} {i:Nat} {x:Operand} {r:List (Nat × Operand)} {y:α} {ys:List α} {s:S1} (hx:opv fr x=some (.s s)) (hk:H8 x=true) (hl:Nat.beq s.cells.length ec=true) (hp:A47 s.cells=some (cellsOf c y 0 ec)) (h:E78 fr ec c r (i+1) ys) :
  E78 fr ec c ((i,x)::r) i (y::ys):=⟨rfl,hk,s,y,ys,hx,Nat.eq_of_beq_eq_true hl,fun rd G us ha=>p5 hp ha,rfl,h⟩
end
end Go.AL
namespace Go.AL
open Go Go.RowKit
set_option linter.unusedVariables false
section
variable {P:Program} {nt:Nat} {dst:Option Tmp} {ty:TypeId} {pos:String} {af:Array Edge} {gd:Option (Nat × Bool)} {fr:Fr} {ob:Obs}
def B29 {α:Type} (ec:Nat) (c:α→Nat→Cell):List α→List TC
 | []=>[]
 | x::xs=>(cellsOf c x 0 ec).map .p++B29 ec c xs
theorem j5 {α:Type} {ec:Nat} {c:α→Nat→Cell}:∀(xs:List α),(B29 ec c xs).length=xs.length*ec
 | []=>by simp [B29]
 | x::xs=>by simp [B29,j5 xs,L6,L22];omega
theorem D79 {α:Type} {ec:Nat} {c:α→Nat→Cell}:∀(xs:List α) (i j:Nat) (x:α),xs[i]?=some x→j < ec→(B29 ec c xs)[i*ec+j]?=some (.p (c x j))
 | [],i,j,x,h,_=>by simp at h
 | y::xs,0,j,x,h,hj=>by
  simp at h;subst h
  have hl:j < (cellsOf c y 0 ec).length:=by rw [L6];exact hj
  have:=V3 c y ec 0 j _ (L01 hl)
  rw [Nat.zero_mul,Nat.zero_add,B29,L19 (by simpa using hl),L51,L01 hl,this.1]
  simp
 | y::xs,i+1,j,x,h,hj=>by
  have ih:=D79 (c:=c) xs i j x (by simpa using h) hj
  rw [B29,L17 (by simp [L6,L22];omega)]
  simp only [L33,L6]
  have:(i+1)*ec+j - ec=i*ec+j:=by rw [L22];omega
  rw [this];exact ih
theorem Sim.retell {S:Ctx} {G:Gh} {a:Act} {w:World} (h:Sim P S fr ob G a w) {k:Nat} {o o':Ob} (hk:C1 ob k=some o) {b:Nat} (hb:blk (G k)=some b) (hwhole:∀i,Own (G k) o b i) (hwhole':∀i,Own (G k) o' b i)
  (ho:∀rd:Rd,ObOk S rd G w (G k) o→ObOk S rd G w (G k) o'):Sim P S fr ((k,o')::ob) G a w :=
 h.write hk hb hwhole hwhole' rfl rfl rfl (Nat.le_refl _) (fun _ _ _=>rfl) (fun rd hrd=>ho rd ((h.obs k o hk).ext hrd (Below.refl _ _)))
theorem Sees.toT (k:Nat) {α:Type} {ec:Nat} {c:α→Nat→Cell} {xs:List α} (hk:C1 ob k=some (.arr α ec c xs)):Sees P nt fr ob fr ((k,.tarr xs.length ec (B29 ec c xs))::ob):=by
 intro S G a w hn h
 obtain ⟨b,vs,t,hg,hl,hh,hvs,hc⟩:=h.obs k _ hk
 have hbk:blk (G k)=some b:=by rw [hg];rfl
 refine ⟨G,h.retell hk hbk (fun i=>⟨hbk,trivial⟩) (fun i=>⟨hbk,trivial⟩) ?_⟩
 rintro rd ⟨b',vs',t',hg',_,hh',hvs',hc'⟩
 refine ⟨b',vs'.toList,t',hg',hl,by simpa using hh',j5 xs,A77 (by rw [j5];simpa using hvs') fun j tc z h1 h2=>?_⟩
 rcases Nat.eq_zero_or_pos ec with h0 | h0
 ·have:(B29 ec c xs).length=0:=by rw [j5,h0];simp
  rw [L18 (by omega)] at h1;cases h1
 ·have hlt:j < xs.length*ec:=by
   rcases Nat.lt_or_ge j (B29 ec c xs).length with h' | h'
   ·rwa [j5] at h'
   ·rw [L18 h'] at h1;cases h1
  have hi:j / ec < xs.length:=(Nat.div_lt_iff_lt_mul h0).2 hlt
  have hj:j % ec < ec:=Nat.mod_lt _ h0
  have he:j / ec*ec+j % ec=j:=by rw [Nat.mul_comm];exact Nat.div_add_mod j ec
  have hf:=D79 (c:=c) xs (j / ec) (j % ec) _ (L01 hi) hj
  rw [he,h1] at hf;cases hf
  obtain ⟨z',hz1,hz2⟩:=hc' (j / ec) hi (j % ec) hj
  rw [he] at hz1
  have:vs'.toList[j]?=some z':=by simpa using hz1
  rw [this] at h2;cases h2;exact hz2
theorem Sees.ofT (k:Nat) {α:Type} {ec:Nat} {c:α→Nat→Cell} {n:Nat} {ts:List TC} (xs:List α) (hk:C1 ob k=some (.tarr n ec ts)) (hn:xs.length=n) (hts:ts=B29 ec c xs):Sees P nt fr ob fr ((k,.arr α ec c xs)::ob):=by
 subst hts hn
 intro S G a w hn h
 obtain ⟨b,vs,t,hg,hl,hh,hvs,hc⟩:=h.obs k _ hk
 have hbk:blk (G k)=some b:=by rw [hg];rfl
 refine ⟨G,h.retell hk hbk (fun i=>⟨hbk,trivial⟩) (fun i=>⟨hbk,trivial⟩) ?_⟩
 rintro rd ⟨b',vs',t',hg',hl',hh',hvs',hc'⟩
 refine ⟨b',vs'.toArray,t',hg',hl',hh',by simp [←hc'.length,j5],fun i hi j hj=>?_⟩
 have hf:=D79 (c:=c) xs i j _ (L01 hi) hj
 obtain ⟨z,hz1,hz2⟩:=hc'.get _ _ hf
 exact ⟨z,by simpa using hz1,hz2⟩
theorem T8 {x y:Operand} {t e:TypeId} {ec bytes k n:Nat} {ts:List TC} {ki:IntKind} {i:Int} [ht:TySl P t e ec bytes] (hx:opv fr x=some (.s (.one (.mut k)))) (hk:C1 ob k=some (.tarr n ec ts))
  (hy:opv fr y=some (I7 (.int ki i))) (h0:0≤i) (h1:i < n):Neu P ⟨dst,.indexAddr t x y,ty,pos,af,gd⟩ fr ob (fun s'=>s'=.s (.one (.mref k ec i.toNat 0))) :=
 F5 fun S G a w h=>by
  obtain ⟨hu,_⟩:=J0 h hx
  obtain ⟨b,vs,t',hg,_⟩:=h.obs k _ hk
  rw [hg] at hu
  refine ⟨.pointer (some ⟨b,i.toNat*ec,none⟩),?_,b,n,n,hg,rfl⟩
  simp only [execOp,hu,G5 h hy]
  refine M6 ?_
  have hb:0≤i∧i < (n:Int):=⟨h0,h1⟩
  simp [Instr.indexAt,run_underlying ht.out.1,asIntOf,hb,J8 ht.size,Addr.add_lit]
theorem G63 {x:Operand} {t:TypeId} {k i o n ec:Nat} {ts:List TC} {s:TC} [ht:TyOne P t] (hx:opv fr x=some (.s (.one (.mref k ec i o)))) (hk:C1 ob k=some (.tarr n ec ts)) (hv:ts[i*ec+o]?=some s) :
  Neu P ⟨dst,.load t x,ty,pos,af,gd⟩ fr ob (fun s'=>s'=.s (.one s)) :=
 F5 fun S G a w h=>by
  obtain ⟨b,m,cap,hg,hu⟩:=J0 h hx
  obtain ⟨b',vs,tt,hg',_,hh,_,ha⟩:=h.obs k _ hk
  rw [hg] at hg';cases hg'
  obtain ⟨z,hz1,hz2⟩:=ha.get _ s hv
  refine ⟨z,?_,hz2⟩
  simp only [execOp,hu]
  refine M6 ?_
  simp [Instr.loadAt,Instr.sureAddr,U8 (ht:=ht) (O6 hh (by simpa using hz1))]
theorem F75 {t:TypeId} {x yo:Operand} {k i o n m ec:Nat} {ts:List TC} {s:S1} (hsz:(P.info? t).map (·.size)=some m) (hx:opv fr x=some (.s (.one (.mref k ec i o)))) (hk:C1 ob k=some (.tarr n ec ts))
  (hy:opv fr yo=some (.s s)) (hcst:H8 yo=true) (hm:s.cells.length=m) (hfit:i*ec+o+m≤ts.length) :
  Eff P ⟨none,.store t x yo,ty,pos,af,gd⟩ fr ob fr ((k,.tarr n ec (setTs ts (i*ec+o) s.cells))::ob):=by
 intro S G a w h
 obtain ⟨b,len,cap,hg,hu⟩:=J0 h hx
 obtain ⟨b',vs,tt,hg',hlen,hh,hvs,ha⟩:=h.obs k _ hk
 rw [hg] at hg';cases hg'
 have hr:(SV.s s).rep (F0 (Mut S ob G) w) G (a.eval yo):=V1 h hy hcst
 have hcells:=K79 hr
 have hcl:(a.eval yo).cells.size=m:=by rw [←hm,hcells.length];simp
 obtain ⟨w',hrun,hos,htape,hout,hsize,hother,hheap⟩:=A37 (P:=P) (t:=t) (w:=w) (b:=b) (o:=i*ec+o) (v:=a.eval yo) (by rw [hsz,hcl]) hh (C36 hcells) (by rw [hcl,←ha.length];exact hfit)
 unfold Does
 have he:(execOp a.eval ⟨none,.store t x yo,ty,pos,af,gd⟩).run P w=.ok .skip w':=by
  simp [execOp,hu,Instr.storeAt,Instr.sureAddr,hrun]
 rw [he]
 have hbk:blk (G k)=some b:=by rw [hg];rfl
 refine ⟨G,h.write hk hbk (fun i=>⟨hbk,trivial⟩) (fun i=>⟨hbk,trivial⟩) hos htape hout (Nat.le_of_eq hsize.symm) (fun j _=>hother j) ?_⟩
 intro rd hrd
 refine ⟨b,_,tt,hg,hlen,hheap,by rw [G60 (by rw [hm];exact hfit)];exact hvs,?_⟩
 have:=(All2.setTs (i*ec+o) ha hcells).mono (fun _ _=>TC.rep_mono hrd)
 simpa using this
theorem D80 {α:Type} {c:α→Nat→Cell}:∀(xs:List α),B29 1 c xs=xs.map fun x=>.p (c x 0)
 | []=>rfl
 | x::xs=>by simp [B29,cellsOf,D80 xs]
theorem K99 (k:Nat) {α:Type} {c:α→Nat→Cell} {xs:List α} (hk:C1 ob k=some (.arr α 1 c xs)):Sees P nt fr ob fr ((k,.tarr xs.length 1 (xs.map fun x=>.p (c x 0)))::ob):=by
 have:=Sees.toT (P:=P) (nt:=nt) (fr:=fr) k hk
 rwa [D80] at this
theorem L00 (k:Nat) {α:Type} {c:α→Nat→Cell} {n:Nat} {ts:List TC} (xs:List α) (hk:C1 ob k=some (.tarr n 1 ts)) (hn:xs.length=n) (hts:ts=xs.map fun x=>.p (c x 0)):Sees P nt fr ob fr ((k,.arr α 1 c xs)::ob) :=
 Sees.ofT k xs hk hn (by rw [D80];exact hts)
theorem z8 {x:Operand} {t:TypeId} {k i n:Nat} {ts:List TC} {s:TC} [ht:TyOne P t] (hx:opv fr x=some (.s (.one (.mref k 1 i 0)))) (hk:C1 ob k=some (.tarr n 1 ts)) (hv:ts[i]?=some s) :
  Neu P ⟨dst,.load t x,ty,pos,af,gd⟩ fr ob (fun s'=>s'=.s (.one s)):=G63 hx hk (by simpa using hv)
theorem J70 {ts:List TC} {i:Nat} {s:TC} (h:i < ts.length):setTs ts i [s]=ts.set i s:=by
 unfold setTs
 rw [List.set_eq_take_append_cons_drop,if_pos h]
 simp
theorem B97 {t:TypeId} {x yo:Operand} {k i n:Nat} {ts:List TC} {s:TC} (hsz:(P.info? t).map (·.size)=some 1) (hx:opv fr x=some (.s (.one (.mref k 1 i 0)))) (hk:C1 ob k=some (.tarr n 1 ts))
  (hi:i < ts.length) (hy:opv fr yo=some (.s (.one s))) (hcst:H8 yo=true):Eff P ⟨none,.store t x yo,ty,pos,af,gd⟩ fr ob fr ((k,.tarr n 1 (ts.set i s))::ob):=by
 have:=F75 (ty:=ty) (pos:=pos) (af:=af) (gd:=gd) hsz hx hk hy hcst rfl (by omega)
 rwa [show i*1+0=i by omega,show (S1.one s).cells=[s] from rfl,J70 hi] at this
theorem L3 {t:TypeId} {x yo:Operand} {k i:Nat} {α:Type} {c:α→Nat→Cell} {xs:List α} {y:α} (hsz:(P.info? t).map (·.size)=some 1) (hx:opv fr x=some (.s (.one (.mref k 1 i 0)))) (hk:C1 ob k=some (.arr α 1 c xs))
  (hi:i < xs.length) (hy:opv fr yo=some (.s (.one (.p (c y 0))))) (hcst:H8 yo=true):Eff P ⟨none,.store t x yo,ty,pos,af,gd⟩ fr ob fr ((k,.arr α 1 c (xs.set i y))::ob) :=
 D23 hsz hx hk (L01 hi) hy hcst rfl rfl (fun rd G us h=>by
  match us,h with
  | [u],h=>exact ⟨h.1,trivial⟩) (fun j hj h=>by omega)
theorem A00 (k:Nat) {t e:TypeId} {ec bytes:Nat} {x y:Operand} {kx ky:IntKind} {n:Int} (α:Type) (c:α→Nat→Cell) (y0:α) {z:Value} [ht:TySl P t e ec bytes] [hz:TyZero P e z]
  (hx:opv fr x=some (I7 (.int kx n))) (hy:opv fr y=some (I7 (.int ky n))) (h0:0≤n) (hn:n≤1073741824)
  (hy0:∀rd:Rd,All2 (Cell.rep rd) (cellsOf c y0 0 ec) z.cells.toList) (hf:(K4 k fr&&L0 k ob)=true) :
  EffV P ⟨dst,.makeSlice t x y,ty,pos,af,gd⟩ fr ob (.s (.one (.mut k))) fr ((k,.arr α ec c (List.replicate n.toNat y0))::ob) :=
 f_make k α c y0 hx hy h0 hn (by rw [hz.out.1];rfl) hy0 hf
end
end Go.AL
namespace Go.AL
open Go Go.RowKit
set_option linter.unusedVariables false
abbrev Mb (M:Nat→Nat→Prop) (b:Nat):Nat→Nat→Prop:=fun b' i=>M b' i∨b'=b
def FnIo (P:Program) (f:FuncId) (args:List PV) (cs:List Cell) (post:List PV→List Cell→Prop):Prop :=
 Callable P f∧∀(w:World) (M:Nat→Nat→Prop) (vals:List Value) (b:Nat) (vs:List Value) (t:TypeId),Grd P (fun k=>k=b) w→(∀b' i,M b' i→b' < w.heap.size∧b'≠b) →
  w.heap[b]?=some (.cells vs.toArray t (0,0))→All2 (Cell.rep (F0 (Mb M b) w)) cs vs→All2 (PV.rep (F0 (Mb M b) w)) args vals →
  Calls P f (.pointer (some ⟨b,0,none⟩)::vals).toArray w (fun e w'=>∃v rs cs' vs',e=.returned v∧post rs cs'∧ResRep (F0 (Mb M b) w') rs v∧(∃t',w'.heap[b]?=some (.cells (List.toArray vs') t' (0,0)))∧All2 (Cell.rep (F0 (Mb M b) w')) cs' vs' ∧
   w'.os=w.os∧w'.tape=w.tape∧w'.output=w.output∧w.heap.size≤w'.heap.size∧∀k,k < w.heap.size→k≠b→w'.heap[k]?=w.heap[k]?)
theorem FnIo.mono {P:Program} {f:FuncId} {args:List PV} {cs:List Cell} {post post':List PV→List Cell→Prop} (h:FnIo P f args cs post) (hp:∀rs cs',post rs cs'→post' rs cs'):FnIo P f args cs post' :=
 ⟨h.1,fun w M vals b vs t h1 h2 h3 h4 h5=>(h.2 w M vals b vs t h1 h2 h3 h4 h5).mono fun _ _ ⟨v,rs,cs',vs',e,p,r⟩=>⟨v,rs,cs',vs',e,hp _ _ p,r⟩⟩
section
variable {P:Program} {nt:Nat} {ops:Array Oper} {rest:List Oper} {fr:Fr} {ob:Obs} {Q:Post} {d:Nat}
abbrev self:Nat:=1000000
def retIoP (P:Program) (fn:Func) (post:List PV→List Cell→Prop):Post
 | .normal,fr,ob | .ret,fr,ob=>∃rs ts cs',RetOk P fn fr ob rs∧C1 ob self=some (.box ts)∧A47 ts=some cs'∧post rs cs'
 | _,_,_=>False
theorem FnIo.intro {f:FuncId} {fn:Func} {c:Code} {args:List PV} {cs:List Cell} {post:List PV→List Cell→Prop} (hf:P.funcs[f]?=some fn) (hname:(fn.name == "runtime.NumGoroutine")=false) (hb:fn.body=some c) (hnt:fn.ntmps=nt)
  (hlen:Nat.ble (args.length+1) nt=true) (hnb:Nat.ble nt 1000000=true) (h:WpC P nt c ((0,.s (.one (.ref self 0)))::B94 1 args) [(self,.box (cs.map .p))] (retIoP P fn post)):FnIo P f args cs post:=by
 refine ⟨⟨fn,hf,hname,by simp [hb]⟩,fun w M vals b vs t hg hM hbh hcs ha=>?_⟩
 have hle:args.length+1≤nt:=by simpa using hlen
 have hvl:vals.length=args.length:=ha.length.symm
 refine r7 hf hb ?_
 let G:Gh:=fun _=>.pointer (some ⟨b,0,none⟩)
 let S:Ctx:={ w0:=w,M0:=M,io:=fun k=>k=b,nt:=nt,pin:=G,gv:=fun _=>undef }
 have hbk:∀k,blk (G k)=some b:=fun _=>rfl
 have hblt:b < w.heap.size:=(Array.getElem?_eq_some_iff.1 hbh).1
 have hget:∀k o,C1 [(self,Ob.box (cs.map .p))] k=some o→k=self∧o=.box (cs.map .p):=by
  intro k o hk
  by_cases he:self=k
  ·subst he;rw [C4] at hk;cases hk;exact ⟨rfl,rfl⟩
  ·rw [B4 he] at hk;simp [C1] at hk
 have hMut:∀b' i,Mut S [(self,.box (cs.map .p))] G b' i↔Mb M b b' i:=fun b' i=>by
  constructor
  ·rintro (h | ⟨k,o,hk,ho,_⟩)
   ·exact .inl h
   ·rw [hbk k] at ho;cases ho;exact .inr rfl
  ·rintro (h | h)
   ·exact .inl h
   ·exact .inr ⟨self,_,C4 _ _ _,by rw [hbk self,h],trivial⟩
 have hrd:∀b' i z,F0 (Mb M b) w b' i z→F0 (Mut S [(self,.box (cs.map .p))] G) w b' i z:=fun b' i z hr=>⟨hr.1,fun hm=>hr.2 ((hMut b' i).1 hm)⟩
 have hs:Sim P S ((0,.s (.one (.ref self 0)))::B94 1 args) [(self,.box (cs.map .p))] G { tmps:=(Value.pointer (some ⟨b,0,none⟩)::vals).toArray++Array.replicate (fn.ntmps - (Value.pointer (some ⟨b,0,none⟩)::vals).toArray.size) undef,defers:=[] } w:=by
  refine { nt:=by simp [hnt,S];omega,ntb:=by simpa using hnb,defers:=rfl,os:=rfl,tape:=rfl,output:=rfl,size:=Nat.le_refl _,keep:=fun _ _ _=>rfl,m0:=fun b' i hm=>(hM b' i hm).1,m0io:=fun b' i hm=>(hM b' i hm).2,grd:=hg,pin:=fun _ _=>rfl,old:=fun k o b' hk hb'=>?_,dis:=fun k k' o o' b' hk hk' _ _=>by rw [(hget k o hk).1,(hget k' o' hk').1],obs:=fun k o hk=>?_,facts:=?_ }
  ·rw [hbk k] at hb';cases hb';exact .inr ⟨rfl,by rw [(hget k o hk).1];exact Nat.le_refl _⟩
  ·obtain ⟨rfl,rfl⟩:=hget k o hk
   exact ⟨b,vs,t,rfl,hbh,I41 (hcs.mono fun c u=>Cell.rep_mono hrd c u)⟩
  intro i s hi
  by_cases h0:(0:Nat)=i
  ·subst h0;rw [E0] at hi;cases hi
   have:((Value.pointer (some ⟨b,0,none⟩)::vals).toArray++Array.replicate (fn.ntmps - (Value.pointer (some ⟨b,0,none⟩)::vals).toArray.size) undef).getD 0 undef=.pointer (some ⟨b,0,none⟩):=by
    rw [Array.getD_eq_getD_getElem?,Array.getElem?_append_left (by simp)]
    simp
   have hn6:nt≤1000000:=by simpa using hnb
   rw [Ctx.sl_lt (by omega),this];exact ⟨b,rfl,rfl⟩
  ·rw [C8 h0] at hi
   obtain ⟨hi1,p,hp,rfl⟩:=C38 1 args i s hi
   obtain ⟨u,hu,hr⟩:=ha.get (i - 1) p hp
   have hlt:i - 1 < vals.length:=(List.getElem?_eq_some_iff.1 hu).1
   have hget':((Value.pointer (some ⟨b,0,none⟩)::vals).toArray++Array.replicate (fn.ntmps - (Value.pointer (some ⟨b,0,none⟩)::vals).toArray.size) undef).getD i undef=u:=by
    rw [Array.getD_eq_getD_getElem?,Array.getElem?_append_left (by simp;omega)]
    obtain ⟨j,rfl⟩:∃j,i=j+1:=⟨i - 1,by omega⟩
    simpa using congrArg (fun x=>x.getD undef) hu
   have hn6:nt≤1000000:=by simpa using hnb
   rw [Ctx.sl_lt (by omega),hget']
   exact PV.rep_s1 (PV.rep_mono hrd hr)
 refine wp_mono (h S _ _ w A0 hs) ?_
 rintro e a' w' ⟨fr',ob',G',hq,hs'⟩
 have fin:(∃rs ts cs',RetOk P fn fr' ob' rs∧C1 ob' self=some (.box ts)∧A47 ts=some cs'∧post rs cs')→∀ds w',Sim P { S with df:=ds } fr' ob' G' a' w'→∃v,(results fn a'.tmps).run P w'=.ok v w' ∧
   (∃v_1 rs cs' vs',Ending.returned v=.returned v_1∧post rs cs'∧ResRep (F0 (Mb M b) w') rs v_1∧(∃t',w'.heap[b]?=some (.cells (List.toArray vs') t' (0,0)))∧All2 (Cell.rep (F0 (Mb M b) w')) cs' vs' ∧
   w'.os=w.os∧w'.tape=w.tape∧w'.output=w.output∧w.heap.size≤w'.heap.size∧∀k,k < w.heap.size→k≠b→w'.heap[k]?=w.heap[k]?):=by
  rintro ⟨rs,ts,cs',hr,ho,hp,hpost⟩ ds w' hs'
  obtain ⟨v,hv,hres⟩:=hr _ G' a' w' hs'
  obtain ⟨b',vs',t',hG',hh,hall⟩:=hs'.obs self _ ho
  have hpin:=hs'.pin self (Nat.le_refl _)
  rw [hG'] at hpin
  injection hpin with hpin
  injection hpin with hpin
  injection hpin with hpin
  subst hpin
  have hrd':∀b₁ i z,F0 (Mut S ob' G') w' b₁ i z→F0 (Mb M b') w' b₁ i z:=fun b₁ i z hz=>⟨hz.1,fun hm=>hz.2 (by
   rcases hm with hm | rfl
   ·exact .inl hm
   ·exact .inr ⟨self,_,ho,by rw [hG'];rfl,trivial⟩)⟩
  refine ⟨v,hv,v,rs,cs',vs',rfl,hpost,hres.mono hrd',⟨t',hh⟩,((p5 hp hall).mono fun c u=>Cell.rep_mono hrd' c u),hs'.os,hs'.tape,hs'.output,hs'.size,fun k hk hne=>hs'.keep k hk hne⟩
 cases e with
 | normal=>exact hs'.leave rfl (fin hq)
 | ret=>exact hs'.leave rfl (fin hq)
 | _=>exact hq.elim
end
section
variable {P:Program} {dst:Option Tmp} {ty:TypeId} {pos:String} {af:Array Edge} {gd:Option (Nat × Bool)} {fr:Fr} {ob:Obs}
theorem I43 (k:Nat) {t e:TypeId} {ec bytes n:Nat} {parts:Array (Nat × Operand)} {α:Type} {c:α→Nat→Cell} {ys:List α} [ht:TySl P t e ec bytes] (hb:E78 fr ec c parts.toList 0 ys) (hn:parts.toList.length=n) (hbig:Nat.ble n 100000=true) (hecb:Nat.ble ec 100=true)
  (hk:C1 ob k=none) (hp0:k < 1000000):EffV P ⟨dst,.buildSlice t n parts,ty,pos,af,gd⟩ fr ob (.s (.one (.buf k α ec c ys))) (Fr.forget k fr) ((k,.spare ys.length ec e)::Obs.forget k ob):=by
 intro S G a w h
 have hec:=ht.out.2.2.1
 have hn':n≤100000:=by simpa using hbig
 have hec':ec≤100:=by simpa using hecb
 have hmul:n*ec≤100000*100:=Nat.mul_le_mul hn' hec'
 obtain ⟨_,_,_,_,hzero⟩:=ht.out
 cases hi:P.info? e with
 | none=>simp [hi] at hzero
 | some i =>
 cases hz:i.zero with
 | none=>simp [hi,hz] at hzero
 | some z =>
 have hzv:(P.info? e).bind (·.zero)=some z:=by simp [hi,hz]
 let cs0:Array Value:=(Array.range (n*ec)).map ((if n*ec=0 then #[] else z.cells)[· % (if n*ec=0 then #[] else z.cells).size]!)
 have hcs0:cs0.size=n*ec:=by simp [cs0]
 obtain ⟨vs,hf,hvl,hyl,hv⟩:=C34 h parts.toList 0 ys cs0 hb (by rw [hcs0,hn,Nat.zero_add])
 simp only [Nat.zero_mul,List.take_zero,L37] at hf
 have hp:(parts.map fun x=>(x.1,a.eval x.2)).toList=parts.toList.map fun x=>(x.1,a.eval x.2):=by simp
 have hyn:ys.length=n:=by rw [hyl,hn]
 refine J9 (w':=w.alloc (.cells vs.toArray e)) (v:=.slice (some ⟨w.heap.size,0,none⟩) n n) ?_ ?_
 ·simp only [execOp]
  refine M6 ?_
  simp only [Instr.buildSlice,Sem.run_bind,run_underlying ht.out.1,Result.andThen_ok,J8 ht.size]
  rw [if_neg (by omega)]
  by_cases hz0:n*ec=0
  ·simp only [hz0,if_true,Sem.run_bind,Sem.run_pure,Result.andThen_ok]
   have hcs1:cs0=(Array.range 0).map ((#[]:Array Value)[· % (#[]:Array Value).size]!):=by simp only [cs0,hz0,if_true]
   rw [show (parts.map fun (x:Nat × Operand)=>match x with | (i,x)=>(i,a.eval x))=parts.map fun x=>(x.1,a.eval x.2) from rfl,hp,←hcs1,hf]
   simp [newRow]
  ·simp only [if_neg hz0,Sem.run_bind,T6 hzv,Sem.run_pure,Result.andThen_ok]
   have hcs1:cs0=(Array.range (n*ec)).map (z.cells[· % z.cells.size]!):=by simp only [cs0,if_neg hz0]
   rw [show (parts.map fun (x:Nat × Operand)=>match x with | (i,x)=>(i,a.eval x))=parts.map fun x=>(x.1,a.eval x.2) from rfl,hp,←hcs1,hf]
   simp [newRow]
 ·have hxw:Below w.heap.size w (w.alloc (.cells vs.toArray e)):=(Below.refl _ _).alloc (Nat.le_refl _) _
  have hu:∀b,blk (.slice (some ⟨w.heap.size,0,none⟩) n n)=some b→w.heap.size≤b:=by intro b hb;simp [blk] at hb;omega
  have hvn:vs.length=n*ec:=by rw [hvl,hn]
  have hown:(w.alloc (.cells vs.toArray e)).ownsRow S.B e ec (.slice (some ⟨w.heap.size,0,none⟩) n n) ys.length vs :=
   ⟨by rw [hvn,hyn],.inr ⟨w.heap.size,n,vs.toArray,by rw [hyn],h.size,heap_alloc_new w _,by rw [hyn];exact Nat.le_refl _,by unfold maxLen;omega,by simpa using hvn,by rw [hyn,←hvn];simp⟩⟩
  have hsim:=h.new hp0 hk (o:=.spare ys.length ec e) hxw hu ⟨vs,hown⟩
  refine ⟨_,hsim,(J2 _ _ _).symm,?_⟩
  have hown':(w.alloc (.cells vs.toArray e)).ownsRow S.B e ec (.slice (some ⟨w.heap.size,0,none⟩) n n) ys.length vs:=hown
  refine A38 (c:=c) (xs:=ys) hown' hec (by omega) ?_ ?_
  ·intro g hg j zz hj hcell
   simp [blk] at hg
   subst hg
   refine ⟨hcell,fun hm=>?_⟩
   rcases hm with hm | ⟨k',o',hk',hb1,hb2⟩
   ·have:=h.m0 _ j hm;have:=h.size;omega
   ·by_cases hkk:k=k'
    ·subst hkk
     rw [C4] at hk';cases hk'
     simp only at hb2
     omega
    ·rw [B4 hkk,K6] at hk'
     cases hg:C1 ob k' with
     | none=>simp [hg] at hk'
     | some o0 =>
      rw [x5 G _ (Ne.symm hkk)] at hb1
      have:=(h.obs k' o0 hg).blk_lt _ hb1
      omega
  ·intro m hm j hj
   obtain ⟨zz,hz1,hz2⟩:=hv m hm j hj
   exact ⟨zz,hz1,Cell.rep_mono (fun _ _ _ hr=>h.rd_new hxw hu hr) _ _ hz2⟩
end
end Go.AL
namespace Go.AL
open Go Go.RowKit
set_option linter.unusedVariables false
section
variable {P:Program} {nt:Nat} {fr:Fr} {ob:Obs}
theorem K86 {α:Type 1} {β:Type} {R:α→β→Prop} {t:α}:∀{ts:List α} {vs:List β} (o:Nat),(∀z,vs[o]?=some z→R t z)→All2 R ts vs→All2 R (ts.set o t) vs
 | [],[],_,_,_=>trivial
 | [],_::_,_,_,h=>h.elim
 | _::_,[],_,_,h=>h.elim
 | _::_,v::_,0,hz,h=>⟨hz v rfl,h.2⟩
 | _::ts,_::vs,o+1,hz,h=>⟨h.1,K86 o (fun z hz'=>hz z (by simpa using hz')) h.2⟩
theorem K95 (k:Nat) (α:Type) (ec:Nat) (c:α→Nat→Cell) (e:TypeId) {kb o:Nat} {ts:List TC} (hb:C1 ob kb=some (.box ts)) (hts:ts[o]?=some (.p (.v (.slice none 0 0)))) (hf:(K4 k fr&&L0 k ob)=true) :
  Sees P nt fr ob fr ((kb,.box (ts.set o (.buf k α ec c [])))::(k,.spare 0 ec e)::ob):=by
 simp only [L02] at hf
 obtain ⟨h1,h2⟩:=hf
 obtain ⟨h4,h5,hp⟩:=H9 h2
 intro S G a w hn h
 have h6:=h.new hp (o:=.spare 0 ec e) (u:=.slice none 0 0) (w1:=w) h5 (Below.refl _ _) (fun b hb=>by simp [blk] at hb) ⟨[],World.ownsRow_nil w _ _ _⟩
 rw [b9 h1,h4] at h6
 have hkb:k≠kb:=fun he=>by rw [he,hb] at h5;cases h5
 have hb':C1 ((k,Ob.spare 0 ec e)::ob) kb=some (.box ts):=by rw [B4 hkb];exact hb
 obtain ⟨b,vs,t,hg,hh,ha⟩:=h6.obs kb _ hb'
 have hbk:blk (upd G k (.slice none 0 0) kb)=some b:=by rw [hg];rfl
 refine ⟨_,h6.retell hb' hbk (fun i=>⟨hbk,trivial⟩) (fun i=>⟨hbk,trivial⟩) ?_⟩
 rintro rd ⟨b',vs',t',hg',hh',ha'⟩
 refine ⟨b',vs',t',hg',hh',K86 o (fun z hz=>?_) ha'⟩
 obtain ⟨z',hz1,hz2⟩:=ha'.get o _ hts
 rw [hz] at hz1;cases hz1
 rw [hz2.1]
 exact ⟨(J2 _ _ _).symm,I4 α ec c⟩
end
end Go.AL
namespace Go.AL
open Go Go.RowKit
set_option linter.unusedVariables false
section
variable {P:Program} {nt:Nat} {fr:Fr} {ob:Obs}
def low:Obs→Bool
 | []=>true
 | (i,_)::r=>Nat.blt i 1000&&low r
theorem TC.freeze_free {k:Nat} {α:Type} {ec:Nat} {c:α→Nat→Cell} {xs:List α} {t:TC} (h:t.free k=true):t.freeze k α ec c xs=t:=by
 cases t<;>first | rfl | skip
 simp only [TC.free,Bool.not_eq_true'] at h
 simp [TC.freeze,h]
theorem Ob.freeze_free {k:Nat} {α:Type} {ec:Nat} {c:α→Nat→Cell} {xs:List α} {o:Ob} (h:o.free k=true):o.freeze k α ec c xs=o:=by
 cases o with
 | box ts=>simp only [Ob.freeze];rw [X4 fun t ht=>TC.freeze_free (List.all_eq_true.1 h t ht)]
 | tbx e ts=>simp only [Ob.freeze];rw [X4 fun t ht=>TC.freeze_free (List.all_eq_true.1 h t ht)]
 | tarr n e ts=>simp only [Ob.freeze];rw [X4 fun t ht=>TC.freeze_free (List.all_eq_true.1 h t ht)]
 | arr=>rfl
 | spare=>rfl
 | grow=>rfl
 | map=>rfl
 | growA e' α' ec' c' xs' p ts=>simp only [Ob.freeze];rw [X4 fun t ht=>TC.freeze_free (List.all_eq_true.1 h t ht)]
 | growT e' n' ec' ts=>simp only [Ob.freeze];rw [X4 fun t ht=>TC.freeze_free (List.all_eq_true.1 h t ht)]
end
theorem K94 {P:Program} {f:FuncId} {args:List PV} {post:List PV→Prop} (hc:Callable P f)
  (h:∀(w:World) (M:Nat→Nat→Prop) (vals:List Value),(∀b i,M b i→b < w.heap.size)→All2 (PV.rep (F0 M w)) args vals→Calls P f vals.toArray w (fun e w'=>∃v rs,e=.returned v∧post rs∧ResRep (F0 M w') rs v∧Below w.heap.size w w')):FnOk P f args post :=
 ⟨hc,fun w M vals _ hM ha=>h w M vals hM ha⟩
theorem K80 {P:Program} {f:FuncId} {xs:List Value} {r:Value} (hc:Callable P f) (hr:r.oneCell'=true)
  (h:∀w,Calls P f xs.toArray w (fun e w'=>e=.returned r∧w'=w)):FnOk P f (xs.map fun x=>.one (.v x)) (fun rs=>rs=[.one (.v r)]):=by
 refine K94 hc fun w M vals hM ha=>?_
 have hv:vals=xs:=by
  clear h hc
  induction xs generalizing vals with
  | nil=>cases vals with
   | nil=>rfl
   | cons _ _=>exact ha.elim
  | cons x xs ih=>cases vals with
   | nil=>exact ha.elim
   | cons v vs =>
    obtain ⟨h1,h2⟩:=ha
    rw [ih vs h2,h1.1]
 rw [hv]
 refine (h w).mono fun e w' he=>?_
 obtain ⟨h1,h2⟩:=he
 exact ⟨r,_,h1,rfl,⟨rfl,hr⟩,by rw [h2];exact Below.refl _ _⟩
end Go.AL
namespace Go.AL
open Go Go.RowKit
set_option linter.unusedVariables false
section
variable {P:Program} {dst:Option Tmp} {ty:TypeId} {pos:String} {af:Array Edge} {gd:Option (Nat × Bool)} {fr:Fr} {ob:Obs}
theorem B2 {x:Operand} {k o:Nat} (hx:opv fr x=some (.s (.one (.ref k o)))):Neu P ⟨dst,.nilCheck x,ty,pos,af,gd⟩ fr ob (fun s'=>s'=.s (.one (.ref k o))) :=
 F5 fun S G a w h=>by
  obtain ⟨b,hg,hu⟩:=J0 h hx
  refine ⟨_,?_,b,hg,rfl⟩
  simp only [execOp,hu]
  rfl
theorem E62 {x:Operand} {t:TypeId} {k:IntKind} {n r:Int} (hx:opv fr x=some (I7 (.int k n))) (hs:k.signed=false) (hr:∀w:World,(Op.intBits .xor k k.max n).run P w=.ok (.int k r) w):Neu P ⟨dst,.unOp .xor t x,ty,pos,af,gd⟩ fr ob (fun s'=>s'=I7 (.int k r)) :=
 F5 fun S G a w h=>⟨_,by simp only [execOp,G5 h hx];exact M6 (by simp [Op.unary,hs];exact hr w),rfl,rfl⟩
end
end Go.AL
namespace Go.AL
open Go Go.RowKit
set_option linter.unusedVariables false
def shF (fr:Fr):Fr:=fr.map fun x=>(x.1+1000000,x.2)
theorem U2:∀(fr:Fr) (i:Nat) (s:SV),E5 (shF fr) i=some s→1000000≤i∧E5 fr (i - 1000000)=some s
 | [],i,s,h=>by simp [shF,E5] at h
 | (j,x)::r,i,s,h=>by
  by_cases hj:j+1000000=i
  ·subst hj
   simp only [shF,L16] at h
   rw [E0] at h
   cases h
   exact ⟨by omega,by rw [Nat.add_sub_cancel,E0]⟩
  ·simp only [shF,L16] at h
   rw [C8 hj] at h
   obtain ⟨h1,h2⟩:=U2 r i s h
   exact ⟨h1,by rw [C8 (by omega)];exact h2⟩
theorem B49 {fr:Fr}:∀{i:Nat} {s:SV},E5 fr i=some s→E5 (shF fr) (i+1000000)=some s:=by
 induction fr with
 | nil=>intro i s h;simp [E5] at h
 | cons x r ih =>
  obtain ⟨j,y⟩:=x
  intro i s h
  by_cases hj:j=i
  ·subst hj;rw [E0] at h;cases h
   simp only [shF,L16];rw [E0]
  ·rw [C8 hj] at h
   simp only [shF,L16];rw [C8 (by omega)]
   exact ih h
theorem I44 (k:Nat) (fr:Fr):Fr.forget k (shF fr)=shF (Fr.forget k fr):=by simp [shF,Fr.forget,Function.comp_def]
def x8:Nat→List S1→Fr
 | _,[]=>[]
 | i,p::ps=>(i,.s p)::x8 (i+1) ps
theorem C91:∀(i:Nat) (ps:List S1) (k:Nat) (s:SV),E5 (x8 i ps) k=some s→i≤k∧∃p,ps[k - i]?=some p∧s=.s p
 | i,[],k,s,h=>by simp [x8,E5] at h
 | i,p::ps,k,s,h=>by
  by_cases he:i=k
  ·subst he
   simp only [x8,E0] at h
   cases h
   exact ⟨Nat.le_refl _,p,by simp,rfl⟩
  ·simp only [x8] at h
   rw [C8 he] at h
   obtain ⟨h1,q,h2,h3⟩:=C91 (i+1) ps k s h
   refine ⟨by omega,q,?_,h3⟩
   have:k - i=(k - (i+1))+1:=by omega
   rw [this];simpa using h2
theorem Y2:∀(a b:Fr) (k:Nat),E5 (a++b) k=(E5 a k).orElse fun _=>E5 b k
 | [],b,k=>rfl
 | (i,s)::r,b,k=>by
  show E5 ((i,s)::(r++b)) k=_
  by_cases h:i=k
  ·subst h;rw [E0,E0];rfl
  ·rw [C8 h,C8 h,Y2 r b k]
def B98:List S1→SV
 | [p]=>.s p
 | ps=>.tup ps
def A01 (rd:Rd) (G:Gh) (rs:List S1) (v:Value):Prop:=(B98 rs).rep rd G v
section
variable {P:Program} {nt:Nat} {ops:Array Oper} {rest:List Oper} {fr:Fr} {ob:Obs} {Q:Post} {d:Nat}
def RetS (P:Program) (fn:Func) (fr:Fr) (ob:Obs) (rs:List S1):Prop :=
 ∀S G a w,Sim P S fr ob G a w→∃v,(results fn a.tmps).run P w=.ok v w∧A01 (F0 (Mut S ob G) w) G rs v
def C0 (ks:List Nat) (fr:Fr):Fr:=ks.foldl (fun f k=>Fr.forget k f) fr
theorem s7:∀{ks:List Nat} {fr:Fr} {i:Nat} {s:SV},E5 (C0 ks fr) i=some s→∃s0,E5 fr i=some s0
 | [],_,_,s,h=>⟨s,h⟩
 | k::ks,fr,i,s,h=>by
  obtain ⟨s0,h0⟩:=s7 (ks:=ks) (fr:=Fr.forget k fr) h
  rw [N7] at h0
  cases hg:E5 fr i with
  | none=>rw [hg] at h0;cases h0
  | some s1=>exact ⟨s1,rfl⟩
theorem Y3:∀(ks:List Nat) (fr:Fr),C0 ks (shF fr)=shF (C0 ks fr)
 | [],_=>rfl
 | k::ks,fr=>by
  show C0 ks (Fr.forget k (shF fr))=shF (C0 ks (Fr.forget k fr))
  rw [I44,Y3 ks]
def High (gf:Fr):Prop:=∀i s,E5 gf i=some s→1000000≤i
def Tail (gf fr:Fr):Prop:=∀i s,1000000≤i→E5 gf i=some s→E5 fr i=some s
theorem A8 {gf:Fr}:Tail gf gf:=fun _ _ _ h=>h
theorem A9 {gf fr:Fr} {j:Nat} {s:SV} (hj:Nat.blt j 1000000=true) (h:Tail gf fr):Tail gf ((j,s)::fr):=fun i s' hi hg=>by
 have hj:j < 1000000:=by simpa using hj
 rw [C8 (by omega)]
 exact h i s' hi hg
theorem D4 (k:Nat) {gf fr:Fr} (h:Tail gf fr):Tail (Fr.forget k gf) (Fr.forget k fr):=fun i s hi hg=>by
 rw [N7] at hg ⊢
 cases hgf:E5 gf i with
 | none=>rw [hgf] at hg;cases hg
 | some s0=>rw [hgf] at hg;rw [h i s0 hi hgf];exact hg
def metP (P:Program) (fn:Func) (ks:List Nat) (gf:Fr) (post:List S1→Obs→Prop):Post
 | .normal,fr,ob | .ret,fr,ob=>∃rs ob',RetS P fn fr ob rs∧Tail (C0 ks gf) fr∧(∀k o,C1 ob' k=some o→C1 ob k=some o)∧post rs ob'
 | _,_,_=>False
def Met (P:Program) (f:FuncId) (args:List S1) (gf:Fr) (ob:Obs) (ks:List Nat) (post:List S1→Obs→Prop):Prop :=
 Callable P f∧(High gf→∀S G a w (vals:List Value),Sim P S gf ob G a w→All2 (S1.rep (F0 (Mut S ob G) w) G) args vals →
  Calls P f vals.toArray w (fun e w'=>∃v rs ob' G',e=.returned v∧post rs ob'∧A01 (F0 (Mut S ob' G') w') G' rs v∧Sim P S (C0 ks gf) ob' G' a w'))
theorem Met.mono {f:FuncId} {args:List S1} {gf:Fr} {ks:List Nat} {post post':List S1→Obs→Prop} (h:Met P f args gf ob ks post) (hp:∀rs ob,post rs ob→post' rs ob):Met P f args gf ob ks post' :=
 ⟨h.1,fun hg S G a w vals hs ha=>(h.2 hg S G a w vals hs ha).mono fun e w' ⟨v,rs,ob',G',h1,h2,h3⟩=>⟨v,rs,ob',G',h1,hp _ _ h2,h3⟩⟩
theorem Met.intro {f:FuncId} {fn:Func} {c:Code} {args:List S1} {gf:Fr} {ks:List Nat} {post:List S1→Obs→Prop} (hf:P.funcs[f]?=some fn) (hname:(fn.name == "runtime.NumGoroutine")=false) (hb:fn.body=some c) (hlen:Nat.ble args.length fn.ntmps=true) (hnb:Nat.ble fn.ntmps 1000000=true)
  (h6:WpC P fn.ntmps c (x8 0 args++gf) ob (metP P fn ks gf post)):Met P f args gf ob ks post:=by
 refine ⟨⟨fn,hf,hname,by simp [hb]⟩,fun hgf S G a w vals h hvals=>?_⟩
 have hvl:vals.length=args.length:=hvals.length.symm
 have hle:args.length≤fn.ntmps:=by simpa using hlen
 have hn6:fn.ntmps≤1000000:=by simpa using hnb
 let S':Ctx:={ S with nt:=fn.ntmps,df:=[] }
 have hs:Sim P S' (x8 0 args++gf) ob G { tmps:=vals.toArray++Array.replicate (fn.ntmps - vals.toArray.size) undef,defers:=[] } w:=by
  refine { h with nt:=by simp [S'];omega,ntb:=hn6,defers:=rfl,facts:=?_ }
  intro i s hi
  rw [Y2] at hi
  cases hg:E5 (x8 0 args) i with
  | some s0 =>
   rw [hg] at hi
   have hi:some s0=some s:=hi
   cases hi
   obtain ⟨_,p,hp,rfl⟩:=C91 0 args i _ hg
   obtain ⟨u,hu,hr⟩:=hvals.get (i - 0) p hp
   have hlt:i < vals.length:=(List.getElem?_eq_some_iff.1 hu).1
   have hget:(vals.toArray++Array.replicate (fn.ntmps - vals.toArray.size) undef).getD i undef=u:=by
    rw [Array.getD_eq_getD_getElem?,Array.getElem?_append_left (by simpa using hlt)]
    simpa using congrArg (fun x=>x.getD undef) hu
   rw [Ctx.sl_lt (by omega),hget]
   exact hr
  | none =>
   rw [hg] at hi
   have hi:E5 gf i=some s:=hi
   have h7:=hgf i s hi
   have h8:=h.facts i s hi
   rw [Ctx.sl_ge h7] at h8 ⊢
   exact h8
 refine r7 hf hb (wp_mono (h6 S' _ _ w rfl hs) ?_)
 rintro e a' w' ⟨fr',ob',G',hq,hs'⟩
 have fin:(∃rs ob'',RetS P fn fr' ob' rs∧Tail (C0 ks gf) fr'∧(∀k o,C1 ob'' k=some o→C1 ob' k=some o)∧post rs ob'')→∀ds w',Sim P { S' with df:=ds } fr' ob' G' a' w'→∃v,(results fn a'.tmps).run P w'=.ok v w'∧(∃v_1 rs ob' G',Ending.returned v=.returned v_1∧post rs ob'∧A01 (F0 (Mut S ob' G') w') G' rs v_1∧Sim P S (C0 ks gf) ob' G' a w'):=by
  rintro ⟨rs,ob'',hr,hg,ho,hp⟩ ds w' hs'
  obtain ⟨v,hv,hres⟩:=hr _ G' a' w' hs'
  have hmut:∀b i,Mut S' ob'' G' b i→Mut S' ob' G' b i:=by
   rintro b i (hm | ⟨k,o,hk,ho'⟩)
   ·exact .inl hm
   ·exact .inr ⟨k,o,ho k o hk,ho'⟩
  have hs2:=(hs'.weaken (fr':=C0 ks gf) (fun i s hi=>by
   obtain ⟨s0,h0⟩:=s7 hi
   exact hg i s (hgf i s0 h0) hi)).weakenO ho
  refine ⟨v,hv,v,rs,ob'',G',rfl,hp,SV.rep_mono (fun b i z hz=>⟨hz.1,fun hm=>hz.2 (hmut b i hm)⟩) hres,{ hs2 with nt:=h.nt,ntb:=h.ntb,defers:=h.defers,facts:=fun i s hi=>?_ }⟩
  obtain ⟨s0,h0⟩:=s7 hi
  have h7:=hgf i s0 h0
  have h8:=hs2.facts i s hi
  rw [Ctx.sl_ge h7] at h8 ⊢
  exact h8
 cases e with
 | normal=>exact hs'.leave rfl (fin hq)
 | ret=>exact hs'.leave rfl (fin hq)
 | _=>exact hq.elim
theorem G7 {fn:Func} {ks:List Nat} {gf:Fr} {post:List S1→Obs→Prop} {rs:List S1} {ob':Obs} (h:RetS P fn fr ob rs) (hg:Tail (C0 ks gf) fr) (ho:∀k o,C1 ob' k=some o→C1 ob k=some o) (hp:post rs ob'):metP P fn ks gf post .ret fr ob :=
 ⟨rs,ob',h,hg,ho,hp⟩
theorem S8 {fn:Func} {ks:List Nat} {gf:Fr} {post:List S1→Obs→Prop} {rs:List S1} {ob':Obs} (h:RetS P fn fr ob rs) (hg:Tail (C0 ks gf) fr) (ho:∀k o,C1 ob' k=some o→C1 ob k=some o) (hp:post rs ob'):metP P fn ks gf post .normal fr ob :=
 ⟨rs,ob',h,hg,ho,hp⟩
theorem A81 {fn:Func} (hr:fn.results=#[]):RetS P fn fr ob []:=fun S G a w h=>⟨.tuple #[],by simp [results,hr],[],rfl,trivial⟩
theorem I8 {fn:Func} {t:Tmp} {s:S1} (hr:fn.results=#[.tmp t]) (ht:c9 fr t=some (.s s)):RetS P fn fr ob [s] :=
 fun S G a w h=>⟨a.tmps.getD t undef,by simp [results,hr],h.slot ht⟩
theorem E86 {fn:Func} {t t':Tmp} {s s':S1} (hr:fn.results=#[.tmp t,.tmp t']) (ht:c9 fr t=some (.s s)) (ht':c9 fr t'=some (.s s')):RetS P fn fr ob [s,s'] :=
 fun S G a w h=>⟨.tuple #[a.tmps.getD t undef,a.tmps.getD t' undef],by simp [results,hr],[_,_],rfl,h.slot ht,h.slot ht',trivial⟩
theorem H39 {fn:Func} {t t' t'':Tmp} {s s' s'':S1} (hr:fn.results=#[.tmp t,.tmp t',.tmp t'']) (ht:c9 fr t=some (.s s)) (ht':c9 fr t'=some (.s s')) (ht'':c9 fr t''=some (.s s'')):RetS P fn fr ob [s,s',s''] :=
 fun S G a w h=>⟨.tuple #[a.tmps.getD t undef,a.tmps.getD t' undef,a.tmps.getD t'' undef],by simp [results,hr],[_,_,_],rfl,h.slot ht,h.slot ht',h.slot ht'',trivial⟩
def p6 (fr:Fr):List Operand→Option (List S1)
 | []=>some []
 | x::r=>match opv fr x with
  | some (.s s)=>match p6 fr r with
   | some ps=>some (s::ps)
   | none=>none
  | _=>none
theorem Z8 {S:Ctx} {G:Gh} {a:Act} {w:World} (h:Sim P S fr ob G a w):∀(xs:List Operand) (ps:List S1),p6 fr xs=some ps→xs.all H8=true→All2 (S1.rep (F0 (Mut S ob G) w) G) ps (xs.map a.eval)
 | [],ps,h1,_=>by simp [p6] at h1;subst h1;trivial
 | x::r,ps,h1,h2=>by
  simp only [List.all_cons,L02] at h2
  unfold p6 at h1
  split at h1
  ·rename_i s hx
   split at h1
   ·rename_i qs hr
    simp only [Option.some.injEq] at h1
    subst h1
    have hs:(SV.s s).rep (F0 (Mut S ob G) w) G (a.eval x):=V1 h hx h2.1
    exact ⟨hs,Z8 h r qs hr h2.2⟩
   ·cases h1
  ·cases h1
theorem L4 {f:FuncId} {xs:List Operand} {ats:Array TypeId} {ty:TypeId} {pos:String} {af:Array Edge} {args:List S1} {ks:List Nat} {post:List S1→Obs→Prop}
  (hf:Met P f args (shF fr) ob ks post) (ha:p6 fr xs=some args) (hc:xs.all H8=true) (hd:Nat.blt d nt=true)
  (kk:∀rs ob',post rs ob'→WpL P nt ops rest ((d,B98 rs)::C0 ks fr) ob' Q):WpL P nt ops (⟨some d,.call ⟨.value (.func f),xs.toArray,ats⟩,ty,pos,af,none⟩::rest) fr ob Q:=by
 intro S G a w hn h
 have hvals:=Z8 h xs args ha hc
 obtain ⟨gv,hgv⟩:∃gv:Nat→Value,gv=fun i=>S.sl a (i - 1000000):=⟨_,rfl⟩
 let S':Ctx:={ S with gv:=gv }
 have hhigh:High (shF fr):=fun i s hi=>(U2 fr i s hi).1
 have hfacts0:∀i s,E5 (shF fr) i=some s→s.rep (F0 (Mut S' ob G) w) G (S'.sl a i):=by
  intro i s hi
  obtain ⟨h7,h8⟩:=U2 fr i s hi
  rw [Ctx.sl_ge h7]
  show s.rep _ _ (gv i)
  have e:=congrFun hgv i
  rw [e]
  exact h.facts (i - 1000000) s h8
 have hs:Sim P S' (shF fr) ob G a w:={ h with facts:=hfacts0 }
 have hcalls:=hf.2 hhigh S' G a w _ hs hvals
 refine wpList_plain rfl fun K hK=>M9 (K:=fun v w'=>∃rs ob' G',post rs ob'∧A01 (F0 (Mut S' ob' G') w') G' rs v∧Sim P S' (C0 ks (shF fr)) ob' G' a w') ?_ ?_
 ·have he:(execOp a.eval ⟨some d,.call ⟨.value (.func f),xs.toArray,ats⟩,ty,pos,af,none⟩).run P w=.ok (.enter f (xs.map a.eval).toArray) w:=by
   have:=M4 (P:=P) (f:=f) (args:=(xs.map a.eval).toArray) (w:=w) hf.1
   have hm:xs.toArray.map a.eval=(xs.map a.eval).toArray:=by simp
   simp only [execOp,resolve,Act.eval,Deferred.ofValue,Sem.run_bind,Sem.run_pure,Result.andThen_ok,invoke]
   rw [show (#[]:Array Value)++Array.map a.eval xs.toArray++#[]=(xs.map a.eval).toArray by rw [←hm];simp]
   exact this
  unfold Does
  rw [he]
  refine hcalls.mono ?_
  rintro e w' ⟨v,rs,ob',G',rfl,hpost,hres,hs'⟩
  exact ⟨v,rfl,rs,ob',G',hpost,hres,hs'⟩
 ·rintro v w' ⟨rs,ob',G',hp,hres,hs'⟩
  have hlt:d < S.nt:=by rw [hn];simpa using hd
  have hfacts:∀i s,E5 (C0 ks fr) i=some s→s.rep (F0 (Mut S ob' G') w') G' (S.sl a i):=by
   intro i s hi
   have h7:=hs'.facts (i+1000000) s (by rw [Y3];exact B49 hi)
   have h8:1000000≤i+1000000:=Nat.le_add_left _ _
   rw [Ctx.sl_ge h8] at h7
   have h7:s.rep (F0 (Mut S ob' G') w') G' (gv (i+1000000)):=h7
   have e:=congrFun hgv (i+1000000)
   simp only [Nat.add_sub_cancel] at e
   rw [e] at h7
   exact h7
  have hsim:Sim P S (C0 ks fr) ob' G' a w':={ hs' with facts:=hfacts }
  exact hK _ _ (kk rs ob' hp S G' _ w' hn (hsim.put hlt hres))
end
end Go.AL
namespace Go.AL
open Go Go.RowKit
set_option linter.unusedVariables false
section
variable {P:Program} {nt:Nat} {ops:Array Oper} {rest:List Oper} {fr gf:Fr} {ob:Obs} {Q:Post} {d:Nat}
theorem K91 {f:FuncId} {args:List PV} {post:List PV→Prop} (hc:Callable P f)
  (h:∀(w:World) (M:Nat→Nat→Prop) (vals:List Value),Grd P (fun _=>False) w→(∀b i,M b i→b < w.heap.size)→All2 (PV.rep (F0 M w)) args vals→Calls P f vals.toArray w (fun e w'=>∃v rs,e=.returned v∧post rs∧ResRep (F0 M w') rs v∧Below w.heap.size w w')):FnOk P f args post:=by
 unfold FnOk
 exact ⟨hc,h⟩
theorem K85 {f:FuncId} {xs:List Value} {r:Value} (hc:Callable P f) (hr:r.oneCell'=true)
  (h:∀w,Grd P (fun _=>False) w→Calls P f xs.toArray w (fun e w'=>e=.returned r∧Below w.heap.size w w')):FnOk P f (xs.map fun x=>.one (.v x)) (fun rs=>rs=[.one (.v r)]):=by
 refine K91 hc fun w M vals hg hM ha=>?_
 have hv:vals=xs:=by
  clear h hc
  induction xs generalizing vals with
  | nil=>cases vals with
   | nil=>rfl
   | cons _ _=>exact ha.elim
  | cons x xs ih=>cases vals with
   | nil=>exact ha.elim
   | cons v vs =>
    obtain ⟨h1,h2⟩:=ha
    rw [ih vs h2,h1.1]
 rw [hv]
 refine (h w hg).mono fun e w' he=>?_
 obtain ⟨h1,h2⟩:=he
 exact ⟨r,_,h1,rfl,⟨rfl,hr⟩,h2⟩
def SV.flat:SV→SV
 | .s (.one (.p (.v x)))=>.s (.one (.p (.v x)))
 | .un=>.un
 | _=>.any
end
end Go.AL
namespace Go.AL
open Go Go.RowKit
set_option linter.unusedVariables false
section
variable {P:Program} {nt:Nat} {ops:Array Oper} {rest:List Oper} {fr gf:Fr} {ob:Obs} {Q:Post} {d:Nat}
end
end Go.AL
namespace Go.AL
open Go Go.RowKit
set_option linter.unusedVariables false
section
variable {P:Program} {dst:Option Tmp} {ty:TypeId} {pos:String} {af:Array Edge} {gd:Option (Nat × Bool)} {fr:Fr} {ob:Obs} {nt:Nat}
theorem E13 {w:World} {B:Nat} {e:TypeId} {ec n:Nat} {v:Value} {xs:List Value} (h:w.ownsRow B e ec v n xs):v.oneCell'=true:=by
 rcases h.2 with ⟨rfl,_⟩ | ⟨g,cap,cur,rfl,_⟩<;>rfl
theorem H40 (k:Nat) (α:Type) (c:α→Nat→Cell) {t e:TypeId} {ec bytes:Nat} [ht:TySl P t e ec bytes] (hf:(K4 k fr&&L0 k ob)=true) :
  EffV P ⟨dst,.assign (.const (.slice none 0 0)),t,pos,af,gd⟩ fr ob (.s (.one (.mut k))) fr ((k,.grow e α ec c [])::ob):=by
 simp only [L02] at hf
 obtain ⟨h1,h2⟩:=hf
 obtain ⟨h4,h5,hp⟩:=H9 h2
 intro S G a w h
 refine J9 (w':=w) (v:=.slice none 0 0) A0 ?_
 have h6:=h.new hp (o:=.grow e α ec c []) (u:=.slice none 0 0) (w1:=w) h5 (Below.refl _ _) (fun b hb=>by simp [blk] at hb) ⟨[],World.ownsRow_nil w _ _ _,by simp,fun i hi=>absurd hi (by simp)⟩
 rw [b9 h1,h4] at h6
 exact ⟨upd G k (.slice none 0 0),h6,(J2 _ _ _).symm,rfl⟩
theorem X3 {x:Operand} {t e e':TypeId} {eb bytes k ec:Nat} {α:Type} {c:α→Nat→Cell} {xs:List α} (hx:opv fr x=some (.s (.one (.mut k)))) (hk:C1 ob k=some (.grow e' α ec c xs)) [ht:TySl P t e eb bytes] :
  Neu P ⟨dst,.call ⟨.builtin .len,#[x],#[t]⟩,ty,pos,af,gd⟩ fr ob (fun s'=>s'=C7 xs.length) :=
 F5 fun S G a w h=>by
  refine ⟨.int .i64 xs.length,?_,rfl,rfl⟩
  obtain ⟨hu,_⟩:=J0 h hx
  obtain ⟨vs,hown,_⟩:=h.obs k _ hk
  rcases hown.2 with ⟨hg,h0⟩ | ⟨g,cap,cur,hg,_⟩
  ·rw [hg] at hu
   simp [execOp,resolve,invoke,builtin,hu,Builtin.len_,run_underlying ht.out.1,goInt,h0]
  ·rw [hg] at hu
   simp [execOp,resolve,invoke,builtin,hu,Builtin.len_,run_underlying ht.out.1,goInt]
theorem H6 {x y:Operand} {t e e':TypeId} {ec bytes k:Nat} {α:Type} {c:α→Nat→Cell} {xs:List α} {ki:IntKind} {i:Int} [ht:TySl P t e ec bytes] (hx:opv fr x=some (.s (.one (.mut k)))) (hk:C1 ob k=some (.grow e' α ec c xs))
  (hy:opv fr y=some (I7 (.int ki i))) (h0:0≤i) (h1:i < xs.length):Neu P ⟨dst,.indexAddr t x y,ty,pos,af,gd⟩ fr ob (fun s'=>s'=.s (.one (.mref k ec i.toNat 0))) :=
 F5 fun S G a w h=>by
  obtain ⟨hu,_⟩:=J0 h hx
  obtain ⟨vs,hown,_⟩:=h.obs k _ hk
  rcases hown.2 with ⟨hg,h2⟩ | ⟨g,cap,cur,hg,_⟩
  ·omega
  ·rw [hg] at hu
   refine ⟨.pointer (some ⟨g,i.toNat*ec,none⟩),?_,g,xs.length,cap,hg,rfl⟩
   simp only [execOp,hu,G5 h hy]
   refine M6 ?_
   have hb:0≤i∧i < (xs.length:Int):=⟨h0,h1⟩
   simp [Instr.indexAt,run_underlying ht.out.1,asIntOf,hb,J8 ht.size,Addr.add_lit]
theorem x9 {t e:TypeId} {x yo:Operand} {k i o n:Nat} {α:Type} {ec:Nat} {c:α→Nat→Cell} {xs:List α} {v:α} (y:α) {s:S1} (hsz:(P.info? t).map (·.size)=some n) (hx:opv fr x=some (.s (.one (.mref k ec i o)))) (hk:C1 ob k=some (.grow e α ec c xs))
  (hv:xs[i]?=some v) (hy:opv fr yo=some (.s s)) (hcst:H8 yo=true) (hn:s.cells.length=n) (ho:Nat.ble (o+n) ec=true)
  (hnew:∀(rd:Rd) G (us:List Value),All2 (TC.rep rd G) s.cells us→All2 (Cell.rep rd) (cellsOf c y o n) us) (hold:∀j,j < ec→(j < o∨o+n≤j)→c y j=c v j) :
  Eff P ⟨none,.store t x yo,ty,pos,af,gd⟩ fr ob fr ((k,.grow e α ec c (xs.set i y))::ob):=by
 intro S G a w h
 obtain ⟨b,m,cap,hg,hu⟩:=J0 h hx
 obtain ⟨vs,hown,hlen,hc⟩:=h.obs k _ hk
 obtain ⟨hlt,hv'⟩:=List.getElem?_eq_some_iff.1 hv
 have hl:=hown.1
 rcases hown.2 with ⟨hg0,h2⟩ | ⟨b',cap',cur,hg',hB,hh,hcap,hmax,hcs,htake⟩
 ·omega
 rw [hg] at hg';cases hg'
 have hr:(SV.s s).rep (F0 (Mut S ob G) w) G (a.eval yo):=V1 h hy hcst
 have hcells:=K79 hr
 have hcl:(a.eval yo).cells.size=n:=by rw [←hn,hcells.length];simp
 have hle:o+n≤ec:=by simpa using ho
 have hi1:i*ec+ec≤xs.length*ec:=by
  have:(i+1)*ec≤xs.length*ec:=L13 _ hlt
  rw [L22,Nat.one_mul] at this;omega
 have hi2:xs.length*ec≤cur.size:=by rw [hcs];exact L13 _ hcap
 have hh':w.heap[b]?=some (.cells cur.toList.toArray e (0,0)):=by rw [Array.toArray_toList];exact hh
 obtain ⟨w',hrun,hos,htape,hout,hsize,hother,hheap⟩:=A37 (P:=P) (t:=t) (w:=w) (b:=b) (o:=i*ec+o) (v:=a.eval yo) (by rw [hsz,hcl]) hh' (C36 hcells) (by rw [hcl];simp;omega)
 unfold Does
 have he:(execOp a.eval ⟨none,.store t x yo,ty,pos,af,gd⟩).run P w=.ok .skip w':=by
  simp [execOp,hu,Instr.storeAt,Instr.sureAddr,hrun]
 rw [he]
 have hbk:blk (G k)=some b:=by rw [hg];rfl
 refine ⟨G,h.write hk hbk (fun i=>⟨hbk,trivial⟩) (fun i=>⟨hbk,trivial⟩) hos htape hout (Nat.le_of_eq hsize.symm) (fun j _=>hother j) ?_⟩
 intro rd hrd
 have hul:(a.eval yo).cells.toList.length=n:=by simpa using hcl
 have hl1:(cur.toList.take (i*ec+o)).length=i*ec+o:=by simp;omega
 have hl2:(cur.toList.take (i*ec+o)++(a.eval yo).cells.toList).length=i*ec+o+n:=by rw [L06,hl1,hul]
 have hl3:(cur.toList.take (i*ec+o)++(a.eval yo).cells.toList++cur.toList.drop (i*ec+o+(a.eval yo).cells.size)).length=cur.size:=by
  rw [L06,hl2,L12,hcl];simp;omega
 refine ⟨(cur.toList.take (i*ec+o)++(a.eval yo).cells.toList++cur.toList.drop (i*ec+o+(a.eval yo).cells.size)).take (xs.length*ec),⟨by simp only [L10,hl3,L26];omega,.inr ⟨b,cap,_,by rw [hg];simp,hB,hheap,by simpa using hcap,hmax,by simp only [List.size_toArray];rw [hl3,hcs],by simp⟩⟩,by simpa using hlen,?_⟩
 intro p hp j hj
 have hp':p < xs.length:=by simpa using hp
 have hpe:p*ec+j < xs.length*ec:=by
  have:(p+1)*ec≤xs.length*ec:=L13 _ hp'
  rw [L22,Nat.one_mul] at this;omega
 rw [L27 hpe]
 have hcur:vs[p*ec+j]?=cur[p*ec+j]?:=by rw [←htake,L27 hpe];simp
 have hout':(p*ec+j < i*ec+o∨i*ec+o+n≤p*ec+j)→(cur.toList.take (i*ec+o)++(a.eval yo).cells.toList++cur.toList.drop (i*ec+o+(a.eval yo).cells.size))[p*ec+j]?=vs[p*ec+j]?:=by
  intro hcase
  rw [hcur]
  rcases hcase with h1 | h1
  ·rw [L15,L19 (by rw [hl1];exact h1),L27 h1];simp
  ·rw [L17 (by rw [hl2];exact h1),hl2,L28,hcl]
   have:i*ec+o+n+(p*ec+j - (i*ec+o+n))=p*ec+j:=by omega
   rw [this];simp
 by_cases hpi:p=i
 ·subst hpi
  have hset:(xs.set p y)[p]'hp=y:=by simp
  rw [hset]
  by_cases hin:j < o∨o+n≤j
  ·rw [hout' (by omega),hold j hj hin]
   obtain ⟨z,hz1,hz2⟩:=hc p hp' j hj
   rw [hv'] at hz2
   exact ⟨z,hz1,Cell.rep_mono hrd _ _ hz2⟩
  ·have hnc:=hnew _ _ _ hcells
   have hget:(cellsOf c y o n)[j - o]?=some (c y j):=by
    have hlt':j - o < (cellsOf c y o n).length:=by rw [L6];omega
    rw [L01 hlt']
    have:=V3 c y n o (j - o) _ (L01 hlt')
    rw [this.1];congr 2;omega
   obtain ⟨z,hz1,hz2⟩:=hnc.get _ _ hget
   refine ⟨z,?_,Cell.rep_mono hrd _ _ hz2⟩
   rw [L19 (by rw [hl2];omega),L17 (by rw [hl1];omega),hl1]
   have:p*ec+j - (p*ec+o)=j - o:=by omega
   rw [this];exact hz1
 ·have hset:(xs.set i y)[p]'hp=xs[p]:=by rw [List.getElem_set_ne (Ne.symm hpi)]
  rw [hset,hout' (by
   rcases Nat.lt_or_gt_of_ne hpi with h1 | h1
   ·left
    have:(p+1)*ec≤i*ec:=L13 _ h1
    rw [L22,Nat.one_mul] at this;omega
   ·right
    have:(i+1)*ec≤p*ec:=L13 _ h1
    rw [L22,Nat.one_mul] at this;omega)]
  obtain ⟨z,hz1,hz2⟩:=hc p hp' j hj
  exact ⟨z,hz1,Cell.rep_mono hrd _ _ hz2⟩
theorem U3 {x y:Operand} {k:Nat} {α:Type} {ec bytes:Nat} {c:α→Nat→Cell} {xs ys:List α} {t e:TypeId} {s:SV} [ht:TySl P t e ec bytes] (hx:opv fr x=some (.s (.one (.mut k)))) (hk:C1 ob k=some (.grow e α ec c xs))
  (hy:opv fr y=some s) (hl:IsList s α ec c ys) (hlen:xs.length+ys.length≤1073741824) (hp:Nat.blt k 1000000=true) :
  EffV P ⟨dst,.call ⟨.builtin .append,#[x,y],#[t,t]⟩,ty,pos,af,gd⟩ fr ob (.s (.one (.mut k))) (Fr.forget k fr) ((k,.grow e α ec c (xs++ys))::Obs.forget k ob):=by
 intro S G a w h
 have hec:=ht.out.2.2.1
 obtain ⟨hux,_⟩:=J0 h hx
 have hry:=l8 h hy hl
 obtain ⟨ad,cap,vs,huy,hcap,hly,hvl,hone,hvs,hrd⟩:=o9 hry
 obtain ⟨ws,hown,_,hws⟩:=h.obs k _ hk
 obtain ⟨v',w',hrun,hown',hgrow,hblk',hleave⟩:=C65 (P:=P) (ty:=ty) S.B ht hown h.size (u:=a.eval y) (ad:=ad) (m:=ys.length) (c:=cap) (news:=vs) huy hcap.2 hcap.1 hvl
  (fun b o hb j z hz=>by
   rcases hrd with h0 | ⟨b',o',hb',hr⟩
   ·have hvs0:vs=[]:=List.eq_nil_of_length_eq_zero (by rw [hvl,h0];simp)
    rw [hvs0] at hz;simp at hz
   ·rw [hb] at hb';injection hb' with hb';injection hb' with e1 e2;subst e1;subst e2
    exact (hr j z hz).1)
  (hrd.imp id fun ⟨b',o',hb',_⟩=>⟨b',o',hb'⟩) hone hlen
 have hbv:(G k).ownBlock=blk (G k):=B43 (B05 hown)
 have hread:∀b i z,F0 (Mut S ob G) w b i z→w'.cell? ⟨b,i,none⟩=some z:=by
  intro b i z hr
  have hlt:b < w.heap.size:=World.block_lt_of_cell? w _ hr.1
  by_cases hb:blk (G k)=some b
  ·exact absurd (Or.inr ⟨k,_,hk,hb,trivial⟩) hr.2
  ·rw [World.cell?_of_block (w:=w) (a:=⟨b,i,none⟩) (hgrow.block b hlt (by rw [hbv];exact fun e=>hb e.symm))]
   exact hr.1
 have hsim:=h.turn (o':=.grow e α ec c (xs++ys)) (u':=v') (by simpa using hp) hk hgrow.os hgrow.tape hgrow.output hgrow.size (fun j hj hb=>hgrow.block j hj (by rw [hbv];exact fun e=>hb e.symm)) hread hblk'
  (by
   intro b i hb ho
   rcases hblk' b ho.1 with h1 | h1
   ·exact ⟨h1,trivial⟩
   ·omega)
  (fun rd hrd' G' hG'=>by
   refine ⟨_,by rw [L06];exact hown',by rw [L06];omega,?_⟩
   intro i hi j hj
   by_cases hlt:i < xs.length
   ·obtain ⟨z,hz1,hz2⟩:=hws i hlt j hj
    refine ⟨z,?_,?_⟩
    ·rw [L19 (List.getElem?_eq_some_iff.1 hz1).1];exact hz1
    ·rw [L52 hlt];exact Cell.rep_mono hrd' _ _ hz2
   ·have hi':i - xs.length < ys.length:=by simp at hi;omega
    obtain ⟨z,hz1,hz2⟩:=hvs (i - xs.length) hi' j hj
    refine ⟨z,?_,?_⟩
    ·have hge:xs.length*ec≤i*ec:=L13 _ (by omega)
     rw [L17 (by rw [hown.1];omega),hown.1]
     have:i*ec+j - xs.length*ec=(i - xs.length)*ec+j:=by rw [Nat.sub_mul];omega
     rw [this];exact hz1
    ·rw [L49 (by omega)];exact Cell.rep_mono hrd' _ _ hz2)
 exact J9 (w':=w') (v:=v') (by simp [execOp,resolve,invoke,builtin,hux,hrun]) ⟨upd G k v',hsim,(J2 _ _ _).symm,E13 hown'⟩
end
end Go.AL
namespace Go.AL
open Go Go.RowKit
set_option linter.unusedVariables false
section
variable {P:Program} {nt:Nat} {ops:Array Oper}
def tn (T j:Nat) (o:Oper):Bool:=Nat.beq j T||turns o.op
def StepT (P:Program) (nt:Nat) (ops:Array Oper) (T i:Nat) (φ:Fa) (ob:Obs) (K:Fa→Obs→Prop):Prop :=
 ∃o,ops[i]?=some o∧cond (tn T i o) (E83 P nt ops o φ ob K) (∃s d,o.dst=some d∧YieldsN P nt ops o φ ob s∧K (r8 φ d s) ob)
def E57 (P:Program) (nt:Nat) (ops:Array Oper) (T:Nat) (K:Fa→Obs→Prop):Nat→Array Bool→Fa→Obs→Prop
 | 0,listed,φ,ob=>Region.ready .any ops listed=[]∧K φ ob
 | fuel+1,listed,φ,ob=>(Region.ready .any ops listed=[]→K φ ob)∧∀i∈Region.ready .any ops listed,StepT P nt ops T i φ ob (E57 P nt ops T K fuel (listed.setIfInBounds i true))
theorem B50 {T:Nat} {K:Fa→Obs→Prop} {S:Ctx} {Q:Exit→Act→World→Prop} (hn:S.nt=nt) (hdst:∀(j t:Nat),(ops[j]?).bind (fun o=>o.dst)=some t→t < nt) (hK:∀φ ob G a w,K φ ob→SimF P S φ ob G a w→Q .normal a w) :
  ∀(fuel:Nat) (listed:Array Bool) (φ:Fa) (ob:Obs) (G:Gh) (a:Act) (w:World),E57 P nt ops T K fuel listed φ ob→SimF P S φ ob G a w→wpAny P .any ops Q fuel listed a w
 | 0,_,φ,ob,G,a,w,h,hs=>⟨h.1,hK φ ob G a w h.2 hs⟩
 | fuel+1,listed,φ,ob,G,a,w,h,hs=>by
  refine ⟨fun h0=>hK φ ob G a w (h.1 h0) hs,fun i hi=>?_⟩
  obtain ⟨o,ho,hstep⟩:=h.2 i hi
  unfold wpOp
  simp only [ho]
  cases ht:tn T i o with
  | true =>
   rw [ht] at hstep
   obtain ⟨hg,hstep⟩:=hstep
   rw [if_pos (by simp [Region.wanted,hg])]
   refine .inl (M9 (hstep S G a w hn hs) ?_)
   rintro v w' ⟨φ',ob',G',hK',hs'⟩
   exact B50 hn hdst hK fuel _ φ' ob' G' _ w' hK' hs'
  | false =>
   rw [ht] at hstep
   obtain ⟨s,d,hd,⟨d',hd',hlt,hy⟩,hK'⟩:=hstep
   rw [hd] at hd';cases hd'
   rcases hy with ⟨hw,fr0,hfr,hneu⟩ | ⟨hw,rfl⟩
   ·rw [x7 hn hs hw hdst,if_pos rfl]
    refine .inl (M9 (hneu S G a w (hs.sub fun i s hi=>(hfr i s hi).1)) ?_)
    rintro v w' ⟨hx,s',rfl,hv⟩
    rw [hd]
    exact B50 hn hdst hK fuel _ _ ob G _ w' hK' ((hs.ext hx).put (by rw [hn];exact hlt) hv)
   ·rw [x7 hn hs hw hdst,if_neg (by simp),hd]
    exact B50 hn hdst hK fuel _ _ ob G _ w hK' (hs.put (by rw [hn];exact hlt) rfl)
theorem X6 {listed:Array Bool} {i:Nat} (hr:i∈Region.ready .any ops listed):listed.getD i false=false:=by
 have h0:=(mem_ready.1 hr).1
 simp only [Array.getD_eq_getD_getElem?] at h0 ⊢
 rcases Nat.lt_or_ge i listed.size with h' | h'
 ·rw [Array.getElem?_eq_getElem h'] at h0 ⊢;simpa using h0
 ·rw [Array.getElem?_eq_none h'] at h0;simp at h0
theorem G64 {T:Nat} {K:Fa→Obs→Prop}:∀(fuel:Nat) (listed:Array Bool) (φ:Fa) (ob:Obs),listed.getD T false=true→E56 P nt ops K fuel listed φ ob→E57 P nt ops T K fuel listed φ ob
 | 0,_,_,_,_,h=>h
 | fuel+1,listed,φ,ob,hT,h=>by
  refine ⟨h.1,fun i hi=>?_⟩
  obtain ⟨o,ho,hstep⟩:=h.2 i hi
  have hiT:i≠T:=fun e=>by subst e;have:=X6 hi;rw [hT] at this;cases this
  have hnext:(listed.setIfInBounds i true).getD T false=true:=by
   simp only [Array.getD_eq_getD_getElem?] at hT ⊢
   rwa [Array.getElem?_setIfInBounds_ne hiT]
  refine ⟨o,ho,?_⟩
  have ht:tn T i o=turns o.op:=by unfold tn;rw [W6 hiT];rfl
  rw [ht]
  cases htn:turns o.op with
  | true =>
   rw [htn] at hstep
   refine ⟨hstep.1,fun S G a w hn hs=>?_⟩
   have hd:=hstep.2 S G a w hn hs
   unfold Does at hd ⊢
   have imp:∀v w',(∃φ' ob' G',E56 P nt ops K fuel (listed.setIfInBounds i true) φ' ob'∧SimF P S φ' ob' G' (a.put o.dst v) w')→(∃φ' ob' G',E57 P nt ops T K fuel (listed.setIfInBounds i true) φ' ob'∧SimF P S φ' ob' G' (a.put o.dst v) w'):=by
    rintro v w' ⟨φ',ob',G',hA,hs'⟩
    exact ⟨_,ob',G',G64 fuel _ _ _ hnext hA,hs'⟩
   generalize (execOp a.eval o).run P w=r at *
   cases r with
   | ok n w' =>
    cases n<;>simp only at hd ⊢<;>try exact hd.elim
    case value v=>exact imp _ _ hd
    case skip=>exact imp _ _ hd
    case enter f args=>exact hd.mono fun e w'' ⟨v,he,hv⟩=>⟨v,he,imp _ _ hv⟩
   | halt x w'=>exact hd
  | false =>
   rw [htn] at hstep
   obtain ⟨s,d,hd,hy,HK⟩:=hstep
   exact ⟨s,d,hd,hy,G64 fuel _ _ _ hnext HK⟩
theorem I45 {T:Nat} {K:Fa→Obs→Prop} {i d:Nat} {oi:Oper} {s:SV} (hi:ops[i]?=some oi) (hti:tn T i oi=false) (hdi:oi.dst=some d) :
  ∀(fuel:Nat) (listed:Array Bool) (φ:Fa) (ob:Obs),Closed ops listed →
   (∀j oj,ops[j]?=some oj→j≠i→listed.getD j true=false→tn T j oj=true→Bef ops j i=true) →
   (∀j oj,ops[j]?=some oj→j≠i→listed.getD j true=false→tn T j oj=false→(∃e∈oj.after.toList,Region.binds .any e=true∧e.on=i)∨r9 ops oi oj=true) →
   i∈Region.ready .any ops listed→YieldsN P nt ops oi φ ob s →
   E57 P nt ops T K fuel (listed.setIfInBounds i true) (r8 φ d s) ob→E57 P nt ops T K (fuel+1) listed φ ob:=by
 have hself:∀(fuel:Nat) (listed:Array Bool) (φ:Fa) (ob:Obs),YieldsN P nt ops oi φ ob s→E57 P nt ops T K fuel (listed.setIfInBounds i true) (r8 φ d s) ob→StepT P nt ops T i φ ob (E57 P nt ops T K fuel (listed.setIfInBounds i true)):=by
  intro fuel listed φ ob hy H
  exact ⟨oi,hi,by rw [hti];exact ⟨s,d,hdi,hy,H⟩⟩
 intro fuel
 induction fuel with
 | zero =>
  intro listed φ ob hc hE hN hr hy H
  refine ⟨fun h=>(by rw [h] at hr;cases hr),fun j hj=>?_⟩
  by_cases hji:j=i
  ·subst hji;exact hself 0 listed φ ob hy H
  ·have:=ready_mono hj hji
   rw [H.1] at this
   cases this
 | succ fuel ih =>
  intro listed φ ob hc hE hN hr hy H
  refine ⟨fun h=>(by rw [h] at hr;cases hr),fun j hj=>?_⟩
  by_cases hji:j=i
  ·subst hji;exact hself (fuel+1) listed φ ob hy H
  ·obtain ⟨hjun,oj,hoj,hall⟩:=mem_ready.1 hj
   have hiun:=X6 hr
   cases htj:tn T j oj with
   | true =>
    have hb:=hE j oj hoj hji hjun htj
    have:=A49 hc j hb (fun o ho e he hbd=>by rw [hoj] at ho;cases ho;exact hall e (Array.mem_toList_iff.1 he) hbd)
    rw [hiun] at this;cases this
   | false =>
    have hap:r9 ops oi oj=true:=by
     rcases hN j oj hoj hji hjun htj with ⟨e,he,hbd,hon⟩ | h
     ·have:=hall e (Array.mem_toList_iff.1 he) hbd
      rw [hon] at this
      have h2:listed.getD i false=true:=this
      rw [hiun] at h2;cases h2
     ·exact h
    obtain ⟨o',ho',hstep⟩:=H.2 j (ready_mono hj hji)
    rw [hoj] at ho';cases ho'
    rw [htj] at hstep
    obtain ⟨sj,dj,hdj,hyj,HK⟩:=hstep
    simp only [r9,hdi,hdj,L02,Bool.not_eq_true',List.contains_eq_mem,decide_eq_false_iff_not] at hap
    obtain ⟨⟨h1,h2⟩,h3⟩:=hap
    have h3:d≠dj:=fun e=>by subst e;simp at h3
    refine ⟨oj,hoj,by
     rw [htj]
     refine ⟨sj,dj,hdj,hyj.unput h1,?_⟩
     refine ih (listed.setIfInBounds j true) _ ob (W7 hc hj) ?_ ?_ (ready_mono hr (Ne.symm hji)) (hy.put h2) ?_
     ·intro k ok hk hki hun htk
      refine hE k ok hk hki ?_ htk
      by_cases hjk:j=k
      ·subst hjk;exact hjun
      ·rwa [getD_set_ne true hjk] at hun
     ·intro k ok hk hki hun htk
      refine hN k ok hk hki ?_ htk
      by_cases hjk:j=k
      ·subst hjk;exact hjun
      ·rwa [getD_set_ne true hjk] at hun
     ·rw [Array.setIfInBounds_comm _ _ hji,←D78 h3]
      exact HK⟩
def E14:Nat→Nat→Array Bool→Array Bool
 | 0,_,listed=>listed
 | n+1,k,listed=>E14 n (k+1) (listed.setIfInBounds k true)
def D81 (ops:Array Oper) (T:Nat):Nat→Nat→Array Bool→Bool
 | 0,_,_=>true
 | fuel+1,k,listed =>
  (match ops[k]? with
   | some o=>(Region.ready .any ops listed).contains k&&!(tn T k o) &&
    ((List.range ops.size).all fun j=>Nat.beq j k||listed.getD j true||match ops[j]? with
     | some oj=>cond (tn T j oj) (Bef ops j k) (oj.after.toList.any (fun e=>Region.binds .any e&&Nat.beq e.on k)||r9 ops o oj)
     | none=>true)
   | none=>false)&&D81 ops T fuel (k+1) (listed.setIfInBounds k true)
theorem H41 {T fuel:Nat} {K:Fa→Obs→Prop} {E:Fr→Obs→Prop}:∀(l:List Oper) (k:Nat) (listed:Array Bool) (fr:Fr) (ob:Obs),(∀j,j < l.length→l[j]?=ops[k+j]?)→Closed ops listed→D81 ops T l.length k listed=true →
  (∀fr ob,Closed ops (E14 l.length k listed)→E fr ob→E57 P nt ops T K fuel (E14 l.length k listed) (E5 fr) ob)→LexD P nt ops E l fr ob→E57 P nt ops T K (fuel+l.length) listed (E5 fr) ob
 | [],k,listed,fr,ob,hl,hc,hB,hE,h=>hE fr ob hc h
 | o::l,k,listed,fr,ob,hl,hc,hB,hE,h=>by
  have h0:ops[k]?=some o:=by simpa using (hl 0 (by simp)).symm
  simp only [L04,D81,h0,L02,Bool.not_eq_true'] at hB
  obtain ⟨⟨⟨hr,hnt⟩,hf⟩,hB'⟩:=hB
  have hr':k∈Region.ready .any ops listed:=by simpa using hr
  have hl':∀j,j < l.length→l[j]?=ops[k+1+j]?:=fun j hj=>by have:=hl (j+1) (by simpa using hj);simpa [Nat.add_assoc,Nat.add_comm 1 j] using this
  have ht:turns o.op=false:=by
   cases hto:turns o.op
   ·rfl
   ·simp [tn,hto] at hnt
  simp only [LexD] at h
  rw [ht] at h
  simp only [cond] at h
  obtain ⟨s,d,hd,hy,hL⟩:=h
  have hall:∀j oj,ops[j]?=some oj→j≠k→listed.getD j true=false→cond (tn T j oj) (Bef ops j k) (oj.after.toList.any (fun e=>Region.binds .any e&&Nat.beq e.on k)||r9 ops o oj)=true:=by
   intro j oj hoj hjk hun
   have hlt:j < ops.size:=(Array.getElem?_eq_some_iff.1 hoj).1
   have:=List.all_eq_true.1 hf j (List.mem_range.2 hlt)
   rw [W6 hjk,hun,hoj] at this
   simp only [Bool.false_or] at this
   exact this
  show E57 P nt ops T K (fuel+(l.length+1)) listed (E5 fr) ob
  rw [←Nat.add_assoc]
  refine I45 h0 hnt hd (fuel+l.length) listed _ ob hc ?_ ?_ hr' hy ?_
  ·intro j oj hoj hjk hun htj
   have:=hall j oj hoj hjk hun
   rw [htj] at this;exact this
  ·intro j oj hoj hjk hun htj
   have:=hall j oj hoj hjk hun
   rw [htj] at this
   simp only [cond,L20,List.any_eq_true,L02] at this
   rcases this with ⟨e,he,hb,hon⟩ | h
   ·exact .inl ⟨e,he,hb,Nat.eq_of_beq_eq_true hon⟩
   ·exact .inr h
  ·rw [←A50]
   exact H41 l (k+1) _ _ ob hl' (W7 hc hr') hB' hE hL
theorem E87 {o:Oper} {a:Act} {w:World} {R R':Value→World→Prop} (h:Does P o a w R) (hi:∀v w',R v w'→R' v w'):Does P o a w R':=by
 unfold Does at h ⊢
 generalize (execOp a.eval o).run P w=r at *
 cases r with
 | ok n w' =>
  cases n<;>simp only at h ⊢<;>try exact h.elim
  case value v=>exact hi _ _ h
  case skip=>exact hi _ _ h
  case enter f args=>exact h.mono fun e w'' ⟨v,he,hv⟩=>⟨v,he,hi _ _ hv⟩
 | halt x w'=>exact h
theorem H42 {f:FuncId} {xs:List Operand} {ats:Array TypeId} {ty:TypeId} {pos:String} {af:Array Edge} {args:List S1} {ks:List Nat} {post:List S1→Obs→Prop} {fr:Fr} {ob:Obs} {d:Nat} {K:Fa→Obs→Prop}
  (hf:Met P f args (shF fr) ob ks post) (ha:p6 fr xs=some args) (hc:xs.all H8=true) (hd:Nat.blt d nt=true)
  (kk:∀rs ob',post rs ob'→K (E5 ((d,B98 rs)::C0 ks fr)) ob'):E83 P nt ops ⟨some d,.call ⟨.value (.func f),xs.toArray,ats⟩,ty,pos,af,none⟩ (E5 fr) ob K:=by
 refine ⟨rfl,fun S G a w hn h0=>?_⟩
 have h:=simF_iff.1 h0
 have hvals:=Z8 h xs args ha hc
 obtain ⟨gv,hgv⟩:∃gv:Nat→Value,gv=fun i=>S.sl a (i - 1000000):=⟨_,rfl⟩
 let S':Ctx:={ S with gv:=gv }
 have hhigh:High (shF fr):=fun i s hi=>(U2 fr i s hi).1
 have hfacts0:∀i s,E5 (shF fr) i=some s→s.rep (F0 (Mut S' ob G) w) G (S'.sl a i):=by
  intro i s hi
  obtain ⟨h7,h8⟩:=U2 fr i s hi
  rw [Ctx.sl_ge h7]
  show s.rep _ _ (gv i)
  have e:=congrFun hgv i
  rw [e]
  exact h.facts (i - 1000000) s h8
 have hs:Sim P S' (shF fr) ob G a w:={ h with facts:=hfacts0 }
 have hcalls:=hf.2 hhigh S' G a w _ hs hvals
 refine E87 (R:=fun v w'=>∃rs ob' G',post rs ob'∧A01 (F0 (Mut S' ob' G') w') G' rs v∧Sim P S' (C0 ks (shF fr)) ob' G' a w') ?_ ?_
 ·have he:(execOp a.eval ⟨some d,.call ⟨.value (.func f),xs.toArray,ats⟩,ty,pos,af,none⟩).run P w=.ok (.enter f (xs.map a.eval).toArray) w:=by
   have:=M4 (P:=P) (f:=f) (args:=(xs.map a.eval).toArray) (w:=w) hf.1
   have hm:xs.toArray.map a.eval=(xs.map a.eval).toArray:=by simp
   simp only [execOp,resolve,Act.eval,Deferred.ofValue,Sem.run_bind,Sem.run_pure,Result.andThen_ok,invoke]
   rw [show (#[]:Array Value)++Array.map a.eval xs.toArray++#[]=(xs.map a.eval).toArray by rw [←hm];simp]
   exact this
  unfold Does
  rw [he]
  refine hcalls.mono ?_
  rintro e w' ⟨v,rs,ob',G',rfl,hpost,hres,hs'⟩
  exact ⟨v,rfl,rs,ob',G',hpost,hres,hs'⟩
 ·rintro v w' ⟨rs,ob',G',hp,hres,hs'⟩
  have hlt:d < S.nt:=by rw [hn];simpa using hd
  have hfacts:∀i s,E5 (C0 ks fr) i=some s→s.rep (F0 (Mut S ob' G') w') G' (S.sl a i):=by
   intro i s hi
   have h7:=hs'.facts (i+1000000) s (by rw [Y3];exact B49 hi)
   have h8:1000000≤i+1000000:=Nat.le_add_left _ _
   rw [Ctx.sl_ge h8] at h7
   have h7:s.rep (F0 (Mut S ob' G') w') G' (gv (i+1000000)):=h7
   have e:=congrFun hgv (i+1000000)
   simp only [Nat.add_sub_cancel] at e
   rw [e] at h7
   exact h7
  have hsim:Sim P S (C0 ks fr) ob' G' a w':={ hs' with facts:=hfacts }
  exact ⟨_,ob',G',kk rs ob' hp,simF_iff.2 (hsim.put hlt hres)⟩
end
end Go.AL
namespace Go.AL
open Go Go.RowKit
set_option linter.unusedVariables false
theorem TC.forget_idem (k:Nat) (t:TC):(t.forget k).forget k=t.forget k:=by
 cases t with
 | p c=>rfl
 | buf k' α ec c xs=>cases hb:Nat.beq k' k<;>simp [TC.forget,hb]
 | ref k' o=>cases hb:Nat.beq k' k<;>simp [TC.forget,hb]
 | eref α ec c x o=>rfl
 | «mut» k'=>cases hb:Nat.beq k' k<;>simp [TC.forget,hb]
 | mref k' ec i o=>cases hb:Nat.beq k' k<;>simp [TC.forget,hb]
 | any=>rfl
 | clo f nf nc=>cases hb:(A74 k nf||A74 k nc)<;>simp only [TC.forget,hb,cond]
 | full α ec c xs=>rfl
 | msl k' ec o n=>cases hb:Nat.beq k' k<;>simp [TC.forget,hb]
 | ifc t k' o=>cases hb:Nat.beq k' k<;>simp [TC.forget,hb]
 | fnc f cs=>rfl
 | fncE f α ec c x=>rfl
theorem S1.forget_idem (k:Nat) (s:S1):(s.forget k).forget k=s.forget k:=by
 cases s<;>simp [S1.forget,TC.forget_idem]
theorem SV.forget_idem (k:Nat) (s:SV):(s.forget k).forget k=s.forget k:=by
 cases s<;>simp [SV.forget,S1.forget_idem]
theorem Ob.forget_idem (k:Nat) (o:Ob):(o.forget k).forget k=o.forget k:=by
 cases o<;>simp [Ob.forget,TC.forget_idem]
theorem Fr.forget_idem (k:Nat) (fr:Fr):Fr.forget k (Fr.forget k fr)=Fr.forget k fr:=by
 simp [Fr.forget,Function.comp_def,SV.forget_idem]
theorem Obs.forget_idem (k:Nat) (ob:Obs):Obs.forget k (Obs.forget k ob)=Obs.forget k ob:=by
 simp [Obs.forget,Function.comp_def,Ob.forget_idem]
theorem s8 {rd:Rd} {G:Gh}:∀{cs:List Cell} {us:List Value},All2 (TC.rep rd G) (cs.map .p) us→All2 (Cell.rep rd) cs us
 | [],[],_=>trivial
 | [],_::_,h=>h.elim
 | _::_,[],h=>h.elim
 | _::_,_::_,h=>⟨h.1,s8 h.2⟩
section
variable {P:Program} {nt:Nat} {ops:Array Oper} {rest:List Oper} {fr gf:Fr} {ob:Obs} {Q:Post} {d:Nat}
theorem A82 {k:Nat} (h:High gf):High (Fr.forget k gf):=fun i s hi=>by
 rw [N7] at hi
 cases hg:E5 gf i with
 | none=>rw [hg] at hi;cases hi
 | some s0=>exact h i s0 hg
theorem Sees.forget (k:Nat):Sees P nt fr ob (Fr.forget k fr) (Obs.forget k ob):=by
 intro S G a w hn h
 have hget:∀k' o1,C1 (Obs.forget k ob) k'=some o1→∃o0,C1 ob k'=some o0∧o1=o0.forget k:=by
  intro k' o1 hk'
  rw [K6] at hk'
  cases hg:C1 ob k' with
  | none=>rw [hg] at hk';cases hk'
  | some o0=>rw [hg] at hk';cases hk';exact ⟨o0,rfl,rfl⟩
 have hrd:∀b i z,F0 (Mut S ob G) w b i z→F0 (Mut S (Obs.forget k ob) G) w b i z:=by
  intro b i z hr
  refine ⟨hr.1,fun hm=>hr.2 ?_⟩
  rcases hm with hm | ⟨k',o1,hk',hb⟩
  ·exact .inl hm
  ·obtain ⟨o0,h0,rfl⟩:=hget k' o1 hk'
   exact .inr ⟨k',o0,h0,Own_forget.1 hb⟩
 refine ⟨G,{ h with old:=?_,dis:=?_,obs:=?_,facts:=?_ }⟩
 ·intro k' o1 b hk' hb
  obtain ⟨o0,h0,_⟩:=hget k' o1 hk'
  exact h.old k' o0 b h0 hb
 ·intro k1 k2 o1 o2 b h1 h2 hb1 hb2
  obtain ⟨oa,ha,_⟩:=hget k1 o1 h1
  obtain ⟨ob',hb',_⟩:=hget k2 o2 h2
  exact h.dis k1 k2 oa ob' b ha hb' hb1 hb2
 ·intro k' o1 hk'
  obtain ⟨o0,h0,rfl⟩:=hget k' o1 hk'
  exact ((h.obs k' o0 h0).ext hrd (Below.refl _ _)).forget (fun _ _=>rfl)
 ·intro i s hi
  rw [N7] at hi
  cases hg:E5 fr i with
  | none=>rw [hg] at hi;cases hi
  | some s0 =>
   rw [hg] at hi;cases hi
   exact SV.rep_forget (fun _ _=>rfl) (SV.rep_mono hrd (h.facts i s0 hg))
theorem Met.introH {f:FuncId} {fn:Func} {c:Code} {args:List S1} {ks:List Nat} {post:List S1→Obs→Prop} (hf:P.funcs[f]?=some fn) (hname:(fn.name == "runtime.NumGoroutine")=false) (hb:fn.body=some c) (hlen:Nat.ble args.length fn.ntmps=true) (hnb:Nat.ble fn.ntmps 1000000=true)
  (h6:High gf→WpC P fn.ntmps c (x8 0 args++gf) ob (metP P fn ks gf post)):Met P f args gf ob ks post :=
 ⟨⟨fn,hf,hname,by simp [hb]⟩,fun hgf=>(Met.intro hf hname hb hlen hnb (h6 hgf)).2 hgf⟩
theorem K76 {l:Fr} {gf':Fr} {ob':Obs} (hl:FrLe fr l) (hH:High gf') (ht:Tail gf' fr) (ho:∀k o,C1 ob' k=some o→C1 ob k=some o):Sees P nt fr ob (l++gf') ob':=by
 intro S G a w hn h
 have hfacts:∀i s,E5 (l++gf') i=some s→s.rep (F0 (Mut S ob G) w) G (S.sl a i):=by
  intro i s hi
  rw [Y2] at hi
  cases hg:E5 l i with
  | some s0 =>
   rw [hg] at hi
   have hi:some s0=some s:=hi
   cases hi
   obtain ⟨s1,h1,h2⟩:=hl.spec i _ hg
   exact h2.rep (h.facts i s1 h1)
  | none =>
   rw [hg] at hi
   have hi:E5 gf' i=some s:=hi
   exact h.facts i s (ht i s (hH i s hi) hi)
 have hw:Sim P S (l++gf') ob G a w:={ h with facts:=hfacts }
 exact ⟨G,hw.weakenO ho⟩
end
end Go.AL
namespace Go.AL
open Go Go.RowKit
set_option linter.unusedVariables false
section
variable {P:Program} {nt:Nat} {ops:Array Oper}
def G65 (nt:Nat) (l:List Oper) (n:Nat):Bool :=
 let ops:=l.toArray
 let L:=E14 n 0 (Array.replicate l.length false)
 D81 ops n n 0 (Array.replicate l.length false)&&dstsIn nt ops&&Nat.ble (n+1) l.length&&Nat.beq (l.take n).length n &&
  ((Region.ready .any ops L).all fun j=>Nat.beq j n)&&(Region.ready .any ops L).contains n&&(L.setIfInBounds n true).getD n false&&G08 ops (l.drop (n+1)).length (n+1) (L.setIfInBounds n true)
theorem F76 {id:Nat} {l:List Oper} (n:Nat) {oc:Oper} {fr:Fr} {ob:Obs} {Q:Post} (hm:P.follows .mixedOrders=true) (hB:G65 nt l n=true) (hc:l[n]?=some oc)
  (h:LexD P nt l.toArray (fun fr ob=>E83 P nt l.toArray oc (E5 fr) ob (fun φ' ob'=>∃fr',φ'=E5 fr'∧LexD P nt l.toArray (fun fr ob=>Q .normal fr ob) (l.drop (n+1)) fr' ob')) (l.take n) fr ob):WpC P nt (.region id l.toArray true) fr ob Q:=by
 intro S G a w hn hs
 unfold G65 at hB
 simp only [L02] at hB
 obtain ⟨⟨⟨⟨⟨⟨⟨b1,b2⟩,b3⟩,b4⟩,b5⟩,b6⟩,b13⟩,b14⟩:=hB
 have hlen:n+1≤l.length:=Nat.le_of_ble_eq_true b3
 have htl:(l.take n).length=n:=Nat.eq_of_beq_eq_true b4
 have hdst:∀(j t:Nat),(l.toArray[j]?).bind (fun o=>o.dst)=some t→t < nt:=by
  intro j t ht
  cases ho:l.toArray[j]? with
  | none=>simp [ho] at ht
  | some o =>
   simp [ho] at ht
   have hmem:o∈l:=by
    rw [List.getElem?_toArray] at ho
    exact L14 ho
   have:=List.all_eq_true.1 b2 o (by simpa using hmem)
   rw [ht] at this
   simpa using this
 refine wp_region_any hm ?_
 have hcl:Closed l.toArray (Array.replicate l.length false):=by
  intro j o ho hl
  simp only [Array.getD_eq_getD_getElem?] at hl
  rcases Nat.lt_or_ge j l.length with h' | h'
  ·simp [h'] at hl
  ·simp [h'] at hl
 have hoc:l.toArray[n]?=some oc:=by rw [List.getElem?_toArray];exact hc
 have htnc:tn n n oc=true:=by unfold tn;rw [Nat.beq_refl];rfl
 have key:E57 P nt l.toArray n (fun φ ob=>∃fr',φ=E5 fr'∧Q .normal fr' ob) ((l.drop (n+1)).length+1+(l.take n).length) (Array.replicate l.length false) (E5 fr) ob:=by
  refine H41 (l.take n) 0 _ fr ob (fun j hj=>?_) hcl (by rw [htl];exact b1) (fun fr ob hcl2 hE=>?_) h
  ·rw [Nat.zero_add,List.getElem?_toArray,L27 (by rw [htl] at hj;exact hj)]
  ·rw [htl] at hcl2 ⊢
   have r6:n∈Region.ready .any l.toArray (E14 n 0 (Array.replicate l.length false)):=by simpa using b6
   have hcl3:=W7 hcl2 r6
   refine ⟨fun he=>(by rw [he] at r6;cases r6),fun j hjr=>?_⟩
   have hjn:j=n:=Nat.eq_of_beq_eq_true (List.all_eq_true.1 b5 j hjr)
   subst hjn
   refine ⟨oc,hoc,?_⟩
   rw [htnc]
   refine ⟨hE.1,fun S G a w hn hs=>E87 (hE.2 S G a w hn hs) ?_⟩
   rintro v w' ⟨φ',ob',G',⟨fr',rfl,hL⟩,hs'⟩
   exact ⟨_,ob',G',G64 _ _ _ _ b13 (B96 (l.drop (j+1)) (j+1) _ fr' ob' (fun i=>by rw [L28,List.getElem?_toArray]) hcl3 b14 hL),hs'⟩
 have hx:Below w.heap.size w { w with drawn:=w.drawn+1 }:=⟨rfl,rfl,rfl,Nat.le_refl _,fun _ _=>rfl⟩
 have hs':SimF P S (E5 fr) ob G a { w with drawn:=w.drawn+1 }:=(simF_iff.2 hs).ext hx
 have:=B50 (Q:=PostOf P S Q) hn hdst (fun φ ob' G' a' w' ⟨fr',he,hq⟩ hsf=>⟨fr',ob',G',hq,.inl (simF_iff.1 (he ▸ hsf))⟩) _ _ _ ob G a _ key hs'
 have hfuel:(l.drop (n+1)).length+1+(l.take n).length=l.length:=by rw [L12,htl];omega
 rw [hfuel] at this
 simpa using this
end
end Go.AL
namespace Go.AL
open Go Go.RowKit
set_option linter.unusedVariables false
section
variable {P:Program} {nt:Nat} {fr gf:Fr} {ob:Obs}
theorem P9 (k:Nat) (h:Tail (Fr.forget k gf) fr):Tail (Fr.forget k gf) (Fr.forget k fr):=by
 have:=D4 k h
 rwa [Fr.forget_idem] at this
end
end Go.AL
namespace Go.AL
open Go Go.RowKit
set_option linter.unusedVariables false
def J28 (k:Nat) (φ:Fa):Prop:=∀i s,φ i=some s→s.free k=true
section
variable {P:Program} {nt:Nat} {ops:Array Oper}
def AnyB (P:Program) (nt:Nat) (ops:Array Oper) (T al k:Nat) (r:SV) (bx:Nat × Ob) (ob:Obs) (E:Array Bool→Fa→Prop):Nat→Array Bool→Fa→Prop
 | 0,listed,φ=>J28 k φ∧(∀j∈Region.ready .any ops listed,j=T)∧E listed φ
 | fuel+1,listed,φ=>J28 k φ∧(∃p,p < T∧p∈Region.ready .any ops listed)∧∀i∈Region.ready .any ops listed,i≠T →
   ∃o s d,ops[i]?=some o∧o.dst=some d∧turns o.op=false∧al≠d∧YieldsN P nt ops o φ ob s∧YieldsN P nt ops o (r8 φ al r) (bx::ob) s∧AnyB P nt ops T al k r bx ob E fuel (listed.setIfInBounds i true) (r8 φ d s)
theorem AnyB.free {T al k:Nat} {r:SV} {bx:Nat × Ob} {ob:Obs} {E:Array Bool→Fa→Prop} {fuel:Nat} {listed:Array Bool} {φ:Fa} (h:AnyB P nt ops T al k r bx ob E fuel listed φ):J28 k φ:=by
 cases fuel<;>exact h.1
def LexB (P:Program) (nt:Nat) (ops:Array Oper) (al k:Nat) (r:SV) (bx:Nat × Ob) (ob:Obs) (E:Fr→Prop):List Oper→Fr→Prop
 | [],fr=>K4 k fr=true∧E fr
 | o::l,fr=>∃s d,o.dst=some d∧YieldsN P nt ops o (E5 fr) ob s∧YieldsN P nt ops o (E5 ((al,r)::fr)) (bx::ob) s∧LexB P nt ops al k r bx ob E l ((d,s)::fr)
theorem LexB.free {al k:Nat} {r:SV} {bx:Nat × Ob} {ob:Obs} {E:Fr→Prop}:∀{l:List Oper} {fr:Fr},LexB P nt ops al k r bx ob E l fr→K4 k fr=true
 | [],fr,h=>h.1
 | o::l,fr,⟨s,d,_,_,_,h⟩=>by
  have:=h.free
  simp only [K4,L02] at this
  exact this.2
end
end Go.AL
namespace Go.AL
open Go Go.RowKit
set_option linter.unusedVariables false
section
variable {P:Program} {nt:Nat} {ops:Array Oper}
end
end Go.AL
namespace Go.AL
open Go Go.RowKit
set_option linter.unusedVariables false
section
variable {P:Program} {nt:Nat} {fr:Fr} {ob:Obs}
theorem K82 (α:Type) (ec:Nat) (c:α→Nat→Cell) (t o:Nat) {ts:List TC} (ht:E5 fr t=some (.s (.agg ts))) (hts:ts[o]?=some (.p (.v (.slice none 0 0)))):Sees P nt fr ob ((t,.s (.agg (ts.set o (.p (.list α ec c [])))))::fr) ob:=by
 intro S G a w hn h
 refine ⟨G,{ h with facts:=fun i s hi=>?_ }⟩
 by_cases hti:t=i
 ·subst hti
  rw [E0] at hi;cases hi
  have h1:=h.facts t _ ht
  obtain ⟨vs,hu,ha⟩:=h1
  refine ⟨vs,hu,K86 o (fun z hz=>?_) ha⟩
  obtain ⟨z',hz1,hz2⟩:=ha.get o _ hts
  rw [hz] at hz1;cases hz1
  rw [hz2.1]
  exact I4 α ec c
 ·rw [C8 hti] at hi
  exact h.facts i s hi
end
end Go.AL
namespace Go.AL
open Go Go.RowKit
section
variable {P:Program} {nt:Nat} {fr:Fr} {ob:Obs} {Q:Post} {next:Fr→Obs→Prop} {id id':Nat}
theorem k1 (h:next fr ob):B79 next Q .normal fr ob:=h
theorem k2 {x y:Code} (h:WpC P nt x fr ob (B79 (fun fr ob=>WpC P nt y fr ob Q) Q)):WpC P nt (.seq x y) fr ob Q:=c_seq h
theorem k3 {c:Code} (h:WpC P nt c fr ob (d5 id Q)):WpC P nt (.block id c) fr ob Q:=c_block h
theorem k4 (h:Q .normal fr ob):d5 id Q .normal fr ob:=h
theorem k5 (h:Q .normal fr ob):WpC P nt .skip fr ob Q:=c_skip h
theorem k6 (h:Q (.exit id) fr ob):WpC P nt (.exit id) fr ob Q:=c_exit h
theorem k7 (h:Q (.exit id) fr ob):B79 next Q (.exit id) fr ob:=h
theorem k8 (hb:Nat.beq id' id=true) (h:Q .normal fr ob):d5 id Q (.exit id') fr ob:=K29 hb h
theorem k9 (hb:Nat.beq id' id=false) (h:Q (.exit id') fr ob):d5 id Q (.exit id') fr ob:=J69 hb h
theorem k10 (h:Q .ret fr ob):WpC P nt .ret fr ob Q:=c_ret h
theorem k11 (h:Q .ret fr ob):B79 next Q .ret fr ob:=h
theorem k12 (h:Q .ret fr ob):d5 id Q .ret fr ob:=h
theorem le1 {fr:Fr} {i:Nat} {s:SV} (h:E5 fr i=some s):∃s0,E5 fr i=some s0∧SvLe s0 s:=⟨_,h,.same _⟩
theorem leE {fr:Fr} {i:Nat} {s s':SV} (h:E5 fr i=some s) (e:s=s'):∃s0,E5 fr i=some s0∧SvLe s0 s':=⟨_,h,.eq e⟩
end
end Go.AL
namespace Go.AL
attribute [irreducible] FnIo Met RetS
section
theorem A4 {P:Program} {nt:Nat} {ops:Array Oper} {rest:List Oper} {fr:Fr} {ob:Obs} {Q:Post} {d:Nat} {ty:TypeId} {pos:String} {af:Array Edge} {x:Operand} {s:SV} (hx:opv fr x=some s) (h:(H8 x&&Nat.blt d nt)=true) (k:WpL P nt ops rest ((d,s)::fr) ob Q):WpL P nt ops (⟨some d,.move x,ty,pos,af,none⟩::rest) fr ob Q:=A6 (C2 hx ((L02 _ _).mp h).1) ((L02 _ _).mp h).2 k
theorem A7 {P:Program} {nt:Nat} {ops:Array Oper} {rest:List Oper} {fr:Fr} {ob:Obs} {Q:Post} {d:Nat} {ty:TypeId} {pos:String} {af:Array Edge} {x:Operand} {s:SV} (hx:opv fr x=some s) (h:(H8 x&&Nat.blt d nt)=true) (k:WpL P nt ops rest ((d,s)::fr) ob Q):WpL P nt ops (⟨some d,.assign x,ty,pos,af,none⟩::rest) fr ob Q:=A6 (H5 hx ((L02 _ _).mp h).1) ((L02 _ _).mp h).2 k
theorem E8 {P:Program} {nt:Nat} {ops:Array Oper} {rest:List Oper} {fr:Fr} {ob:Obs} {Q:Post} {d:Nat} {ty:TypeId} {pos:String} {af:Array Edge} {x:Operand} {xs:List S1} {i:Nat} {s:S1} (hx:opv fr x=some (.tup xs)) (hi:xs[i]?=some s) (hd:Nat.blt d nt=true) (k:WpL P nt ops rest ((d,SV.s s)::fr) ob Q):WpL P nt ops (⟨some d,.extract x i,ty,pos,af,none⟩::rest) fr ob Q:=A6 (N2 hx hi) hd k
theorem G3 {P:Program} {nt:Nat} {ops:Array Oper} {rest:List Oper} {fr:Fr} {ob:Obs} {Q:Post} {d:Nat} {ty:TypeId} {pos:String} {af:Array Edge} {x:Operand} {t:TypeId} {k0 o:Nat} {ts:List TC} {s:TC}  (hx:opv fr x=some (.s (.one (.ref k0 o)))) [ht:TyOne P t] (hk:C1 ob k0=some (.box ts)) (ho:ts[o]?=some s) (hd:Nat.blt d nt=true) (k:WpL P nt ops rest ((d,SV.s (.one s))::fr) ob Q):WpL P nt ops (⟨some d,.load t x,ty,pos,af,none⟩::rest) fr ob Q:=A6 (C5 hx hk ho) hd k
theorem F7 {P:Program} {nt:Nat} {ops:Array Oper} {rest:List Oper} {fr:Fr} {ob:Obs} {Q:Post} {d:Nat} {ty:TypeId} {pos:String} {af:Array Edge} {a b:Int} {k0:IntKind} {x y:Operand} {t yt:TypeId} (hx:opv fr x=some (I7 (.int k0 a))) (hy:opv fr y=some (I7 (.int k0 b))) (hd:Nat.blt d nt=true) (k:WpL P nt ops rest ((d,S0 (decide (a < b)))::fr) ob Q):WpL P nt ops (⟨some d,.binOp .lss t x y yt,ty,pos,af,none⟩::rest) fr ob Q:=A6 (A75 hx hy) hd k
theorem E3 {P:Program} {nt:Nat} {ops:Array Oper} {rest:List Oper} {fr:Fr} {ob:Obs} {Q:Post} {d:Nat} {ty:TypeId} {pos:String} {af:Array Edge} {a b:Int} {x y:Operand} {t yt:TypeId} (hx:opv fr x=some (C7 a)) (hy:opv fr y=some (C7 b)) (hd:Nat.blt d nt=true) (k:WpL P nt ops rest ((d,C7 (a+b))::fr) ob Q) (h:-9223372036854775808≤a+b∧a+b≤9223372036854775807:=by omega):WpL P nt ops (⟨some d,.binOp .add t x y yt,ty,pos,af,none⟩::rest) fr ob Q:=A6 (l6 hx hy h) hd k
theorem F4 {P:Program} {nt:Nat} {ops:Array Oper} {rest:List Oper} {fr:Fr} {ob:Obs} {Q:Post} {d:Nat} {ty:TypeId} {pos:String} {af:Array Edge} {x:Operand} {t e:TypeId} {eb bytes:Nat} {α:Type} {ec:Nat} {c:α→Nat→Cell} {xs:List α} (hx:opv fr x=some (D6 α ec c xs)) [ht:TySl P t e eb bytes] (hd:Nat.blt d nt=true) (k:WpL P nt ops rest ((d,C7 xs.length)::fr) ob Q):WpL P nt ops (⟨some d,.call ⟨.builtin .len,#[x],#[t]⟩,ty,pos,af,none⟩::rest) fr ob Q:=A6 (r5 hx (.pure _ _ _ _)) hd k
theorem K7 {P:Program} {nt:Nat} {ops:Array Oper} {rest:List Oper} {fr:Fr} {ob:Obs} {Q:Post} {d:Nat} {ty:TypeId} {pos:String} {af:Array Edge} {c x y:Operand} {b p q:Bool} (hc:opv fr c=some (S0 b)) (hd:Nat.blt d nt=true) (k:WpL P nt ops rest ((d,S0 (if b then p else q))::fr) ob Q) (hx:b=true→opv fr x=some (S0 p):=by (intro h;first | rfl | (rw [h];rfl))) (hy:b=false→opv fr y=some (S0 q):=by (intro h;first | rfl | (rw [h];rfl))):WpL P nt ops (⟨some d,.pick c x y,ty,pos,af,none⟩::rest) fr ob Q:=A6 (L8 hc hx hy) hd k
theorem E9 {P:Program} {nt:Nat} {ops:Array Oper} {rest:List Oper} {fr:Fr} {ob:Obs} {d:Nat} {ty:TypeId} {pos:String} {af:Array Edge} {K:Fr→Obs→Prop} {x:Operand} {s:SV} (hx:opv (b8 fr (D77 (.move x))) x=some s) (h:(H8 x&&Nat.blt d nt)=true) (k:LexD P nt ops K rest ((d,s)::fr) ob):LexD P nt ops K (⟨some d,.move x,ty,pos,af,none⟩::rest) fr ob:=B7 (C2 hx ((L02 _ _).mp h).1) rfl ((L02 _ _).mp h).2 k
end
end Go.AL
