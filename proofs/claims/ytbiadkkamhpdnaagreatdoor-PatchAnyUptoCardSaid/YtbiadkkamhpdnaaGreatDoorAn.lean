/- The abstract logic, its third part. No project text. -/
import Derived.Test.YtbiadkkamhpdnaaGreatDoorAm
import Derived.Laws.StructEq
import Derived.Laws.Cover3
import Derived.MapKept
set_option linter.unusedSimpArgs false
attribute [local semireducible] Go.AL.Neu Go.AL.Eff Go.AL.EffV Go.AL.WpL Go.AL.WpC Go.AL.FnOk Go.AL.LexD Go.AL.Sees Go.AL.RetOk Go.AL.FnIo Go.AL.Met Go.AL.RetS
namespace Go.AL
open Go Go.RowKit
set_option linter.unusedVariables false
section
variable {P:Program} {nt:Nat} {ops:Array Oper}
def EffU (P:Program) (o:Oper) (U:Fr) (ob ob':Obs):Prop :=
 ∀S G a w,Sim P S U ob G a w→Does P o a w (fun _ w'=>∃G',∀fr,Sim P S fr ob G a w→Sim P S fr ob' G' a w')
theorem v8 {t:TypeId} {x y:Operand} {k o n:Nat} {ts:List TC} {s:S1} {fr:Fr} {ob:Obs} {ty:TypeId} {pos:String} {af:Array Edge} {gd:Option (Nat × Bool)} (hsz:(P.info? t).map (·.size)=some n) (hx:opv fr x=some (.s (.one (.ref k o)))) (hk:C8 ob k=some (.box ts)) (hy:opv fr y=some (.s s)) (hc:H6 y=true)
  (hn:s.cells.length=n) (hfit:Nat.ble (o+n) ts.length=true):EffU P ⟨none,.store t x y,ty,pos,af,gd⟩ fr ob ((k,.box (setTs ts o s.cells))::ob):=by
 intro S G a w h
 obtain ⟨b,hg,hu⟩:=F9 h hx
 obtain ⟨b',vs,tt,hg',hh,ha⟩:=h.box hk
 rw [hg] at hg';cases hg'
 have hr:(SV.s s).rep (E2 (Mut S ob G) w) G (a.eval y):=N8 h hy hc
 have hcells:=F78 hr
 have hlen:(a.eval y).cells.size=n:=by rw [←hn,hcells.length];simp
 have hle:o+n≤ts.length:=by simpa using hfit
 have hone:∀u∈(a.eval y).cells.toList,u.oneCell'=true:=by
  intro u hu
  have:∀(ts:List TC) (vs:List Value),All2 (TC.rep (E2 (Mut S ob G) w) G) ts vs→∀u∈vs,u.oneCell'=true:=by
   intro ts
   induction ts with
   | nil=>intro vs h u hu;cases vs with | nil=>cases hu | cons=>exact h.elim
   | cons t ts ih =>
    intro vs h u hu
    cases vs with
    | nil=>exact h.elim
    | cons v vs =>
     rcases List.mem_cons.1 hu with rfl | hu
     ·exact TC.rep_one h.1
     ·exact ih vs h.2 u hu
  exact this _ _ hcells u hu
 obtain ⟨w',hrun,hos,htape,hout,hsize,hother,hheap⟩:=S3 (P:=P) (t:=t) (w:=w) (b:=b) (o:=o) (v:=a.eval y) (by rw [hsz,hlen]) hh hone (by rw [hlen,←ha.length];exact hle)
 unfold Does
 have he:(execOp a.eval ⟨none,.store t x y,ty,pos,af,gd⟩).run P w=.ok .skip w':=by
  simp [execOp,hu,Instr.storeAt,Instr.sureAddr,hrun]
 rw [he]
 have hbk:blk (G k)=some b:=by rw [hg];rfl
 refine ⟨G,fun fr2 h2=>h2.write hk hbk (fun i=>⟨hbk,trivial⟩) (fun i=>⟨hbk,trivial⟩) hos htape hout (Nat.le_of_eq hsize.symm) (fun j _=>hother j) ?_⟩
 intro rd hrd
 refine ⟨b,_,tt,hg,hheap,?_⟩
 have hd:vs.drop (o+(a.eval y).cells.size)=vs.drop (o+s.cells.length):=by rw [hlen,hn]
 unfold setTs
 rw [hd]
 exact (((ha.take o).append hcells).append (ha.drop _)).mono fun _ _=>TC.rep_mono hrd
def Told (U:Fr) (φ:Fa):Prop:=∀t s,C9 U t=some s→φ t=some s
theorem E63 {U:Fr} {φ:Fa} {d:Nat} {s:SV} (hd:C9 U d=none) (h:Told U (P2 φ d s)):Told U φ:=fun t s' ht=>by
 have h1:=h t s' ht
 unfold P2 at h1
 by_cases he:t=d
 ·subst he;rw [hd] at ht;cases ht
 ·rwa [if_neg he] at h1
theorem D11 {o:Oper} {U:Fr} {ob ob':Obs} {φ:Fa} (h:EffU P o U ob ob') (hg:o.guard=none) (hd:o.dst=none) (hφ:Told U φ):u9 P nt ops o φ ob (fun φ' ob''=>φ'=φ∧ob''=ob'):=by
 refine ⟨hg,fun S G a w hn hs=>l6 (h S G a w (hs.sub hφ)) ?_⟩
 rintro v w' ⟨G',hG⟩
 refine ⟨φ,ob',G',⟨rfl,rfl⟩,?_⟩
 rw [hd]
 refine ⟨hG [] hs.1,fun i s hi=>?_⟩
 have h1:Sim P S [(i,s)] ob G a w:=hs.sub fun j t hj=>by
  by_cases he:i=j
  ·subst he;rw [D1] at hj;cases hj;exact hi
  ·rw [C0 he] at hj;simp [C9] at hj
 exact (hG _ h1).facts i s (by rw [D1])
def AnyC (P:Program) (nt:Nat) (ops:Array Oper) (T:Nat) (U:Fr) (ob ob':Obs) (E:Array Bool→Fa→Prop):Nat→Array Bool→Fa→Prop
 | 0,listed,φ=>(T∈Region.ready .any ops listed→Told U φ)∧T∈Region.ready .any ops listed∧(∀j∈Region.ready .any ops listed,j=T)∧E listed φ
 | fuel+1,listed,φ=>(T∈Region.ready .any ops listed→Told U φ)∧(∃p,p < T∧p∈Region.ready .any ops listed)∧∀i∈Region.ready .any ops listed,i≠T →
   ∃o s d,ops[i]?=some o∧o.dst=some d∧turns o.op=false∧YieldsN P nt ops o φ ob s∧YieldsN P nt ops o φ ob' s∧AnyC P nt ops T U ob ob' E fuel (listed.setIfInBounds i true) (P2 φ d s)
theorem AnyC.told {T:Nat} {U:Fr} {ob ob':Obs} {E:Array Bool→Fa→Prop} {fuel:Nat} {listed:Array Bool} {φ:Fa} (h:AnyC P nt ops T U ob ob' E fuel listed φ):T∈Region.ready .any ops listed→Told U φ:=by
 cases fuel<;>exact h.1
theorem E64 {T:Nat} {U:Fr} {ob ob':Obs} {E:Array Bool→Fa→Prop} {i d:Nat} {oi oT:Oper} {s:SV} (hi:ops[i]?=some oi) (hoT:ops[T]?=some oT) (hti:turns oi.op=false) (hdi:oi.dst=some d) (hiT:i < T)
  (hU:Bef ops T i=true∨C9 U d=none) :
  ∀(fuel:Nat) (listed:Array Bool) (φ:Fa),Closed ops listed →
   (∀j oj,ops[j]?=some oj→j≠i→j≠T→listed.getD j true=false→Bef ops j i=true∨(turns oj.op=false∧T6 ops oi oj=true)) →
   i∈Region.ready .any ops listed→YieldsN P nt ops oi φ ob s→YieldsN P nt ops oi φ ob' s →
   AnyC P nt ops T U ob ob' E fuel (listed.setIfInBounds i true) (P2 φ d s)→AnyC P nt ops T U ob ob' E (fuel+1) listed φ:=by
 have hto:∀(fuel:Nat) (listed:Array Bool) (φ:Fa),Closed ops listed→i∈Region.ready .any ops listed→AnyC P nt ops T U ob ob' E fuel (listed.setIfInBounds i true) (P2 φ d s)→T∈Region.ready .any ops listed→Told U φ:=by
  intro fuel listed φ hc hr H hT
  rcases hU with hb | hn
  ·obtain ⟨hTun,oj,hoj,hall⟩:=mem_ready.1 hT
   have:=N4 hc T hb (fun o ho e he hbd=>by rw [hoj] at ho;cases ho;exact hall e (Array.mem_toList_iff.1 he) hbd)
   have hiun:=H2 hr
   rw [hiun] at this;cases this
  ·exact E63 hn (H.told (ready_mono hT (by omega)))
 intro fuel
 induction fuel with
 | zero =>
  intro listed φ hc hN hr hy hy2 H
  refine ⟨hto 0 listed φ hc hr H,⟨i,hiT,hr⟩,fun j hj hjT=>?_⟩
  by_cases hji:j=i
  ·subst hji;exact ⟨oi,s,d,hi,hdi,hti,hy,hy2,H⟩
  ·exact absurd (H.2.2.1 j (ready_mono hj hji)) hjT
 | succ fuel ih =>
  intro listed φ hc hN hr hy hy2 H
  refine ⟨hto (fuel+1) listed φ hc hr H,⟨i,hiT,hr⟩,fun j hj hjT=>?_⟩
  by_cases hji:j=i
  ·subst hji;exact ⟨oi,s,d,hi,hdi,hti,hy,hy2,H⟩
  ·obtain ⟨hjun,oj,hoj,hall⟩:=mem_ready.1 hj
   have hiun:=H2 hr
   obtain ⟨htj,hap⟩:turns oj.op=false∧T6 ops oi oj=true:=by
    rcases hN j oj hoj hji hjT hjun with hb | h
    ·have:=N4 hc j hb (fun o ho e he hbd=>by rw [hoj] at ho;cases ho;exact hall e (Array.mem_toList_iff.1 he) hbd)
     rw [hiun] at this;cases this
    ·exact h
   obtain ⟨o',sj,dj,ho',hdj,_,hyj,hyj2,HK⟩:=H.2.2 j (ready_mono hj hji) hjT
   rw [hoj] at ho';cases ho'
   simp only [T6,hdi,hdj,G08,Bool.not_eq_true',List.contains_eq_mem,decide_eq_false_iff_not] at hap
   obtain ⟨⟨h1,h2⟩,h3⟩:=hap
   have h3:d≠dj:=fun e=>by subst e;simp at h3
   refine ⟨oj,sj,dj,hoj,hdj,htj,hyj.unput h1,hyj2.unput h1,?_⟩
   refine ih (listed.setIfInBounds j true) _ (G4 hc hj) ?_ (ready_mono hr (Ne.symm hji)) (hy.put h2) (hy2.put h2) ?_
   ·intro m om hm hmi hmT hun
    refine hN m om hm hmi hmT ?_
    by_cases hjm:j=m
    ·subst hjm;exact hjun
    ·rwa [getD_set_ne true hjm] at hun
   ·rw [Array.setIfInBounds_comm _ _ hji,←d6 h3]
    exact HK
theorem C33 {T:Nat} {U:Fr} {ob ob':Obs} {E:Array Bool→Fa→Prop} {K:Fa→Obs→Prop} {fuel2:Nat}
  (hpost:∀j oj,ops[j]?=some oj→(∃e∈oj.after.toList,Region.binds .any e=true∧e.on=T)→∀p,p < T→Bef ops j p=true)
  (hE:∀listed φ,Closed ops (listed.setIfInBounds T true)→(listed.setIfInBounds T true).getD T false=true→E listed φ→l4 P nt ops T K fuel2 (listed.setIfInBounds T true) φ ob') :
  ∀(fuel:Nat) (listed:Array Bool) (φ:Fa),Closed ops listed→T∈Region.ready .any ops listed→AnyC P nt ops T U ob ob' E fuel listed φ →
   l4 P nt ops T K (fuel2+fuel) (listed.setIfInBounds T true) φ ob'
 | 0,listed,φ,hc,hT,h=>by
  have hTl:(listed.setIfInBounds T true).getD T false=true:=by
   have:=(mem_ready.1 hT).1
   have hlt:T < listed.size:=by
    rcases Nat.lt_or_ge T listed.size with h' | h'
    ·exact h'
    ·simp only [Array.getD_eq_getD_getElem?] at this
     rw [Array.getElem?_eq_none h'] at this;simp at this
   simp [Array.getD_eq_getD_getElem?,hlt]
  exact hE _ φ (G4 hc hT) hTl h.2.2.2
 | fuel+1,listed,φ,hc,hT,h=>by
  obtain ⟨p,hp,hpr⟩:=h.2.1
  have hc2:=G4 hc hT
  have hpT:p≠T:=by omega
  refine ⟨fun he=>(by have:=ready_mono hpr hpT;rw [he] at this;cases this),fun i hi=>?_⟩
  have hiT:i≠T:=fun e=>by
   subst e
   have:=H2 hi
   have hlt:i < listed.size:=by
    have:=(mem_ready.1 hT).1
    rcases Nat.lt_or_ge i listed.size with h' | h'
    ·exact h'
    ·simp only [Array.getD_eq_getD_getElem?] at this
     rw [Array.getElem?_eq_none h'] at this;simp at this
   simp [Array.getD_eq_getD_getElem?,hlt] at this
  have hir:i∈Region.ready .any ops listed:=by
   obtain ⟨hiun,oi,hoi,hall⟩:=mem_ready.1 hi
   refine mem_ready.2 ⟨by rwa [getD_set_ne true (Ne.symm hiT)] at hiun,oi,hoi,fun e he hb=>?_⟩
   have h1:=hall e he hb
   by_cases heT:e.on=T
   ·exfalso
    have hb2:=hpost i oi hoi ⟨e,Array.mem_toList_iff.2 he,hb,heT⟩ p hp
    have:=N4 hc2 i hb2 (fun o ho e he hbd=>by rw [hoi] at ho;cases ho;exact hall e (Array.mem_toList_iff.1 he) hbd)
    have hpu:=H2 (ready_mono hpr hpT)
    rw [hpu] at this;cases this
   ·simp only [Array.getD_eq_getD_getElem?] at h1 ⊢
    rwa [Array.getElem?_setIfInBounds_ne (Ne.symm heT)] at h1
  obtain ⟨o,s,d,ho,hd,ht,_,hy2,HK⟩:=h.2.2 i hir hiT
  refine ⟨o,ho,?_⟩
  have htn:tn T i o=false:=by unfold tn;rw [K9 hiT,ht];rfl
  rw [htn]
  refine ⟨s,d,hd,hy2,?_⟩
  rw [Array.setIfInBounds_comm _ _ (Ne.symm hiT)]
  exact C33 hpost hE fuel _ _ (G4 hc hir) (ready_mono hT (Ne.symm hiT)) HK
theorem E01 {T:Nat} {U:Fr} {ob ob':Obs} {E:Array Bool→Fa→Prop} {K:Fa→Obs→Prop} {fuel2:Nat} {oT:Oper} (hoT:ops[T]?=some oT) (hA:EffU P oT U ob ob') (hg:oT.guard=none) (hd:oT.dst=none)
  (hpost:∀j oj,ops[j]?=some oj→(∃e∈oj.after.toList,Region.binds .any e=true∧e.on=T)→∀p,p < T→Bef ops j p=true)
  (hE:∀listed φ,Closed ops (listed.setIfInBounds T true)→(listed.setIfInBounds T true).getD T false=true→E listed φ→l4 P nt ops T K fuel2 (listed.setIfInBounds T true) φ ob') :
  ∀(fuel:Nat) (listed:Array Bool) (φ:Fa),Closed ops listed→AnyC P nt ops T U ob ob' E fuel listed φ→l4 P nt ops T K (fuel2+fuel+1) listed φ ob:=by
 have hTn:tn T T oT=true:=by unfold tn;rw [Nat.beq_refl];rfl
 have hstep:∀(fuel:Nat) (listed:Array Bool) (φ:Fa),Closed ops listed→T∈Region.ready .any ops listed→AnyC P nt ops T U ob ob' E fuel listed φ→F02 P nt ops T T φ ob (l4 P nt ops T K (fuel2+fuel) (listed.setIfInBounds T true)):=by
  intro fuel listed φ hc hT h
  refine ⟨oT,hoT,?_⟩
  rw [hTn]
  have h1:u9 P nt ops oT φ ob (fun φ' ob''=>φ'=φ∧ob''=ob'):=D11 hA hg hd (h.told hT)
  refine ⟨h1.1,fun S G a w hn hs=>l6 (h1.2 S G a w hn hs) ?_⟩
  rintro v w' ⟨φ',ob',G',⟨rfl,rfl⟩,hs'⟩
  exact ⟨_,_,G',C33 hpost hE fuel listed _ hc hT h,hs'⟩
 intro fuel
 induction fuel with
 | zero =>
  intro listed φ hc h
  refine ⟨fun he=>(by have:=h.2.1;rw [he] at this;cases this),fun i hi=>?_⟩
  have hiT:=h.2.2.1 i hi
  subst hiT
  exact hstep 0 listed φ hc hi h
 | succ fuel ih =>
  intro listed φ hc h
  obtain ⟨p,hp,hpr⟩:=h.2.1
  refine ⟨fun he=>(by rw [he] at hpr;cases hpr),fun i hi=>?_⟩
  by_cases hiT:i=T
  ·subst hiT;exact hstep (fuel+1) listed φ hc hi h
  ·obtain ⟨o,s,d,ho,hd,ht,hy,_,HK⟩:=h.2.2 i hi hiT
   refine ⟨o,ho,?_⟩
   have htn:tn T i o=false:=by unfold tn;rw [K9 hiT,ht];rfl
   rw [htn]
   exact ⟨s,d,hd,hy,ih _ _ (G4 hc hi) HK⟩
def LexC (P:Program) (nt:Nat) (ops:Array Oper) (U:Fr) (ob ob':Obs) (E:Fr→Prop):List Oper→Fr→Prop
 | [],fr=>FrIn fr U∧E fr
 | o::l,fr=>∃s d,o.dst=some d∧YieldsN P nt ops o (C9 fr) ob s∧YieldsN P nt ops o (C9 fr) ob' s∧LexC P nt ops U ob ob' E l ((d,s)::fr)
def C34 (ops:Array Oper) (T:Nat) (ks:List Nat):Nat→Nat→Array Bool→Bool
 | 0,_,listed=>(Region.ready .any ops listed).contains T&&(Region.ready .any ops listed).all fun j=>Nat.beq j T
 | fuel+1,k,listed =>
  (match ops[k]? with
   | some o=>(Region.ready .any ops listed).contains k&&!(turns o.op)&&Nat.blt k T&&(Bef ops T k||match o.dst with | some d=>!(ks.contains d) | none=>false) &&
    ((List.range ops.size).all fun j=>Nat.beq j k||Nat.beq j T||listed.getD j true||match ops[j]? with
     | some oj=>Bef ops j k||(!(turns oj.op)&&T6 ops o oj)
     | none=>true)
   | none=>false)&&C34 ops T ks fuel (k+1) (listed.setIfInBounds k true)
theorem F28 {U:Fr} {d:Nat} (h:(U.map (·.1)).contains d=false):C9 U d=none:=by
 induction U with
 | nil=>rfl
 | cons x r ih =>
  obtain ⟨i,s⟩:=x
  simp only [G15,List.contains_cons,G47] at h
  have hne:i≠d:=fun e=>by subst e;simp at h
  rw [C0 hne]
  exact ih h.2
theorem E02 {T:Nat} {U:Fr} {ob ob':Obs} {E:Fr→Prop} {L:Array Bool} {oT:Oper} (hoT:ops[T]?=some oT):∀(l:List Oper) (k:Nat) (listed:Array Bool) (fr:Fr),(∀j,j < l.length→l[j]?=ops[k+j]?)→Closed ops listed→C34 ops T (U.map (·.1)) l.length k listed=true→l5 l.length k listed=L →
  LexC P nt ops U ob ob' E l fr→AnyC P nt ops T U ob ob' (fun L' φ=>L'=L∧∃fr',φ=C9 fr'∧E fr') l.length listed (C9 fr)
 | [],k,listed,fr,hl,hc,hB,hL,h=>by
  simp only [G11,C34,G08] at hB
  exact ⟨fun _ t s ht=>FrIn.spec h.1 t s ht,by simpa using hB.1,fun j hj=>Nat.eq_of_beq_eq_true (List.all_eq_true.1 hB.2 j hj),hL,fr,rfl,h.2⟩
 | o::l,k,listed,fr,hl,hc,hB,hL,h=>by
  have h0:ops[k]?=some o:=by simpa using (hl 0 (by simp)).symm
  simp only [G10,C34,h0,G08,Bool.not_eq_true'] at hB
  obtain ⟨⟨⟨⟨⟨hr,hnt⟩,hkT⟩,hbu⟩,hf⟩,hB'⟩:=hB
  have hr':k∈Region.ready .any ops listed:=by simpa using hr
  have hl':∀j,j < l.length→l[j]?=ops[k+1+j]?:=fun j hj=>by have:=hl (j+1) (by simpa using hj);simpa [Nat.add_assoc,Nat.add_comm 1 j] using this
  obtain ⟨s,d,hd,hy,hy2,hL2⟩:=h
  have hU:Bef ops T k=true∨C9 U d=none:=by
   rw [hd] at hbu
   rcases G32 _ _ ▸ hbu with hb | hb
   ·exact .inl hb
   ·exact .inr (F28 (by simpa using hb))
  refine E64 h0 hoT hnt hd (by simpa using hkT) hU l.length listed _ hc ?_ hr' hy hy2 ?_
  ·intro j oj hoj hjk hjT hun
   have hlt:j < ops.size:=(Array.getElem?_eq_some_iff.1 hoj).1
   have:=List.all_eq_true.1 hf j (List.mem_range.2 hlt)
   rw [K9 hjk,K9 hjT,hun,hoj] at this
   simp only [Bool.false_or,G32,G08,Bool.not_eq_true'] at this
   exact this
  ·rw [←M9]
   exact E02 hoT l (k+1) _ _ hl' (G4 hc hr') hB' hL hL2
def F05 (nt:Nat) (l:List Oper) (n:Nat) (ks:List Nat):Bool :=
 let ops:=l.toArray
 let L0:=Array.replicate l.length false
 let L:=l5 n 0 L0
 C34 ops n ks n 0 L0&&C24 nt ops&&Nat.ble (n+1) l.length&&Nat.beq (l.take n).length n &&
  ((List.range ops.size).all fun j=>match ops[j]? with | some oj=>!(oj.after.toList.any fun e=>Region.binds .any e&&Nat.beq e.on n)||(List.range n).all fun p=>Bef ops j p | none=>true) &&
  B30 ops (l.drop (n+1)).length (n+1) (L.setIfInBounds n true)
theorem C35 {id:Nat} {l:List Oper} (n:Nat) {oT:Oper} (U:Fr) {fr:Fr} {ob ob':Obs} {Q:Post} (hm:P.follows .mixedOrders=true) (hB:F05 nt l n (U.map (·.1))=true) (hc:l[n]?=some oT) (hA:EffU P oT U ob ob') (hg:oT.guard=none) (hdT:oT.dst=none)
  (h:LexC P nt l.toArray U ob ob' (fun fr=>LexD P nt l.toArray (fun fr ob=>Q .normal fr ob) (l.drop (n+1)) fr ob') (l.take n) fr):WpC P nt (.region id l.toArray true) fr ob Q:=by
 intro S G a w hn hs
 unfold F05 at hB
 simp only [G08] at hB
 obtain ⟨⟨⟨⟨⟨b1,b2⟩,b3⟩,b4⟩,b6⟩,b8⟩:=hB
 have hlen:n+1≤l.length:=Nat.le_of_ble_eq_true b3
 have htl:(l.take n).length=n:=Nat.eq_of_beq_eq_true b4
 have hdst:∀(j t:Nat),(l.toArray[j]?).bind (fun o=>o.dst)=some t→t < nt:=by
  intro j t ht
  cases ho:l.toArray[j]? with
  | none=>simp [ho] at ht
  | some o =>
   simp [ho] at ht
   have hmem:o∈l:=by
    rw [List.getElem?_toArray] at ho
    exact G30 ho
   have:=List.all_eq_true.1 b2 o (by simpa using hmem)
   rw [ht] at this
   simpa using this
 refine wp_region_any hm ?_
 have hcl:Closed l.toArray (Array.replicate l.length false):=by
  intro j o ho hl
  simp only [Array.getD_eq_getD_getElem?] at hl
  rcases Nat.lt_or_ge j l.length with h' | h'
  ·simp [h'] at hl
  ·simp [h'] at hl
 have hoc:l.toArray[n]?=some oT:=by rw [List.getElem?_toArray];exact hc
 have hpost:∀j oj,l.toArray[j]?=some oj→(∃e∈oj.after.toList,Region.binds .any e=true∧e.on=n)→∀p,p < n→Bef l.toArray j p=true:=by
  rintro j oj hoj ⟨e,he,hb,hon⟩ p hp
  have hlt:j < l.toArray.size:=(Array.getElem?_eq_some_iff.1 hoj).1
  have h1:=List.all_eq_true.1 b6 j (List.mem_range.2 hlt)
  rw [hoj] at h1
  have h1:((!(oj.after.toList.any fun e=>Region.binds .any e&&Nat.beq e.on n))||(List.range n).all fun p=>Bef l.toArray j p)=true:=h1
  have h2:(oj.after.toList.any fun e=>Region.binds .any e&&Nat.beq e.on n)=true:=List.any_eq_true.2 ⟨e,he,by rw [hb,hon,Nat.beq_refl];rfl⟩
  rw [h2] at h1
  simp only [Bool.not_true,Bool.false_or] at h1
  exact List.all_eq_true.1 h1 p (List.mem_range.2 hp)
 have key:l4 P nt l.toArray n (fun φ ob=>∃fr',φ=C9 fr'∧Q .normal fr' ob) ((l.drop (n+1)).length+(l.take n).length+1) (Array.replicate l.length false) (C9 fr) ob:=by
  refine E01 hoc hA hg hdT hpost ?_ (l.take n).length _ _ hcl (E02 hoc (L:=l5 n 0 (Array.replicate l.length false)) (l.take n) 0 _ fr (fun j hj=>?_) hcl (by rw [htl];exact b1) (by rw [htl]) h)
  ·rintro listed φ hcl2 hTl ⟨rfl,fr',rfl,hL⟩
   exact A77 _ _ _ _ hTl (s8 (l.drop (n+1)) (n+1) _ _ _ (fun i=>by rw [G26,List.getElem?_toArray]) hcl2 b8 hL)
  ·rw [Nat.zero_add,List.getElem?_toArray,G16 (by rw [htl] at hj;exact hj)]
 have hx:Below w.heap.size w { w with drawn:=w.drawn+1 }:=⟨rfl,rfl,rfl,Nat.le_refl _,fun _ _=>rfl⟩
 have hs':SimF P S (C9 fr) ob G a { w with drawn:=w.drawn+1 }:=(simF_iff.2 hs).ext hx
 have:=X7 (Q:=PostOf P S Q) hn hdst (fun φ ob' G' a' w' ⟨fr',he,hq⟩ hsf=>⟨fr',ob',G',hq,simF_iff.1 (he ▸ hsf)⟩) _ _ _ ob G a _ key hs'
 have hfuel:(l.drop (n+1)).length+(l.take n).length+1=l.length:=by rw [G25,htl];omega
 rw [hfuel] at this
 simpa using this
theorem s_nil {U:Fr} {ob ob':Obs} {E:Fr→Prop} {fr:Fr} (hf:FrIn fr U) (h:E fr):LexC P nt ops U ob ob' E [] fr:=⟨hf,h⟩
theorem A44 {d:Nat} {U:Fr} {ob ob':Obs} {E:Fr→Prop} {fr:Fr} {rest:List Oper} {op:Op} {ty:TypeId} {pos:String} {af:Array Edge} {s:SV} (h:Neu P ⟨some d,op,ty,pos,af,none⟩ (M7 fr (n4 op)) ob (fun s'=>s'=s)) (hd:Nat.blt d nt=true)
  (h2:Neu P ⟨some d,op,ty,pos,af,none⟩ (M7 fr (n4 op)) ob' (fun s'=>s'=s)) (kk:LexC P nt ops U ob ob' E rest ((d,s)::fr)):LexC P nt ops U ob ob' E (⟨some d,op,ty,pos,af,none⟩::rest) fr :=
 ⟨s,d,rfl,d7 h hd,d7 h2 hd,kk⟩
theorem E03 {fr:Fr} {ob:Obs} {dst:Option Tmp} {ty:TypeId} {pos:String} {af:Array Edge} {gd:Option (Nat × Bool)} {c x y:Operand} {b p:Bool} (hc:opv fr c=some (W7 b)) (hb:b=true) (hx:opv fr x=some (W7 p)) :
  Neu P ⟨dst,.pick c x y,ty,pos,af,gd⟩ fr ob (fun s'=>s'=W7 p) :=
 E0 fun S G a w h=>by
  have:=G3 h hc
  subst hb
  exact ⟨.bool p,by simp [execOp,this,asBool,G3 h hx],rfl,rfl⟩
theorem C36 {fr:Fr} {ob:Obs} {dst:Option Tmp} {ty:TypeId} {pos:String} {af:Array Edge} {gd:Option (Nat × Bool)} {c x y:Operand} {b p:Bool} (hc:opv fr c=some (W7 b)) (hb:b=false) (hx:opv fr y=some (W7 p)) :
  Neu P ⟨dst,.pick c x y,ty,pos,af,gd⟩ fr ob (fun s'=>s'=W7 p) :=
 E0 fun S G a w h=>by
  have:=G3 h hc
  subst hb
  exact ⟨.bool p,by simp [execOp,this,asBool,G3 h hx],rfl,rfl⟩
end
end Go.AL
namespace Go.AL
open Go Go.RowKit
theorem retc3 {P:Program} {fn:Func} {fr:Fr} {ob:Obs} {t t' t'':Tmp} {k n:Nat} {tt:TypeId} {ts:List TC} {cs:List Cell} {s' s'':S1} {p' p'':PV} [TyAgg P tt n] (hr:fn.results=#[.cell t tt,.tmp t',.tmp t'']) (ht:j6 fr t=some (.s (.one (.ref k 0)))) (hk:C8 ob k=some (.box ts)) (hn:ts.length=n) (hp:A42 ts=some cs)
  (ht':j6 fr t'=some (.s s')) (hp':s'.pv?=some p') (ht'':j6 fr t''=some (.s s'')) (hp'':s''.pv?=some p''):RetOk P fn fr ob [.agg cs,p',p''] :=
 fun S G a w h=>by
  obtain ⟨b,vs,h1,h2,h3⟩:=box_pv h (tt:=tt) ht hk hn hp
  rw [Array.getD_eq_getD_getElem?] at h1
  exact ⟨_,by simp [results,hr,h1,asAddr,h2],[_,_,_],rfl,h3,A74 h ht' hp',A74 h ht'' hp'',trivial⟩
end Go.AL
namespace Go.AL
open Go Go.RowKit
set_option linter.unusedVariables false
inductive CK | int (k:IntKind) | str | bool
def ckOf (P:Program) (t:TypeId):Option CK :=
 match P.underlying t with
 | some (.int k)=>some (.int k)
 | some .string=>some .str
 | some .bool=>some .bool
 | _=>none
def D12 (P:Program):Nat→List Field→List CK→Bool
 | _,[],[]=>true
 | i,f::fs,k::ks=>f.name != "_"&&(f.offset == i&&((match ckOf P f.type,k with | some (.int k),.int k'=>decide (k=k') | some .str,.str=>true | some .bool,.bool=>true | _,_=>false)&&D12 P (i+1) fs ks))
 | _,_,_=>false
class TyCmp (P:Program) (t:TypeId) (ks:outParam (List CK)):Prop where
 out:P.underlying t=some (.struct (P.fieldsOf t))∧(D12 P 0 (P.fieldsOf t).toList ks&&(!P.stoodInHeld t&&!P.eqGuardType P.depth t))=true
def ckV:CK→Value→Bool
 | .int k,.int k' _=>decide (k=k')
 | .str,.string _=>true
 | .bool,.bool _=>true
 | _,_=>false
def eqV:Value→Value→Bool
 | .int _ a,.int _ b=>a == b
 | .string a,.string b=>a.toList == b.toList
 | .bool a,.bool b=>a == b
 | _,_=>false
def C06:List CK→List Value→Bool
 | [],[]=>true
 | k::ks,v::vs=>ckV k v&&C06 ks vs
 | _,_=>false
def D53:List Value→List Value→Bool
 | u::us,v::vs=>eqV u v&&D53 us vs
 | _,_=>true
theorem B34 {P:Program} (d:Nat) (us vs:List Value):∀(fs:List Field) (ks:List CK) (i:Nat),D12 P i fs ks=true→i+ks.length=us.length→i+ks.length=vs.length→C06 ks (us.drop i)=true→C06 ks (vs.drop i)=true →
  ∀w:World,(Op.eqFields (d+1) us.toArray vs.toArray fs).run P w=.ok (D53 (us.drop i) (vs.drop i)) w
 | [],[],i,_,h1,h2,_,_,w=>by
  rw [G18 (by simp at h1;omega)]
  simp [Op.eqFields,D53]
 | [],_::_,_,h,_,_,_,_,_=>by simp [D12] at h
 | _::_,[],_,h,_,_,_,_,_=>by simp [D12] at h
 | f::fs,k::ks,i,h,h1,h2,h3,h4,w=>by
  simp only [D12,G08,bne_iff_ne,beq_iff_eq] at h
  obtain ⟨hn,ho,hk,hr⟩:=h
  have l1:i < us.length:=by simp at h1;omega
  have l2:i < vs.length:=by simp at h2;omega
  rw [G12 l1] at h3 ⊢
  rw [G12 l2] at h4 ⊢
  simp only [C06,G08] at h3 h4
  have ih:=B34 (P:=P) d us vs fs ks (i+1) hr (by simp at h1;omega) (by simp at h2;omega) h3.2 h4.2
  have key:∀w:World,(part f.type us.toArray f.offset).run P w=.ok us[i] w∧(part f.type vs.toArray f.offset).run P w=.ok vs[i] w∧(Op.equalIn (d+1) f.type us[i] vs[i]).run P w=.ok (eqV us[i] vs[i]) w:=by
   intro w
   have e1:us.toArray[f.offset]?=some us[i]:=by rw [ho];simp [l1]
   have e2:vs.toArray[f.offset]?=some vs[i]:=by rw [ho];simp [l2]
   have q3:=h3.1
   have q4:=h4.1
   unfold ckOf at hk
   generalize us[i]=u at *
   generalize vs[i]=v at *
   cases hu:P.underlying f.type with
   | none=>rw [hu] at hk;simp at hk
   | some ty =>
    rw [hu] at hk
    cases ty<;>simp only at hk<;>try (simp at hk;done)
    all_goals (cases k<;>simp only [Bool.false_eq_true,decide_eq_true_eq] at hk)
    all_goals (cases u<;>simp only [ckV,Bool.false_eq_true,decide_eq_true_eq] at q3)
    all_goals (cases v<;>simp only [ckV,Bool.false_eq_true,decide_eq_true_eq] at q4)
    all_goals try subst q3
    all_goals try subst q4
    all_goals refine ⟨by simp [part,isAgg,run_underlying hu,e1],by simp [part,isAgg,run_underlying hu,e2],?_⟩
    ·exact run_equalIn_bool' w _ _ _ _ hu
    ·exact run_equalIn_int w _ _ _ _ _ _ hu
    ·exact run_equalIn_string w _ _ _ _ hu
  simp only [Op.eqFields,Sem.run_bind,Sem.run_ite]
  rw [if_pos hn,(key w).1]
  simp only [Result.andThen_ok]
  rw [(key w).2.1]
  simp only [Result.andThen_ok]
  rw [(key w).2.2]
  simp only [Result.andThen_ok]
  cases he:eqV us[i] vs[i]
  ·simp [D53,he]
  ·simp only [D53,he,Bool.true_and]
   simpa using ih w
theorem C37:∀{ks:List CK} {us:List Value},C06 ks us=true→ks.length=us.length
 | [],[],_=>rfl
 | [],_::_,h=>by simp [C06] at h
 | _::_,[],h=>by simp [C06] at h
 | _::ks,_::us,h=>by simp only [C06,G08] at h;simp [C37 h.2]
section
variable {P:Program} {dst:Option Tmp} {ty:TypeId} {pos:String} {af:Array Edge} {gd:Option (Nat × Bool)} {fr:Fr} {ob:Obs}
theorem B05 {rd:Rd} {G:Gh}:∀{us vs:List Value},All2 (TC.rep rd G) (us.map fun u=>TC.p (.v u)) vs→vs=us
 | [],[],_=>rfl
 | [],_::_,h=>h.elim
 | _::_,[],h=>h.elim
 | u::us,v::vs,h=>by
  obtain ⟨⟨h1,_⟩,h2⟩:=h
  rw [B05 h2,h1]
theorem cmp_run {t:TypeId} {ks:List CK} {us vs:List Value} [ht:TyCmp P t ks] (h:(C06 ks us&&C06 ks vs)=true) (w:World):(Op.equalIn 10000 t (.agg us.toArray) (.agg vs.toArray)).run P w=.ok (D53 us vs) w:=by
 obtain ⟨h1,h2⟩:=ht.out
 simp only [G08,Bool.not_eq_true'] at h h2
 have e1:=C37 h.1
 have e2:=C37 h.2
 rw [run_equalIn_agg w 9999 t _ _ h1 h2.2.1]
 have:=B34 (P:=P) 9998 us vs _ ks 0 h2.1 (by omega) (by omega) h.1 h.2 w
 exact this
theorem F54 {t yt:TypeId} {x y:Operand} {ks:List CK} (us vs:List Value) {r:Bool} [ht:TyCmp P t ks] (hx:opv fr x=some (.s (.agg (us.map fun u=>.p (.v u))))) (hy:opv fr y=some (.s (.agg (vs.map fun u=>.p (.v u)))))
  (hc:(H6 x&&H6 y)=true) (hk:(C06 ks us&&C06 ks vs)=true) (hr:D53 us vs=r):Neu P ⟨dst,.binOp .neq t x y yt,ty,pos,af,gd⟩ fr ob (fun s'=>s'=W7 (!r)) :=
 E0 fun S G a w h=>by
  simp only [G08] at hc
  obtain ⟨us',e1,a1⟩:=N8 h hx hc.1
  obtain ⟨vs',e2,a2⟩:=N8 h hy hc.2
  obtain rfl:=B05 a1
  obtain rfl:=B05 a2
  have hg:=ht.out.2
  simp only [G08,Bool.not_eq_true'] at hg
  refine ⟨.bool (!r),?_,rfl,rfl⟩
  simp only [execOp,e1,e2]
  refine L8 ?_
  simp only [Sem.run_bind]
  rw [run_eqGuard_agg (hm:=hg.2.2)]
  simp only [Result.andThen_ok]
  rw [run_neq_struct,cmp_run hk,hr]
  rfl
end
end Go.AL
namespace Go.AL
open Go Go.RowKit
set_option linter.unusedVariables false
theorem Y8 {listed:Array Bool} {e j:Nat} (h:e≠j):(listed.setIfInBounds e true).getD j false=listed.getD j false:=by
 simp only [Array.getD_eq_getD_getElem?,Array.getElem?_setIfInBounds_ne h]
def R7:Op→List Nat
 | .store _ x y=>tmO x++tmO y
 | .box _ x=>tmO x
 | .makeSlice _ x y=>tmO x++tmO y
 | op=>n4 op
def X8 (sv:List SV) (i:Nat):SV:=sv.getD i .any
def B35:List Oper→List SV→Fr→Fr
 | o::l,s::sv,fr=>match o.dst with
  | some d=>(d,s)::B35 l sv fr
  | none=>B35 l sv fr
 | _,_,fr=>fr
abbrev Xe:=List (Nat × Bool × (Nat × Ob))
def xAt:Xe→Nat→Option (Bool × (Nat × Ob))
 | [],_=>none
 | (i,x)::r,e=>cond (Nat.beq i e) (some x) (xAt r e)
def obD (xe:Xe) (ob:Obs):List Nat→Obs
 | []=>ob
 | e::D=>match xAt xe e with
  | some x=>x.2::obD xe ob D
  | none=>obD xe ob D
def t7 (e:Nat):List Nat→List Nat
 | []=>[e]
 | d::D=>cond (Nat.blt d e) (e::d::D) (d::t7 e D)
def a7 (l:List Nat) (e:Nat):Bool:=l.any (Nat.beq e)
theorem hasN_iff {l:List Nat} {e:Nat}:a7 l e=true↔e∈l:=by
 unfold a7
 rw [List.any_eq_true]
 exact ⟨fun ⟨x,h,he⟩=>by rw [Nat.eq_of_beq_eq_true he];exact h,fun h=>⟨e,h,Nat.beq_refl e⟩⟩
def A57 (ops:Array Oper) (E:List Nat) (i:Nat) (D:List Nat):Bool:=!(a7 D i)&&((E.all fun j=>!(Bef ops i j)||a7 D j)&&D.all fun j=>!(Bef ops j i))
def l7:List Nat→List Nat→Bool
 | [],[]=>true
 | a::l,b::m=>Nat.beq a b&&l7 l m
 | _,_=>false
theorem t8:∀{l m:List Nat},l7 l m=true→l=m
 | [],[],_=>rfl
 | [],_::_,h=>by simp [l7] at h
 | _::_,[],h=>by simp [l7] at h
 | a::l,b::m,h=>by
  simp only [l7,G08] at h
  rw [Nat.eq_of_beq_eq_true h.1,t8 h.2]
def memM (M:List (List Nat)) (D:List Nat):Bool:=M.any (l7 D)
theorem B36 {M:List (List Nat)} {D:List Nat} (h:memM M D=true):D∈M:=by
 obtain ⟨x,h1,h2⟩:=List.any_eq_true.1 h
 rw [t8 h2];exact h1
def lexD (E:List Nat) (i:Nat):List Nat:=E.filter fun e=>Nat.blt e i
def desc:List Nat→Bool
 | []=>true
 | a::l=>l.all (fun b=>Nat.blt b a)&&desc l
def W4:List Oper→List Nat
 | []=>[]
 | o::l=>match o.dst with
  | some d=>d::W4 l
  | none=>W4 l
def A58:List Nat→Bool
 | []=>true
 | a::l=>!(a7 l a)&&A58 l
def D54 (nt:Nat) (l:List Oper) (E:List Nat) (M:List (List Nat)) (req:List (Nat × List Nat)):Bool :=
 let ops:=l.toArray
 let n:=l.length
 (l.all fun o=>o.guard.isNone&&match o.dst with | some d=>Nat.blt d nt | none=>true) &&
 ((List.range n).all fun i=>match ops[i]? with
  | some o=>(turns o.op == a7 E i)&&((turns o.op||o.dst.isSome)&&(((R7 o.op).all fun u=>(List.range n).all fun j=>match ops[j]? with
    | some oj=>(match oj.dst with | some d=>!(Nat.beq d u)||Bef ops i j | none=>true)
    | none=>true) &&
   ((List.range n).all fun j=>!(Bef ops i j)||Nat.blt j i)&&((o.after.toList.all fun e=>!(Region.binds .any e)||Nat.blt e.on i)&&(M.all fun D=>!(A57 ops E i D)||(l7 D (lexD E i)||req.any fun p=>Nat.beq p.1 i&&l7 p.2 D)))))
  | none=>false) &&
 A58 (W4 l)&&desc E&&(E.all fun e=>Nat.blt e n)&&memM M []&&(M.all fun D=>E.all fun e=>!(A57 ops E e D)||memM M (t7 e D))
section
variable {P:Program} {nt:Nat}
def EffQ (P:Program) (nt:Nat) (ops:Array Oper) (o:Oper) (U:Fr) (new:Bool) (ob:Obs) (x:Nat × Ob) (s:SV):Prop :=
 ∀φ,Told U φ→(new=true→A55 x.1 φ)→u9 P nt ops o φ ob (fun φ' ob''=>φ'=(match o.dst with | some d=>P2 φ d s | none=>φ)∧ob''=x::ob)
theorem F06 {ops:Array Oper} {U:Fr} {k:Nat} {e:TypeId} {z:Value} [hz:TyZero P e z] {ty:TypeId} {pos:String} {af:Array Edge} {al:Nat} {ob:Obs} (h2:M4 k ob=true) (hd:Nat.blt al nt=true) :
  EffQ P nt ops ⟨some al,.alloc e,ty,pos,af,none⟩ U true ob (k,.box (z.cells.toList.map fun c=>.p (.v c))) (.s (.one (.ref k 0))) :=
 fun φ _ hf=>C31 (hf rfl) h2 hd
theorem q_store {ops:Array Oper} {U:Fr} {op:Op} {ty:TypeId} {pos:String} {af:Array Edge} {ob:Obs} {x:Nat × Ob} (h:EffU P ⟨none,op,ty,pos,af,none⟩ U ob (x::ob)):EffQ P nt ops ⟨none,op,ty,pos,af,none⟩ U false ob x .any :=
 fun φ hU _=>D11 h rfl rfl hU
def UIn (l:List Oper) (sv:List SV) (fr:Fr) (o:Oper) (U:Fr):Prop :=
 ∀t s,C9 U t=some s→t∈R7 o.op∧((∃j o',l[j]?=some o'∧o'.dst=some t∧s=X8 sv j)∨(t∉W4 l∧C9 fr t=some s))
def ObG (P:Program) (nt:Nat) (l:List Oper) (sv:List SV) (xe:Xe) (fr:Fr) (ob:Obs) (i:Nat) (D:List Nat):Prop :=
 ∃o U,l[i]?=some o∧UIn l sv fr o U∧((turns o.op=false∧Neu P o U (obD xe ob D) (fun s=>s=X8 sv i)) ∨
  ∃new x,xAt xe i=some (new,x)∧EffQ P nt l.toArray o U new (obD xe ob D) x (X8 sv i))
def Ob1 (P:Program) (nt:Nat) (l:List Oper) (sv:List SV) (xe:Xe) (fr:Fr) (ob:Obs) (i:Nat) (D:List Nat):Prop :=
 ∃o,l[i]?=some o∧((turns o.op=false∧Neu P o (M7 (B35 l sv fr) (R7 o.op)) (obD xe ob D) (fun s=>s=X8 sv i)) ∨
  ∃new x,xAt xe i=some (new,x)∧EffQ P nt l.toArray o (M7 (B35 l sv fr) (R7 o.op)) new (obD xe ob D) x (X8 sv i))
def Ob1s (P:Program) (nt:Nat) (l:List Oper) (sv:List SV) (xe:Xe) (fr:Fr) (ob:Obs):List (Nat × List Nat)→Prop
 | []=>True
 | (i,D)::r=>Ob1 P nt l sv xe fr ob i D∧Ob1s P nt l sv xe fr ob r
theorem Ob1s.get {l:List Oper} {sv:List SV} {xe:Xe} {fr:Fr} {ob:Obs}:∀{r:List (Nat × List Nat)},Ob1s P nt l sv xe fr ob r→∀p∈r,Ob1 P nt l sv xe fr ob p.1 p.2
 | [],_,p,hp=>by simp at hp
 | (i,D)::r,h,p,hp=>by
  rcases List.mem_cons.1 hp with rfl | hp
  ·exact h.1
  ·exact Ob1s.get h.2 p hp
def frBut (ops:Array Oper) (e:Nat) (sv:List SV) (fr:Fr):Fr :=
 (((List.range ops.size).filter fun j=>!(Nat.beq j e)&&!(Bef ops j e)).map fun j=>(j,X8 sv j))++fr
def B67 (ops:Array Oper) (sv:List SV) (fr:Fr):Xe→Bool
 | []=>true
 | (e,new,x)::r=>(!new||G8 x.1 (frBut ops e sv fr))&&B67 ops sv fr r
def E65 (xe:Xe) (M:List (List Nat)):Bool :=
 M.all fun D=>xe.all fun p=>D.all fun e=>a7 D p.1||!(Nat.blt p.1 e)||(match xAt xe e with | some x=>!(Nat.beq x.2.1 p.2.2.1) | none=>true)
theorem D55 {xe:Xe} {e:Nat} {x:Bool × (Nat × Ob)} (h:xAt xe e=some x):(e,x)∈xe:=by
 induction xe with
 | nil=>cases h
 | cons y r ih =>
  obtain ⟨i,y⟩:=y
  unfold xAt at h
  cases hb:Nat.beq i e
  ·rw [hb] at h;exact List.mem_cons_of_mem _ (ih h)
  ·rw [hb] at h
   have h:some y=some x:=h
   cases h
   rw [Nat.eq_of_beq_eq_true hb];exact List.mem_cons_self ..
theorem E04 {xe : Xe} {ob:Obs} {e:Nat} {new:Bool} {x:Nat × Ob} (he:xAt xe e=some (new,x)):∀{D:List Nat},(∀d∈D,e < d→∀y,xAt xe d=some y→y.2.1≠x.1)→∀k o,C8 (obD xe ob (t7 e D)) k=some o→C8 (x::obD xe ob D) k=some o
 | [],_,k,o,h=>by
  simp only [t7,obD,he] at h
  exact h
 | d :: D,hk,k,o,h=>by
  unfold t7 at h
  cases hb:Nat.blt d e
  ·rw [hb] at h
   simp only [cond] at h
   have ih:=E04 (ob:=ob) he (D:=D) (fun d' hd'=>hk d' (List.mem_cons_of_mem _ hd'))
   have hge : e ≤ d:=by
    cases Nat.lt_or_ge d e with
    | inl h' => have:Nat.blt d e=true:=by simpa using h'
                rw [this] at hb;cases hb
    | inr h'=>exact h'
   unfold obD at h ⊢
   cases hx:xAt xe d with
   | none=>rw [hx] at h;exact ih k o h
   | some y =>
    rw [hx] at h
    simp only at h ⊢
    obtain ⟨ny,ky,oy⟩:=y
    obtain ⟨kx,ox⟩:=x
    by_cases hky:ky=k
    ·rw [show ((ny,ky,oy):Bool × (Nat × Ob)).2=(ky,oy) from rfl] at h ⊢
     rw [hky,E4] at h
     by_cases hed:e=d
     ·subst hed
      rw [hx] at he
      cases he
      rw [hky,E4];exact h
     ·have hne:=hk d (List.mem_cons_self ..) (by omega) _ hx
      have hne:ky≠kx:=hne
      rw [C6 (by omega),hky,E4];exact h
    ·rw [show ((ny,ky,oy):Bool × (Nat × Ob)).2=(ky,oy) from rfl] at h ⊢
     rw [C6 hky] at h
     have:=ih k o h
     by_cases hkx:kx=k
     ·rw [hkx,E4] at this ⊢;exact this
     ·rw [C6 hkx] at this
      rw [C6 hkx,C6 hky];exact this
  ·rw [hb] at h
   simp only [cond] at h
   have:obD xe ob (e::d::D)=x::obD xe ob (d::D):=by
    show (match xAt xe e with | some x=>x.2::obD xe ob (d::D) | none=>obD xe ob (d::D))=_
    rw [he]
   rw [this] at h;exact h
theorem B06 {e:Nat} {listed:Array Bool} (hsz:e < listed.size) (hun:listed.getD e false=false):∀{E:List Nat},desc E=true→e∈E→E.filter (fun j=>(listed.setIfInBounds e true).getD j false)=t7 e (E.filter fun j=>listed.getD j false)
 | [],_,he=>by simp at he
 | d::E,hd,he=>by
  simp only [desc,G08] at hd
  have hlt:∀b∈E,b < d:=fun b hb=>by simpa using List.all_eq_true.1 hd.1 b hb
  have hsame:(listed.setIfInBounds e true).getD e false=true:=by simp [hsz]
  have hoth:∀j,j≠e→(listed.setIfInBounds e true).getD j false=listed.getD j false:=fun j hj=>Y8 (Ne.symm hj)
  by_cases hde:d=e
  ·subst hde
   rw [List.filter_cons_of_pos (by exact hsame),List.filter_cons_of_neg (by rw [hun];simp)]
   have:E.filter (fun j=>(listed.setIfInBounds d true).getD j false)=E.filter fun j=>listed.getD j false:=by
    apply List.filter_congr
    intro j hj
    exact hoth j (by have:=hlt j hj;omega)
   rw [this]
   cases hE:E.filter fun j=>listed.getD j false with
   | nil=>rfl
   | cons a r =>
    have ha:a∈E:=(List.mem_filter.1 (by rw [hE];exact List.mem_cons_self ..)).1
    have hba:Nat.blt a d=true:=by simpa using hlt a ha
    unfold t7;rw [hba];rfl
  ·have heE:e∈E:=(List.mem_cons.1 he).resolve_left (fun q=>hde q.symm)
   have ih:=B06 hsz hun hd.2 heE
   have hed:Nat.blt d e=false:=by
    have:=hlt e heE
    cases hb:Nat.blt d e
    ·rfl
    ·rw [Nat.blt_eq] at hb;omega
   by_cases hl:listed.getD d false=true
   ·rw [List.filter_cons_of_pos (by rw [hoth d hde];exact hl),List.filter_cons_of_pos (by exact hl),ih]
    show _=t7 e (d::_)
    conv=>rhs;unfold t7
    rw [hed];rfl
   ·rw [List.filter_cons_of_neg (by rw [hoth d hde];exact hl),List.filter_cons_of_neg (by exact hl),ih]
theorem A02:∀{l:List Oper} {j:Nat} {o:Oper} {d:Nat},l[j]?=some o→o.dst=some d→d∈W4 l
 | [],j,o,d,h,_=>by simp at h
 | o'::l,0,o,d,h,hd=>by
  simp at h;subst h
  unfold W4;rw [hd];exact List.mem_cons_self ..
 | o'::l,j+1,o,d,h,hd=>by
  have:=A02 (l:=l) (j:=j) (by simpa using h) hd
  unfold W4
  split
  ·exact List.mem_cons_of_mem _ this
  ·exact this
theorem B07:∀{l:List Oper} {i j:Nat} {o o':Oper} {d:Nat},A58 (W4 l)=true→l[i]?=some o→l[j]?=some o'→o.dst=some d→o'.dst=some d→i=j
 | [],i,j,o,o',d,_,h,_,_,_=>by simp at h
 | q::l,0,0,_,_,_,_,_,_,_,_=>rfl
 | q::l,0,j+1,o,o',d,hn,h1,h2,h3,h4=>by
  simp at h1;subst h1
  have hm:=A02 (l:=l) (j:=j) (by simpa using h2) h4
  unfold W4 at hn;rw [h3] at hn
  simp only [A58,G08,Bool.not_eq_true'] at hn
  rw [hasN_iff.2 hm] at hn;exact absurd hn.1 (by simp)
 | q::l,i+1,0,o,o',d,hn,h1,h2,h3,h4=>by
  simp at h2;subst h2
  have hm:=A02 (l:=l) (j:=i) (by simpa using h1) h3
  unfold W4 at hn;rw [h4] at hn
  simp only [A58,G08,Bool.not_eq_true'] at hn
  rw [hasN_iff.2 hm] at hn;exact absurd hn.1 (by simp)
 | q::l,i+1,j+1,o,o',d,hn,h1,h2,h3,h4=>by
  have:A58 (W4 l)=true:=by
   unfold W4 at hn
   split at hn
   ·simp only [A58,G08] at hn;exact hn.2
   ·exact hn
  exact congrArg (·+1) (B07 this (by simpa using h1) (by simpa using h2) h3 h4)
theorem D13:∀{l:List Oper} {sv:List SV} {fr:Fr} {t:Nat} {s:SV},sv.length=l.length→C9 (B35 l sv fr) t=some s→(∃j o,l[j]?=some o∧o.dst=some t∧s=X8 sv j)∨(t∉W4 l∧C9 fr t=some s)
 | [],[],fr,t,s,_,h=>.inr ⟨by simp [W4],h⟩
 | [],_::_,_,_,_,hl,_=>by simp at hl
 | _::_,[],_,_,_,hl,_=>by simp at hl
 | o :: l,s0::sv,fr,t,s,hl,h=>by
  have hrec:C9 (B35 l sv fr) t=some s→(∃j o',(o::l)[j]?=some o'∧o'.dst=some t∧s=X8 (s0::sv) j)∨(t∉W4 l∧C9 fr t=some s):=fun h'=>by
   rcases D13 (by simpa using hl) h' with ⟨j,o',h1,h2,h3⟩ | h1
   ·exact .inl ⟨j+1,o',by simpa using h1,h2,by rw [h3];simp [X8]⟩
   ·exact .inr h1
  unfold B35 at h
  cases hd:o.dst with
  | none =>
   rw [hd] at h
   rcases hrec h with h1 | ⟨h1,h2⟩
   ·exact .inl h1
   ·exact .inr ⟨by unfold W4;rw [hd];exact h1,h2⟩
  | some d =>
   rw [hd] at h
   have h:C9 ((d,s0)::B35 l sv fr) t=some s:=h
   by_cases hdt:d=t
   ·subst hdt
    rw [D1] at h
    cases h
    exact .inl ⟨0,o,rfl,hd,rfl⟩
   ·rw [C0 hdt] at h
    rcases hrec h with h1 | ⟨h1,h2⟩
    ·exact .inl h1
    ·refine .inr ⟨?_,h2⟩
     unfold W4;rw [hd]
     intro q
     rcases List.mem_cons.1 q with q | q
     ·exact hdt q.symm
     ·exact h1 q
theorem SimF.weakO {S:Ctx} {φ:Fa} {ob ob':Obs} {G:Gh} {a:Act} {w:World} (h:SimF P S φ ob G a w) (ho:∀k o,C8 ob' k=some o→C8 ob k=some o):SimF P S φ ob' G a w:=by
 refine ⟨h.1.weakenO ho,fun i s hi=>?_⟩
 have h1:Sim P S [(i,s)] ob G a w:=h.sub fun j t hj=>by
  by_cases he:i=j
  ·subst he;rw [D1] at hj;cases hj;exact hi
  ·rw [C0 he] at hj;simp [C9] at hj
 exact (h1.weakenO ho).facts i s (D1 _ _ _)
structure InvC (l:List Oper) (sv:List SV) (fr:Fr) (listed:Array Bool) (φ:Fa):Prop where
 put:∀j o d,l[j]?=some o→listed.getD j false=true→o.dst=some d→φ d=some (X8 sv j)
 from':∀t s,φ t=some s→(∃j o,l[j]?=some o∧listed.getD j false=true∧o.dst=some t∧s=X8 sv j)∨C9 fr t=some s
 old:∀t s,C9 fr t=some s→t∉W4 l→φ t=some s
def unl (listed:Array Bool) (n:Nat):Nat:=(List.range n).countP fun i=>!(listed.getD i false)
theorem D56 {listed:Array Bool} {i:Nat} (hs:i < listed.size) (hu:listed.getD i false=false):∀{n:Nat},i < n→unl (listed.setIfInBounds i true) n+1=unl listed n
 | 0,h=>by omega
 | n+1,h=>by
  unfold unl
  rw [List.range_succ,List.countP_append,List.countP_append]
  have h1:∀j,j≠i→(listed.setIfInBounds i true).getD j false=listed.getD j false:=fun j hj=>Y8 (Ne.symm hj)
  by_cases hin:i < n
  ·have ih:=D56 hs hu hin
   unfold unl at ih
   have e:List.countP (fun i_1=>!(listed.setIfInBounds i true).getD i_1 false) [n]=List.countP (fun i=>!listed.getD i false) [n]:=by
    simp only [List.countP_cons,List.countP_nil,h1 n (by omega)]
   rw [e];omega
  ·obtain rfl:i=n:=by omega
   have e:List.countP (fun i_1=>!(listed.setIfInBounds i true).getD i_1 false) (List.range i)=List.countP (fun i=>!listed.getD i false) (List.range i):=by
    apply List.countP_congr
    intro j hj
    rw [h1 j (by have:=List.mem_range.1 hj;omega)]
   rw [e]
   have e2:(listed.setIfInBounds i true).getD i false=true:=by simp [hs]
   simp only [List.countP_cons,List.countP_nil,e2,hu]
   simp
theorem C87 {id:Nat} {l:List Oper} {fr:Fr} {ob:Obs} {Q:Post} (sv:List SV) (xe:Xe) (M:List (List Nat)) (req:List (Nat × List Nat)) (hm:P.follows .mixedOrders=true) (hsv:sv.length=l.length)
  (hB:D54 nt l (xe.map (·.1)) M req=true) (h1:∀i,i < l.length→ObG P nt l sv xe fr ob i (lexD (xe.map (·.1)) i)) (hfree:B67 l.toArray sv fr xe=true) (hkeys:E65 xe M=true) (h2:Ob1s P nt l sv xe fr ob req)
  {fr':Fr} (hfr':∀t s,C9 fr' t=some s→(∃j o',l[j]?=some o'∧o'.dst=some t∧s=X8 sv j)∨(t∉W4 l∧C9 fr t=some s)) (hQ:Q .normal fr' (obD xe ob (xe.map (·.1)))):WpC P nt (.region id l.toArray true) fr ob Q:=by
 intro S G a w hn hs
 obtain ⟨E,hE⟩:∃E,E=xe.map (·.1):=⟨_,rfl⟩
 rw [←hE] at hB h1 hQ
 unfold D54 at hB
 simp only [G08] at hB
 obtain ⟨⟨⟨⟨⟨⟨b1,b2⟩,b3⟩,b4⟩,b5⟩,b6⟩,b7⟩:=hB
 have hop:∀i o,l[i]?=some o→o.guard=none∧(∀d,o.dst=some d→d < nt)∧(turns o.op=a7 E i)∧(turns o.op=true∨∃d,o.dst=some d)∧(∀u∈R7 o.op,∀j oj,l[j]?=some oj→oj.dst=some u→Bef l.toArray i j=true) ∧
   (∀j,Bef l.toArray i j=true→j < i)∧(∀e∈o.after.toList,Region.binds .any e=true→e.on < i)∧(∀D∈M,A57 l.toArray E i D=true→D=lexD E i∨(i,D)∈req):=by
  intro i o ho
  have hlt:i < l.length:=(List.getElem?_eq_some_iff.1 ho).1
  have hmem:o∈l:=G30 ho
  have q1:=List.all_eq_true.1 b1 o hmem
  have q2:=List.all_eq_true.1 b2 i (List.mem_range.2 hlt)
  simp only [List.getElem?_toArray,ho] at q2
  simp only [G08] at q1 q2
  obtain ⟨q3,q4,q5,q6,q7⟩:=q2
  obtain ⟨q8,q9⟩:=q5
  refine ⟨by simpa using q1.1,?_,by simpa using q3,?_,?_,?_,?_,?_⟩
  ·intro d hd
   have:=q1.2
   rw [hd] at this
   simpa using this
  ·rcases (G32 _ _).mp q4 with h | h
   ·exact .inl h
   ·exact .inr (Option.isSome_iff_exists.1 h)
  ·intro u hu j oj hj hd
   have hjlt:j < l.length:=(List.getElem?_eq_some_iff.1 hj).1
   have:=List.all_eq_true.1 (List.all_eq_true.1 q8 u hu) j (List.mem_range.2 hjlt)
   simp only [hj,hd] at this
   simpa using this
  ·intro j hj
   rcases Nat.lt_or_ge j l.length with hjl | hjl
   ·have:=List.all_eq_true.1 q9 j (List.mem_range.2 hjl)
    rw [hj] at this
    simpa using this
   ·-- an operation is behind none that there isn't
    exfalso
    obtain ⟨o1,ho1,e1,he1,hb1,hh⟩:=C22 hj
    rw [List.getElem?_toArray,ho] at ho1
    cases ho1
    have hlt1:=List.all_eq_true.1 q6 e1 he1
    have hlt1:e1.on < i:=by rw [hb1] at hlt1;simpa using hlt1
    have chain:∀m,m < l.length→∀j,Bef l.toArray m j=true→j < l.length:=by
     intro m
     induction m using Nat.strongRecOn with
     | _ m ih =>
      intro hml j' hj'
      obtain ⟨o2,ho2,e2,he2,hb2,hh2⟩:=C22 hj'
      rw [List.getElem?_toArray] at ho2
      have r2:=List.all_eq_true.1 b2 m (List.mem_range.2 hml)
      simp only [List.getElem?_toArray,ho2] at r2
      simp only [G08] at r2
      have r6:=List.all_eq_true.1 r2.2.2.2.1 e2 he2
      have r6:e2.on < m:=by rw [hb2] at r6;simpa using r6
      rcases hh2 with e3 | ⟨h3,h4⟩
      ·omega
      ·exact ih e2.on r6 (by omega) j' h4
    have:=chain i hlt j hj
    omega
  ·intro e he hbe
   have:=List.all_eq_true.1 q6 e he
   rw [hbe] at this
   simpa using this
  ·intro D hD hp
   have:=List.all_eq_true.1 q7 D hD
   rw [hp] at this
   simp only [Bool.not_true,Bool.false_or,G32] at this
   rcases this with h | h
   ·exact .inl (t8 h)
   ·obtain ⟨p,hp1,hp2⟩:=List.any_eq_true.1 h
    simp only [G08] at hp2
    have e1:=Nat.eq_of_beq_eq_true hp2.1
    have e2:=t8 hp2.2
    obtain ⟨p1,p2⟩:=p
    simp only at e1 e2
    rw [←e1,←e2];exact .inr hp1
 have hob:∀i o,l[i]?=some o→∀D∈M,A57 l.toArray E i D=true→∃U,UIn l sv fr o U∧((turns o.op=false∧Neu P o U (obD xe ob D) (fun s=>s=X8 sv i)) ∨
   ∃new x,xAt xe i=some (new,x)∧EffQ P nt l.toArray o U new (obD xe ob D) x (X8 sv i)):=by
  intro i o ho D hD hp
  have hlt:i < l.length:=(List.getElem?_eq_some_iff.1 ho).1
  have:ObG P nt l sv xe fr ob i D:=by
   rcases (hop i o ho).2.2.2.2.2.2.2 D hD hp with rfl | h
   ·exact h1 i hlt
   ·obtain ⟨o',ho',h⟩:=h2.get _ h
    refine ⟨o',_,ho',fun t s ht=>⟨Y5 ht,D13 hsv (U7 ht)⟩,h⟩
  obtain ⟨o',U,ho',hU,h⟩:=this
  rw [ho] at ho';cases ho'
  exact ⟨U,hU,h⟩
 have hdst:∀(j t:Nat),(l.toArray[j]?).bind (fun o=>o.dst)=some t→t < nt:=by
  intro j t ht
  cases ho:l[j]? with
  | none=>simp [ho] at ht
  | some o=>simp [ho] at ht;exact (hop j o ho).2.1 t ht
 refine wp_region_any hm ?_
 have hxw:Below w.heap.size w { w with drawn:=w.drawn+1 }:=⟨rfl,rfl,rfl,Nat.le_refl _,fun _ _=>rfl⟩
 have hs':SimF P S (C9 fr) ob G a { w with drawn:=w.drawn+1 }:=(simF_iff.2 hs).ext hxw
 have key : ∀(fuel:Nat) (listed:Array Bool) (φ:Fa) (G:Gh) (a:Act) (w:World),listed.size=l.length→unl listed l.length=fuel→Closed l.toArray listed→(E.filter fun j=>listed.getD j false)∈M→InvC l sv fr listed φ→SimF P S φ (obD xe ob (E.filter fun j=>listed.getD j false)) G a w →
   wpAny P .any l.toArray (PostOf P S Q) fuel listed a w:=by
  intro fuel
  induction fuel with
  | zero =>
   intro listed φ G a w hsz hu hc hM hI hsf
   have hall:∀j,j < l.length→listed.getD j false=true:=by
    intro j hj
    unfold unl at hu
    have:=(List.countP_eq_zero.1 hu) j (List.mem_range.2 hj)
    simpa using this
   have hready:Region.ready .any l.toArray listed=[]:=by
    cases hr:Region.ready .any l.toArray listed with
    | nil=>rfl
    | cons i r =>
     exfalso
     have hi:i∈Region.ready .any l.toArray listed:=by rw [hr];exact List.mem_cons_self ..
     have h3:=H2 hi
     obtain ⟨_,o,ho,_⟩:=mem_ready.1 hi
     rw [List.getElem?_toArray] at ho
     rw [hall i (List.getElem?_eq_some_iff.1 ho).1] at h3;cases h3
   refine ⟨hready,?_⟩
   have hEl:(E.filter fun j=>listed.getD j false)=E:=by
    rw [List.filter_eq_self]
    intro e he
    exact hall e (by simpa using List.all_eq_true.1 b5 e he)
   rw [hEl] at hsf
   refine ⟨fr',obD xe ob E,G,hQ,simF_iff.1 ⟨hsf.1,fun t s ht=>hsf.2 t s ?_⟩⟩
   rcases hfr' t s ht with ⟨j,o,h3,h4,rfl⟩ | ⟨h3,h4⟩
   ·exact hI.put j o t h3 (hall j (List.getElem?_eq_some_iff.1 h3).1) h4
   ·exact hI.old t s h4 h3
  | succ fuel ih =>
   intro listed φ G a w hsz hu hc hM hI hsf
   refine ⟨fun h0=>?_,fun i hi=>?_⟩
   ·-- some operation is ready
    exfalso
    have hex:∃j,j < l.length∧listed.getD j false=false:=by
     refine Classical.byContradiction fun hno=>?_
     have:unl listed l.length=0:=by
      unfold unl
      refine List.countP_eq_zero.2 fun j hj=>?_
      have hj:=List.mem_range.1 hj
      cases hb:listed.getD j false
      ·exact absurd ⟨j,hj,hb⟩ hno
      ·simp
     omega
    have hmin:∀n,(∃j,j < n∧j < l.length∧listed.getD j false=false)→∃j,j < l.length∧listed.getD j false=false∧∀p,p < j→listed.getD p false=true:=by
     intro n
     induction n with
     | zero=>rintro ⟨j,hj,_⟩;omega
     | succ n ihn =>
      rintro ⟨j,hj,hjl,hjf⟩
      by_cases hlow:∃j',j' < n∧j' < l.length∧listed.getD j' false=false
      ·exact ihn hlow
      ·refine ⟨j,hjl,hjf,fun p hp=>?_⟩
       cases hb:listed.getD p false
       ·exact absurd ⟨p,by omega,by omega,hb⟩ hlow
       ·rfl
    obtain ⟨j,hj1,hj2⟩:=hex
    obtain ⟨j,hjl,hjf,hjp⟩:=hmin (j+1) ⟨j,by omega,hj1,hj2⟩
    have ho:l[j]?=some l[j]:=G09 hjl
    have hjr:j∈Region.ready .any l.toArray listed:=by
     refine mem_ready.2 ⟨?_,l[j],by rw [List.getElem?_toArray];exact ho,fun e he hb=>?_⟩
     ·have hsz2:j < listed.size:=by omega
      simp only [Array.getD_eq_getD_getElem?,Array.getElem?_eq_getElem hsz2] at hjf ⊢
      simpa using hjf
     ·have:=(hop j _ ho).2.2.2.2.2.2.1 e (Array.mem_toList_iff.2 he) hb
      exact hjp _ this
    rw [h0] at hjr;cases hjr
   ·have hiu:=H2 hi
    obtain ⟨_,o,ho,hall⟩:=mem_ready.1 hi
    rw [List.getElem?_toArray] at ho
    have hlt:i < l.length:=(List.getElem?_eq_some_iff.1 ho).1
    obtain ⟨g1,g2,g3,g4,g5,g6,g7,g8⟩:=hop i o ho
    obtain ⟨D,hD⟩:∃D,D=E.filter fun j=>listed.getD j false:=⟨_,rfl⟩
    rw [←hD] at hM hsf
    have hDl:∀e,e∈D↔e∈E∧listed.getD e false=true:=fun e=>by rw [hD,List.mem_filter]
    have hbi:∀j,Bef l.toArray i j=true→listed.getD j false=true:=fun j hj=>N4 hc i hj (fun o' ho' e he hb=>by
     rw [List.getElem?_toArray,ho] at ho';cases ho'
     exact hall e (Array.mem_toList_iff.1 he) hb)
    have hpo:A57 l.toArray E i D=true:=by
     unfold A57
     simp only [G08,Bool.not_eq_true',List.all_eq_true,G32]
     refine ⟨?_,fun j hj=>?_,fun j hj=>?_⟩
     ·cases hb:a7 D i
      ·rfl
      ·have:=((hDl i).1 (hasN_iff.1 hb)).2
       rw [hiu] at this;cases this
     ·cases hb:Bef l.toArray i j
      ·exact .inl rfl
      ·exact .inr (hasN_iff.2 ((hDl j).2 ⟨hj,hbi j hb⟩))
     ·cases hb:Bef l.toArray j i
      ·rfl
      ·have hjl:=((hDl j).1 hj).2
       have:listed.getD i false=true:=N4 hc j hb (fun o' ho' e he hbd=>hc j o' ho' hjl e he hbd)
       rw [hiu] at this;cases this
    have htoldU:∀U,UIn l sv fr o U→Told U φ:=by
     intro U hU t s ht
     obtain ⟨hus,h3⟩:=hU t s ht
     rcases h3 with ⟨j,oj,h3,h4,rfl⟩ | ⟨h3,h4⟩
     ·exact hI.put j oj t h3 (hbi j (g5 t hus j oj h3 h4)) h4
     ·exact hI.old t s h4 h3
    have hcl2:=G4 hc hi
    have hsz2:(listed.setIfInBounds i true).size=l.length:=by simpa using hsz
    have hul:unl (listed.setIfInBounds i true) l.length=fuel:=by
     have:=D56 (by omega) hiu hlt
     omega
    have hinv:∀φ',φ'=(match o.dst with | some d=>P2 φ d (X8 sv i) | none=>φ)→InvC l sv fr (listed.setIfInBounds i true) φ':=by
     intro φ' hφ
     have hset:∀j,(listed.setIfInBounds i true).getD j false=true↔j=i∨listed.getD j false=true:=by
      intro j
      by_cases hj:j=i
      ·subst hj
       simp only [true_or,iff_true]
       simp [show j < listed.size by omega]
      ·rw [Y8 (Ne.symm hj)]
       simp [hj]
     cases hdo:o.dst with
     | none =>
      rw [hdo] at hφ
      have hφ:φ'=φ:=hφ
      subst hφ
      refine ⟨fun j oj d h3 h4 h5=>?_,fun t s h3=>?_,hI.old⟩
      ·rcases (hset j).1 h4 with rfl | h4
       ·rw [ho] at h3;cases h3;rw [hdo] at h5;cases h5
       ·exact hI.put j oj d h3 h4 h5
      ·rcases hI.from' t s h3 with ⟨j,oj,h4,h5,h6⟩ | h4
       ·exact .inl ⟨j,oj,h4,(hset j).2 (.inr h5),h6⟩
       ·exact .inr h4
     | some d0 =>
      rw [hdo] at hφ
      have hφ:φ'=P2 φ d0 (X8 sv i):=hφ
      subst hφ
      refine ⟨fun j oj d h3 h4 h5=>?_,fun t s h3=>?_,fun t s h3 h4=>?_⟩
      ·unfold P2
       rcases (hset j).1 h4 with rfl | h4
       ·rw [ho] at h3;cases h3;rw [hdo] at h5;cases h5;rw [if_pos rfl]
       ·by_cases hdd:d=d0
        ·subst hdd
         have:=B07 b3 h3 ho h5 hdo
         subst this
         rw [if_pos rfl]
        ·rw [if_neg hdd];exact hI.put j oj d h3 h4 h5
      ·unfold P2 at h3
       by_cases hdd:t=d0
       ·rw [if_pos hdd] at h3;cases h3
        exact .inl ⟨i,o,ho,(hset i).2 (.inl rfl),by rw [hdd];exact hdo,rfl⟩
       ·rw [if_neg hdd] at h3
        rcases hI.from' t s h3 with ⟨j,oj,h4,h5,h6⟩ | h4
        ·exact .inl ⟨j,oj,h4,(hset j).2 (.inr h5),h6⟩
        ·exact .inr h4
      ·unfold P2
       have:t≠d0:=fun q=>h4 (by rw [q];exact A02 ho hdo)
       rw [if_neg this];exact hI.old t s h3 h4
    unfold wpOp
    simp only [List.getElem?_toArray,ho]
    rw [if_pos (by simp [Region.wanted,g1])]
    obtain ⟨U,hU,hob'⟩:=hob i o ho D hM hpo
    have htold:=htoldU U hU
    rcases hob' with ⟨ht,hneu⟩ | ⟨new,x,hx,hq⟩
    ·refine .inl (K1 (hneu S G a w (hsf.sub fun t s ht=>htold t s ht)) ?_)
     rintro v w' ⟨hxw2,s,rfl,hv⟩
     have hnE:a7 E i=false:=by rw [←g3];exact ht
     have hDe:(E.filter fun j=>(listed.setIfInBounds i true).getD j false)=D:=by
      rw [hD]
      apply List.filter_congr
      intro j hj
      have:j≠i:=fun q=>by rw [←q,hasN_iff.2 hj] at hnE;cases hnE
      exact Y8 (Ne.symm this)
     obtain ⟨d0,hd0⟩:=g4.resolve_left (by rw [ht];simp)
     rw [hd0]
     refine ih (listed.setIfInBounds i true) (P2 φ d0 (X8 sv i)) G _ w' hsz2 hul hcl2 (by rw [hDe];exact hM) (hinv _ (by rw [hd0])) ?_
     rw [hDe]
     exact (hsf.ext hxw2).put (by rw [hn];exact g2 d0 hd0) hv
    ·have hiE:i∈E:=by rw [hE];exact List.mem_map.2 ⟨_,D55 hx,rfl⟩
     have hDe:(E.filter fun j=>(listed.setIfInBounds i true).getD j false)=t7 i D:=by
      rw [hD];exact B06 (by omega) hiu b4 hiE
     have hM2:t7 i D∈M:=by
      have:=List.all_eq_true.1 (List.all_eq_true.1 b7 D hM) i hiE
      rw [hpo] at this
      exact B36 (by simpa using this)
     have hfr:new=true→A55 x.1 φ:=by
      intro hnew
      have hf:∀(xs:Xe),B67 l.toArray sv fr xs=true→(i,new,x)∈xs→G8 x.1 (frBut l.toArray i sv fr)=true:=by
       intro xs
       induction xs with
       | nil=>intro _ h;simp at h
       | cons y r ihx =>
        obtain ⟨e',n',x'⟩:=y
        intro hok hmem
        simp only [B67,G08,G32] at hok
        rcases List.mem_cons.1 hmem with q | q
        ·cases q
         rcases hok.1 with q | q
         ·rw [hnew] at q;simp at q
         ·exact q
        ·exact ihx hok.2 q
      have hfe:=hf xe hfree (D55 hx)
      unfold frBut at hfe
      have hap:∀(a b:Fr),G8 x.1 (a++b)=true→G8 x.1 a=true∧G8 x.1 b=true:=by
       intro a b
       induction a with
       | nil=>intro h;exact ⟨rfl,h⟩
       | cons y r iha =>
        obtain ⟨j,s⟩:=y
        intro h
        simp only [G39,G8,G08] at h ⊢
        exact ⟨⟨h.1,(iha h.2).1⟩,(iha h.2).2⟩
      obtain ⟨hf1,hf2⟩:=hap _ _ hfe
      intro t s hts
      rcases hI.from' t s hts with ⟨j,oj,h4,h5,h6,rfl⟩ | h4
      ·have hmemf:∀(a:List Nat),G8 x.1 (a.map fun j=>(j,X8 sv j))=true→j∈a→(X8 sv j).free x.1=true:=by
        intro a
        induction a with
        | nil=>intro _ h;simp at h
        | cons y r iha =>
         intro hok hmem
         simp only [G15,G8,G08] at hok
         rcases List.mem_cons.1 hmem with rfl | q
         ·exact hok.1
         ·exact iha hok.2 q
       refine hmemf _ hf1 (List.mem_filter.2 ⟨List.mem_range.2 ?_,?_⟩)
       ·simpa using (List.getElem?_eq_some_iff.1 h4).1
       ·have hji:j≠i:=fun q=>by rw [q,hiu] at h5;cases h5
        have hbf:Bef l.toArray j i=false:=by
         cases hb:Bef l.toArray j i
         ·rfl
         ·have:listed.getD i false=true:=N4 hc j hb (fun o' ho' e he hbd=>hc j o' ho' h5 e he hbd)
          rw [hiu] at this;cases this
        rw [K9 hji,hbf];rfl
      ·exact B33 hf2 t s h4
     obtain ⟨_,hstep⟩:=hq φ htold hfr
     refine .inl (K1 (hstep S G a w hn hsf) ?_)
     rintro v w' ⟨φ',ob'',G',⟨hφ,rfl⟩,hs2⟩
     refine ih (listed.setIfInBounds i true) φ' G' _ w' hsz2 hul hcl2 (by rw [hDe];exact hM2) (hinv φ' hφ) ?_
     rw [hDe]
     refine hs2.weakO (E04 hx ?_)
     intro d hd hid y hy
     have hk:=List.all_eq_true.1 (List.all_eq_true.1 (List.all_eq_true.1 hkeys D hM) _ (D55 hx)) d hd
     simp only [G32,Bool.not_eq_true'] at hk
     rcases hk with (hk | hk) | hk
     ·have:=((hDl i).1 (hasN_iff.1 hk)).2
      rw [hiu] at this;cases this
     ·have:Nat.blt i d=true:=by simpa using hid
      rw [this] at hk;cases hk
     ·rw [hy] at hk
      intro q
      simp only [Bool.not_eq_true'] at hk
      rw [q,Nat.beq_refl] at hk;cases hk
 have hlist0:∀j,(Array.replicate l.length false).getD j false=false:=by
  intro j
  simp only [Array.getD_eq_getD_getElem?]
  rcases Nat.lt_or_ge j l.length with h' | h'
  ·simp [h']
  ·simp [h']
 have hf0:(E.filter fun j=>(Array.replicate l.length false).getD j false)=[]:=by
  rw [List.filter_eq_nil_iff];intro e _;rw [hlist0];simp
 have hu0:unl (Array.replicate l.length false) l.length=l.length:=by
  unfold unl
  have:(List.range l.length).countP (fun i=>!(Array.replicate l.length false).getD i false)=(List.range l.length).length:=by
   rw [List.countP_eq_length];intro i _;rw [hlist0];rfl
  rw [this,List.length_range]
 have:=key l.length (Array.replicate l.length false) (C9 fr) G a _ (by simp) hu0 (fun j o ho hl=>by rw [hlist0] at hl;cases hl) (by rw [hf0];exact B36 b6) ⟨fun j o d _ h4 _=>(by rw [hlist0] at h4;cases h4),fun t s h3=>.inr h3,fun t s h3 _=>h3⟩ (by rw [hf0];exact hs')
 simpa using this
def C38 (P:Program) (nt:Nat) (ops:Array Oper) (K:Fr→Obs→List SV→Xe→Prop):Nat→List Oper→Fr→Obs→List SV→Xe→Prop
 | _,[],fr,ob,sv,xe=>K fr ob sv.reverse xe
 | i,o::l,fr,ob,sv,xe =>
  (turns o.op=false∧∃s d,o.dst=some d∧Neu P o (M7 fr (R7 o.op)) ob (fun s'=>s'=s)∧C38 P nt ops K (i+1) l ((d,s)::fr) ob (s::sv) xe) ∨
  (∃new x s,EffQ P nt ops o (M7 fr (R7 o.op)) new ob x s∧C38 P nt ops K (i+1) l (match o.dst with | some d=>(d,s)::fr | none=>fr) (x::ob) (s::sv) ((i,new,x)::xe))
def l8:List Oper→List SV→Fr→Fr
 | o::l,s::sv,fr=>l8 l sv (match o.dst with | some d=>(d,s)::fr | none=>fr)
 | _,_,fr=>fr
theorem B68:∀{l:List Oper} {sv:List SV} {fr:Fr} {t:Nat} {s:SV},sv.length=l.length→C9 (l8 l sv fr) t=some s→(∃j o,l[j]?=some o∧o.dst=some t∧s=X8 sv j)∨(t∉W4 l∧C9 fr t=some s)
 | [],[],fr,t,s,_,h=>.inr ⟨by simp [W4],h⟩
 | [],_::_,_,_,_,hl,_=>by simp at hl
 | _::_,[],_,_,_,hl,_=>by simp at hl
 | o :: l,s0::sv,fr,t,s,hl,h=>by
  unfold l8 at h
  rcases B68 (by simpa using hl) h with ⟨j,o',h1,h2,h3⟩ | ⟨h1,h2⟩
  ·exact .inl ⟨j+1,o',by simpa using h1,h2,by rw [h3];simp [X8]⟩
  ·cases hd:o.dst with
   | none =>
    rw [hd] at h2
    exact .inr ⟨by unfold W4;rw [hd];exact h1,h2⟩
   | some d =>
    rw [hd] at h2
    have h2:C9 ((d,s0)::fr) t=some s:=h2
    by_cases hdt:d=t
    ·subst hdt
     rw [D1] at h2
     cases h2
     exact .inl ⟨0,o,rfl,hd,rfl⟩
    ·rw [C0 hdt] at h2
     refine .inr ⟨?_,h2⟩
     unfold W4;rw [hd]
     intro q
     rcases List.mem_cons.1 q with q | q
     ·exact hdt q.symm
     ·exact h1 q
def At1 (P:Program) (nt:Nat) (ops:Array Oper) (o:Oper) (i:Nat) (fr:Fr) (ob:Obs) (s:SV) (xe:Xe):Prop :=
 (turns o.op=false∧Neu P o (M7 fr (R7 o.op)) ob (fun s'=>s'=s))∨∃new x,xAt xe i=some (new,x)∧EffQ P nt ops o (M7 fr (R7 o.op)) new ob x s
def obsX (ob:Obs):Xe→Obs
 | []=>ob
 | (_,_,x)::r=>x::obsX ob r
theorem F07 {a b:Xe} {e:Nat} (h:∀p∈a,p.1≠e):xAt (a++b) e=xAt b e:=by
 induction a with
 | nil=>rfl
 | cons y r ih =>
  obtain ⟨i,y⟩:=y
  have h1:i≠e:=h (i,y) (List.mem_cons_self ..)
  show cond (Nat.beq i e) (some y) (xAt (r++b) e)=_
  rw [K9 h1]
  exact ih fun p hp=>h p (List.mem_cons_of_mem _ hp)
theorem C39 {ops:Array Oper} {K:Fr→Obs→List SV→Xe→Prop} {ob0:Obs}:∀{l:List Oper} {i:Nat} {fr:Fr} {ob:Obs} {sv:List SV} {xe:Xe},C38 P nt ops K i l fr ob sv xe→ob=obsX ob0 xe→(∀p∈xe,p.1 < i) →
  ∃sv' xe',sv'.length=l.length∧(∀p∈xe',i≤p.1∧p.1 < i+l.length)∧desc (xe'.map (·.1))=true∧K (l8 l sv' fr) (obsX ob0 (xe'++xe)) (sv.reverse++sv') (xe'++xe) ∧
   ∀j o,l[j]?=some o→∃xa xb,xe'=xa++xb∧(∀p∈xb,p.1 < i+j)∧(∀p∈xa,i+j≤p.1)∧At1 P nt ops o (i+j) (l8 (l.take j) (sv'.take j) fr) (obsX ob0 (xb++xe)) (X8 sv' j) xe'
 | [],i,fr,ob,sv,xe,h,hob,_=>by
  refine ⟨[],[],rfl,by simp,rfl,?_,fun j o ho=>by simp at ho⟩
  rw [G38,G36,←hob];exact h
 | o :: l,i,fr,ob,sv,xe,h,hob,hx=>by
  rcases h with ⟨ht,s,d,hd,hn,hr⟩ | ⟨new,x,s,hq,hr⟩
  ·obtain ⟨sv',xe',h1,h2,h3,h4,h5⟩:=C39 (ob0:=ob0) hr hob (fun p hp=>by have:=hx p hp;omega)
   have hacc:l8 (o::l) (s::sv') fr=l8 l sv' ((d,s)::fr):=by
    show l8 l sv' (match o.dst with | some d=>(d,s)::fr | none=>fr)=_
    rw [hd]
   refine ⟨s::sv',xe',by simp [h1],fun p hp=>by have:=h2 p hp;simp only [G10];omega,h3,?_,?_⟩
   ·rw [hacc]
    simpa using h4
   ·intro j o' ho'
    cases j with
    | zero =>
     simp at ho';subst ho'
     refine ⟨xe',[],by simp,by simp,fun p hp=>by have:=h2 p hp;omega,?_⟩
     rw [G36,←hob]
     exact .inl ⟨ht,hn⟩
    | succ j =>
     obtain ⟨xa,xb,e1,e2,e3,e4⟩:=h5 j o' (by simpa using ho')
     refine ⟨xa,xb,e1,fun p hp=>by have:=e2 p hp;omega,fun p hp=>by have:=e3 p hp;omega,?_⟩
     have e5:l8 ((o::l).take (j+1)) ((s::sv').take (j+1)) fr=l8 (l.take j) (sv'.take j) ((d,s)::fr):=by
      show l8 (l.take j) (sv'.take j) (match o.dst with | some d=>(d,s)::fr | none=>fr)=_
      rw [hd]
     rw [e5,show i+(j+1)=i+1+j by omega,show X8 (s::sv') (j+1)=X8 sv' j by simp [X8]]
     exact e4
  ·obtain ⟨sv',xe',h1,h2,h3,h4,h5⟩:=C39 (ob0:=ob0) hr (by rw [hob];rfl) (fun p hp=>by
    rcases List.mem_cons.1 hp with rfl | hp
    ·exact Nat.lt_succ_self _
    ·have:=hx p hp;omega)
   refine ⟨s::sv',xe'++[(i,new,x)],by simp [h1],?_,?_,?_,?_⟩
   ·intro p hp
    rcases List.mem_append.1 hp with hp | hp
    ·have:=h2 p hp;simp only [G10];omega
    ·simp at hp;subst hp;simp only [G10];omega
   ·have hda:∀(a:List Nat) (b:Nat),desc a=true→(∀x∈a,b < x)→desc (a++[b])=true:=by
     intro a b
     induction a with
     | nil=>intro _ _;rfl
     | cons y r ih =>
      intro h6 h7
      simp only [desc,G08] at h6
      simp only [G39,desc,G08]
      refine ⟨List.all_eq_true.2 fun z hz=>?_,ih h6.2 fun x hx=>h7 x (List.mem_cons_of_mem _ hx)⟩
      rcases List.mem_append.1 hz with hz | hz
      ·exact List.all_eq_true.1 h6.1 z hz
      ·simp at hz;subst hz;simpa using h7 y (List.mem_cons_self ..)
    rw [G27]
    refine hda _ i h3 fun y hy=>?_
    obtain ⟨p,hp,rfl⟩:=List.mem_map.1 hy
    have:=h2 p hp;omega
   ·have e:l8 (o::l) (s::sv') fr=l8 l sv' (match o.dst with | some d=>(d,s)::fr | none=>fr):=rfl
    rw [e]
    simpa using h4
   ·intro j o' ho'
    cases j with
    | zero =>
     simp at ho';subst ho'
     refine ⟨xe'++[(i,new,x)],[],by simp,by simp,?_,?_⟩
     ·intro p hp
      rcases List.mem_append.1 hp with hp | hp
      ·have:=h2 p hp;omega
      ·simp at hp;subst hp;simp
     ·rw [G36,←hob]
      refine .inr ⟨new,x,?_,hq⟩
      rw [F07 (fun p hp=>by have:=h2 p hp;omega)]
      show cond (Nat.beq i (i+0)) _ _=_
      rw [Nat.add_zero,Nat.beq_refl];rfl
    | succ j =>
     obtain ⟨xa,xb,e1,e2,e3,e4⟩:=h5 j o' (by simpa using ho')
     refine ⟨xa,xb++[(i,new,x)],by rw [e1];simp,?_,fun p hp=>by have:=e3 p hp;omega,?_⟩
     ·intro p hp
      rcases List.mem_append.1 hp with hp | hp
      ·have:=e2 p hp;omega
      ·simp at hp;subst hp;simp
     ·have e5:l8 ((o::l).take (j+1)) ((s::sv').take (j+1)) fr=l8 (l.take j) (sv'.take j) (match o.dst with | some d=>(d,s)::fr | none=>fr):=rfl
      rw [e5,show i+(j+1)=i+1+j by omega,show X8 (s::sv') (j+1)=X8 sv' j by simp [X8],G28]
      rcases e4 with e4 | ⟨n',x',e6,e7⟩
      ·exact .inl e4
      ·refine .inr ⟨n',x',?_,e7⟩
       have hxe:∀(a b:Xe) (e:Nat) y,xAt a e=some y→xAt (a++b) e=some y:=by
        intro a b e y
        induction a with
        | nil=>intro h;cases h
        | cons z r ih =>
         obtain ⟨q,z⟩:=z
         intro h
         show cond (Nat.beq q e) (some z) (xAt (r++b) e)=_
         unfold xAt at h
         cases hb:Nat.beq q e
         ·rw [hb] at h;exact ih h
         ·rw [hb] at h;exact h
       exact hxe _ _ _ _ e6
def Rest1 (P:Program) (nt:Nat) (l:List Oper) (M:List (List Nat)) (req:List (Nat × List Nat)) (E:List Nat) (fr0:Fr) (ob0:Obs) (Q:Post) (fr:Fr) (ob:Obs) (sv:List SV) (xe:Xe):Prop :=
 (l7 (xe.map (·.1)) E&&(B67 l.toArray sv fr0 xe&&E65 xe M))=true∧Ob1s P nt l sv xe fr0 ob0 req∧Q .normal fr ob
theorem E05 {ob:Obs}:∀{xe:Xe},desc (xe.map fun p=>p.1)=true→obD xe ob (xe.map fun p=>p.1)=obsX ob xe:=by
 have key:∀(all:Xe) (xe:Xe),(∀p∈xe,xAt all p.1=some p.2)→obD all ob (xe.map (·.1))=obsX ob xe:=by
  intro all xe
  induction xe with
  | nil=>intro _;rfl
  | cons y r ih =>
   intro h
   obtain ⟨i,n,x⟩:=y
   have h1:=h (i,n,x) (List.mem_cons_self ..)
   have h1:xAt all i=some (n,x):=h1
   show (match xAt all i with | some x=>x.2::obD all ob (r.map (fun p:Nat × Bool × (Nat × Ob)=>p.1)) | none=>obD all ob (r.map (fun p:Nat × Bool × (Nat × Ob)=>p.1)))=_
   rw [h1,ih fun p hp=>h p (List.mem_cons_of_mem _ hp)]
   rfl
 intro xe h
 refine key xe xe ?_
 have look:∀(xe:Xe),desc (xe.map (·.1))=true→∀p∈xe,xAt xe p.1=some p.2:=by
  intro xe
  induction xe with
  | nil=>intro _ p hp;simp at hp
  | cons y r ih =>
   intro h p hp
   obtain ⟨i,y⟩:=y
   simp only [G15,desc,G08] at h
   rcases List.mem_cons.1 hp with rfl | hp
   ·show cond (Nat.beq i i) (some y) _=_
    rw [Nat.beq_refl];rfl
   ·have hlt:p.1 < i:=by simpa using List.all_eq_true.1 h.1 p.1 (List.mem_map.2 ⟨p,hp,rfl⟩)
    show cond (Nat.beq i p.1) (some y) (xAt r p.1)=_
    rw [K9 (by omega)]
    exact ih h.2 p hp
 exact look xe h
theorem obD_low {ob:Obs} {xa xb:Xe} {j:Nat} (hd:desc ((xa++xb).map (·.1))=true) (ha:∀p∈xa,j≤p.1) (hb:∀p∈xb,p.1 < j):obD (xa++xb) ob (lexD ((xa++xb).map (·.1)) j)=obsX ob xb:=by
 have e:lexD ((xa++xb).map (·.1)) j=xb.map (·.1):=by
  unfold lexD
  rw [G27,List.filter_append,List.filter_eq_nil_iff.2,G36,List.filter_eq_self.2]
  ·intro y hy
   obtain ⟨p,hp,rfl⟩:=List.mem_map.1 hy
   simpa using hb p hp
  ·intro y hy
   obtain ⟨p,hp,rfl⟩:=List.mem_map.1 hy
   have:=ha p hp
   simp;omega
 rw [e]
 have hd2:desc (xb.map (·.1))=true:=by
  have:∀(a b:List Nat),desc (a++b)=true→desc b=true:=by
   intro a b
   induction a with
   | nil=>exact fun h=>h
   | cons y r ih=>intro h;simp only [G39,desc,G08] at h;exact ih h.2
  rw [G27] at hd
  exact this _ _ hd
 rw [←E05 (ob:=ob) hd2]
 have hl:∀(D:List Nat),(∀e∈D,e < j)→obD (xa++xb) ob D=obD xb ob D:=by
  intro D
  induction D with
  | nil=>intro _;rfl
  | cons e D ih =>
   intro h
   have h1:xAt (xa++xb) e=xAt xb e:=F07 fun p hp=>by
    have:=ha p hp
    have:=h e (List.mem_cons_self ..)
    omega
   show (match xAt (xa++xb) e with | some x=>x.2::obD (xa++xb) ob D | none=>obD (xa++xb) ob D)=(match xAt xb e with | some x=>x.2::obD xb ob D | none=>obD xb ob D)
   rw [h1,ih fun e' he'=>h e' (List.mem_cons_of_mem _ he')]
 refine hl _ fun e he=>?_
 obtain ⟨p,hp,rfl⟩:=List.mem_map.1 he
 exact hb p hp
theorem B37 {id:Nat} {l:List Oper} {fr:Fr} {ob:Obs} {Q:Post} (E:List Nat) (M:List (List Nat)) (req:List (Nat × List Nat)) (hm:P.follows .mixedOrders=true)
  (hB:D54 nt l E M req=true) (h:C38 P nt l.toArray (Rest1 P nt l M req E fr ob Q) 0 l fr ob [] []):WpC P nt (.region id l.toArray true) fr ob Q:=by
 obtain ⟨sv,xe,h1,h2,h3,h4,h5⟩:=C39 (ob0:=ob) h rfl (fun p hp=>by simp at hp)
 rw [G38,List.reverse_nil,G36] at h4
 obtain ⟨hc,hreq,hQ⟩:=h4
 simp only [G08] at hc
 have hE:=t8 hc.1
 have hcf:=hB
 unfold D54 at hcf
 simp only [G08] at hcf
 obtain ⟨⟨⟨⟨⟨⟨b1,b2⟩,b3⟩,b4⟩,b5⟩,b6⟩,b7⟩:=hcf
 refine C87 sv xe M req hm h1 (by rw [hE];exact hB) ?_ hc.2.1 hc.2.2 hreq (fr':=l8 l sv fr) (fun t s ht=>B68 h1 ht) (by rw [E05 h3];exact hQ)
 intro i hi
 have ho:l[i]?=some l[i]:=G09 hi
 obtain ⟨xa,xb,e1,e2,e3,e4⟩:=h5 i _ ho
 rw [Nat.zero_add] at e2 e3 e4
 rw [G38] at e4
 have hob:obD xe ob (lexD (xe.map (·.1)) i)=obsX ob xb:=by
  rw [e1] at h3 ⊢
  exact obD_low h3 e3 e2
 have hU:UIn l sv fr l[i] (M7 (l8 (l.take i) (sv.take i) fr) (R7 l[i].op)):=by
  intro t s ht
  have hus:=Y5 ht
  refine ⟨hus,?_⟩
  have q2:=List.all_eq_true.1 b2 i (List.mem_range.2 hi)
  simp only [List.getElem?_toArray,ho] at q2
  simp only [G08] at q2
  obtain ⟨q3,q4,q5,q6,q7⟩:=q2
  rcases B68 (by rw [G17,G17];omega) (U7 ht) with ⟨j,o',h6,h7,h8⟩ | ⟨h6,h7⟩
  ·have hj:j < i:=by
    have:=(List.getElem?_eq_some_iff.1 h6).1
    rw [G17] at this;omega
   rw [G16 hj] at h6
   refine .inl ⟨j,o',h6,h7,?_⟩
   rw [h8];unfold X8
   rw [G13,G13,G16 hj]
  ·refine .inr ⟨?_,h7⟩
   intro hin
   have hex:∀(m:List Oper) (t:Nat),t∈W4 m→∃(j:Nat) (o':Oper),m[j]?=some o'∧o'.dst=some t:=by
    intro m t
    induction m with
    | nil=>intro h;simp [W4] at h
    | cons o m ih =>
     intro h
     unfold W4 at h
     cases hd:o.dst with
     | none=>rw [hd] at h;obtain ⟨j,o',h1,h2⟩:=ih h;exact ⟨j+1,o',by simpa using h1,h2⟩
     | some d =>
      rw [hd] at h
      rcases List.mem_cons.1 h with rfl | h
      ·exact ⟨0,o,rfl,hd⟩
      ·obtain ⟨j,o',h1,h2⟩:=ih h;exact ⟨j+1,o',by simpa using h1,h2⟩
   obtain ⟨j,o',h8,h9⟩:=hex l t hin
   have hjl:j < l.length:=(List.getElem?_eq_some_iff.1 h8).1
   have hbf:=List.all_eq_true.1 (List.all_eq_true.1 q5.1 t hus) j (List.mem_range.2 hjl)
   simp only [h8,h9] at hbf
   have hbf:Bef l.toArray i j=true:=by simpa using hbf
   have hlt:=List.all_eq_true.1 q5.2 j (List.mem_range.2 hjl)
   rw [hbf] at hlt
   have hlt:j < i:=by simpa using hlt
   exact h6 (A02 (l:=l.take i) (j:=j) (by rw [G16 hlt];exact h8) h9)
 refine ⟨l[i],_,ho,hU,?_⟩
 rw [hob]
 rcases e4 with ⟨e5,e6⟩ | ⟨n,x,e5,e6⟩
 ·exact .inl ⟨e5,e6⟩
 ·exact .inr ⟨n,x,e5,e6⟩
theorem V0 {ops:Array Oper} {K:Fr→Obs→List SV→Xe→Prop} {i d:Nat} {l:List Oper} {fr:Fr} {ob:Obs} {sv:List SV} {xe:Xe} {op:Op} {ty:TypeId} {pos:String} {af:Array Edge} {gd:Option (Nat × Bool)} {s:SV} (ht:turns op=false)
  (h:Neu P ⟨some d,op,ty,pos,af,gd⟩ (M7 fr (R7 op)) ob (fun s'=>s'=s)) (k:C38 P nt ops K (i+1) l ((d,s)::fr) ob (s::sv) xe):C38 P nt ops K i (⟨some d,op,ty,pos,af,gd⟩::l) fr ob sv xe :=
 .inl ⟨ht,s,d,rfl,h,k⟩
theorem D57 {ops:Array Oper} {K:Fr→Obs→List SV→Xe→Prop} {i al:Nat} {l:List Oper} {fr:Fr} {ob:Obs} {sv:List SV} {xe:Xe} {ty:TypeId} {pos:String} {af:Array Edge} (k:Nat) {e:TypeId} {z:Value} [hz:TyZero P e z] (h2:M4 k ob=true) (hd:Nat.blt al nt=true)
  (kk:C38 P nt ops K (i+1) l ((al,.s (.one (.ref k 0)))::fr) ((k,.box (z.cells.toList.map fun c=>.p (.v c)))::ob) ((.s (.one (.ref k 0)))::sv) ((i,true,(k,.box (z.cells.toList.map fun c=>.p (.v c))))::xe)) :
  C38 P nt ops K i (⟨some al,.alloc e,ty,pos,af,none⟩::l) fr ob sv xe :=
 .inr ⟨true,_,_,F06 h2 hd,kk⟩
theorem D58 {ops:Array Oper} {K:Fr→Obs→List SV→Xe→Prop} {i:Nat} {l:List Oper} {fr:Fr} {ob:Obs} {sv:List SV} {xe:Xe} {op:Op} {ty:TypeId} {pos:String} {af:Array Edge} {x:Nat × Ob} (h:EffU P ⟨none,op,ty,pos,af,none⟩ (M7 fr (R7 op)) ob (x::ob))
  (kk:C38 P nt ops K (i+1) l fr (x::ob) (.any::sv) ((i,false,x)::xe)):C38 P nt ops K i (⟨none,op,ty,pos,af,none⟩::l) fr ob sv xe :=
 .inr ⟨false,x,.any,q_store h,kk⟩
theorem a_nil {ops:Array Oper} {l:List Oper} {M:List (List Nat)} {req:List (Nat × List Nat)} {E:List Nat} {fr0:Fr} {ob0:Obs} {Q:Post} {i:Nat} {fr:Fr} {ob:Obs} {sv:List SV} {xe:Xe}
  (hc:(l7 (xe.map (·.1)) E&&(B67 l.toArray sv.reverse fr0 xe&&E65 xe M))=true) (h2:Ob1s P nt l sv.reverse xe fr0 ob0 req) (h3:Q .normal fr ob):C38 P nt ops (Rest1 P nt l M req E fr0 ob0 Q) i [] fr ob sv xe:=⟨hc,h2,h3⟩
theorem o_nil {l:List Oper} {sv:List SV} {xe:Xe} {fr:Fr} {ob:Obs}:Ob1s P nt l sv xe fr ob []:=trivial
theorem J1 {l:List Oper} {sv:List SV} {xe:Xe} {fr:Fr} {ob:Obs} {i:Nat} {D:List Nat} {r:List (Nat × List Nat)} {o:Oper} (ho:l[i]?=some o) (ht:turns o.op=false) (h:Neu P o (M7 (B35 l sv fr) (R7 o.op)) (obD xe ob D) (fun s'=>s'=X8 sv i))
  (k:Ob1s P nt l sv xe fr ob r):Ob1s P nt l sv xe fr ob ((i,D)::r):=⟨⟨o,ho,.inl ⟨ht,h⟩⟩,k⟩
theorem F08 {l:List Oper} {sv:List SV} {xe:Xe} {fr:Fr} {ob:Obs} {i:Nat} {D:List Nat} {r:List (Nat × List Nat)} {al k:Nat} {e:TypeId} {z:Value} {ty:TypeId} {pos:String} {af:Array Edge} (ho:l[i]?=some ⟨some al,.alloc e,ty,pos,af,none⟩) [hz:TyZero P e z]
  (hx:xAt xe i=some (true,(k,.box (z.cells.toList.map fun c=>.p (.v c))))) (h2:M4 k (obD xe ob D)=true) (hd:Nat.blt al nt=true) (hs:X8 sv i=.s (.one (.ref k 0)))
  (kk:Ob1s P nt l sv xe fr ob r):Ob1s P nt l sv xe fr ob ((i,D)::r):=⟨⟨_,ho,.inr ⟨true,_,hx,by rw [hs];exact F06 h2 hd⟩⟩,kk⟩
end
end Go.AL
namespace Go.AL
open Go Go.RowKit
set_option linter.unusedVariables false
section
variable {P:Program} {dst:Option Tmp} {ty:TypeId} {pos:String} {af:Array Edge} {gd:Option (Nat × Bool)} {fr:Fr} {ob:Obs}
section
variable {nt:Nat} {ops:Array Oper} {rest:List Oper} {Q:Post} {d:Nat}
end
class TyMap (P:Program) (t:TypeId) (kt:outParam TypeId) (kd:outParam TypeDesc) (z:outParam Value):Prop where
 out:∃et,P.underlying t=some (.map kt et)∧P.underlying kt=some kd∧(P.info? et).bind (·.zero)=some z∧z.oneCell'=true
end
end Go.AL
namespace Go.AL
open Go Go.RowKit
set_option linter.unusedVariables false
section
variable {P:Program} {dst:Option Tmp} {ty:TypeId} {pos:String} {af:Array Edge} {gd:Option (Nat × Bool)} {fr:Fr} {ob:Obs}
end
end Go.AL
namespace Go.AL
open Go Go.RowKit
set_option linter.unusedVariables false
abbrev Mo:=List (List Nat × Obs)
def U1:Mo→List Nat→Option Obs
 | [],_=>none
 | (D',ob)::r,D=>cond (l7 D' D) (some ob) (U1 r D)
abbrev Sv:=List (Nat × SV)
def O4:Sv→Nat→Option SV
 | [],_=>none
 | (i,s)::r,j=>cond (Nat.beq i j) (some s) (O4 r j)
abbrev Ed:=List (Nat × (List Nat × List Nat))
def c7:Ed→Nat→List Nat × List Nat
 | [],_=>([],[])
 | (i,x)::r,e=>cond (Nat.beq i e) x (c7 r e)
def c8 (ks:List Nat) (fr:Fr):Fr:=fr.filter fun p=>!(a7 ks p.1)
theorem getF_dropK {ks:List Nat}:∀{fr:Fr} {t:Nat} {s:SV},C9 (c8 ks fr) t=some s↔t∉ks∧C9 fr t=some s
 | [],t,s=>by simp [c8,C9]
 | (i,x)::r,t,s=>by
  have ih:=getF_dropK (ks:=ks) (fr:=r) (t:=t) (s:=s)
  unfold c8 at ih ⊢
  cases hh:a7 ks i
  ·rw [List.filter_cons_of_pos (by simp [hh])]
   by_cases he:i=t
   ·subst he
    rw [D1,D1]
    have:i∉ks:=fun q=>by rw [hasN_iff.2 q] at hh;cases hh
    simp [this]
   ·rw [C0 he,C0 he];exact ih
  ·rw [List.filter_cons_of_neg (by simp [hh])]
   rw [ih]
   by_cases he:i=t
   ·subst he
    have:i∈ks:=hasN_iff.1 hh
    simp [this]
   ·rw [C0 he]
def F09 (U frc:Fr):Prop:=∀t s,C9 U t=some s→C9 frc t=some s
def EffR (P:Program) (nt:Nat) (o:Oper) (U:Fr) (ks kills:List Nat) (ob ob':Obs) (s:SV):Prop :=
 ∀frc,F09 U frc→(∀k∈ks,∀t x,C9 frc t=some x→t∉kills→x.free k=true)→∀S G a w,S.nt=nt→Sim P S frc ob G a w →
  Does P o a w (fun v w'=>∃G',Sim P S (c8 kills frc) ob' G' a w'∧∀d,o.dst=some d→s.rep (E2 (Mut S ob' G') w') G' v)
def B08 (l:List Oper):Sv→Fr→Fr
 | [],fr=>fr
 | (i,s)::r,fr=>match (l[i]?).bind (·.dst) with
  | some d=>(d,s)::B08 l r fr
  | none=>B08 l r fr
def A03 (l:List Oper) (svs:Sv) (o:Oper):Bool :=
 (R7 o.op).all fun u=>(List.range l.length).all fun j=>match (l[j]?).bind (·.dst) with
  | some d=>!(Nat.beq d u)||(O4 svs j).isSome
  | none=>true
def UIn2 (l:List Oper) (svs:Sv) (fr:Fr) (o:Oper) (U:Fr):Prop :=
 ∀t s,C9 U t=some s→t∈R7 o.op∧((∃j o',l[j]?=some o'∧o'.dst=some t∧O4 svs j=some s)∨(t∉W4 l∧C9 fr t=some s))
def obIn2 (obT ob:Obs):Prop:=∀k o,C8 obT k=some o→C8 ob k=some o
section
variable {P:Program} {nt:Nat}
theorem C40 {l:List Oper} {fr:Fr}:∀{svs:Sv} {t:Nat} {s:SV},C9 (B08 l svs fr) t=some s→(∃j o,O4 svs j=some s∧l[j]?=some o∧o.dst=some t)∨(C9 fr t=some s∧∀j o,O4 svs j≠none→l[j]?=some o→o.dst≠some t)
 | [],t,s,h=>.inr ⟨h,fun j o hj=>absurd rfl hj⟩
 | (i,x)::r,t,s,h=>by
  unfold B08 at h
  have hlift:(∀d,(l[i]?).bind (·.dst)=some d→d≠t)→C9 (B08 l r fr) t=some s→(∃j o,O4 ((i,x)::r) j=some s∧l[j]?=some o∧o.dst=some t)∨(C9 fr t=some s∧∀j o,O4 ((i,x)::r) j≠none→l[j]?=some o→o.dst≠some t):=by
   intro hd h
   rcases C40 h with ⟨j,o,h1,h2,h3⟩ | ⟨h1,h2⟩
   ·left
    refine ⟨j,o,?_,h2,h3⟩
    have hij:i≠j:=fun e=>by
     subst e
     rw [h2] at hd
     exact hd t (by simpa using h3) rfl
    show cond (Nat.beq i j) _ _=_
    rw [K9 hij];exact h1
   ·right
    refine ⟨h1,fun j o hj ho hdo=>?_⟩
    by_cases hij:i=j
    ·subst hij
     rw [ho] at hd
     exact hd t (by simpa using hdo) rfl
    ·have hj:cond (Nat.beq i j) (some x) (O4 r j)≠none:=hj
     rw [K9 hij] at hj
     exact h2 j o hj ho hdo
  split at h
  ·rename_i d hd
   by_cases hdt:d=t
   ·subst hdt
    rw [D1] at h
    cases h
    cases ho:l[i]? with
    | none=>rw [ho] at hd;cases hd
    | some o =>
     rw [ho] at hd
     exact .inl ⟨i,o,by show cond (Nat.beq i i) _ _=_;rw [Nat.beq_refl];rfl,ho,by simpa using hd⟩
   ·rw [C0 hdt] at h
    exact hlift (fun d' hd'=>by rw [hd] at hd';cases hd';exact hdt) h
  ·rename_i hd
   exact hlift (fun d' hd'=>by rw [hd] at hd';cases hd') h
theorem B38:∀{l:List Oper} {t:Nat},t∈W4 l→∃(j:Nat) (o:Oper),l[j]?=some o∧o.dst=some t
 | [],t,h=>by simp [W4] at h
 | o::l,t,h=>by
  unfold W4 at h
  cases hd:o.dst with
  | none=>rw [hd] at h;obtain ⟨j,o',h1,h2⟩:=B38 h;exact ⟨j+1,o',by simpa using h1,h2⟩
  | some d =>
   rw [hd] at h
   rcases List.mem_cons.1 h with rfl | h
   ·exact ⟨0,o,rfl,hd⟩
   ·obtain ⟨j,o',h1,h2⟩:=B38 h;exact ⟨j+1,o',by simpa using h1,h2⟩
theorem C10 {l:List Oper} {svs:Sv} {fr:Fr} {o:Oper} (h:A03 l svs o=true):UIn2 l svs fr o (M7 (B08 l svs fr) (R7 o.op)):=by
 intro t s ht
 have hus:=Y5 ht
 refine ⟨hus,?_⟩
 rcases C40 (U7 ht) with ⟨j,o',h1,h2,h3⟩ | ⟨h1,h2⟩
 ·exact .inl ⟨j,o',h2,h3,h1⟩
 ·refine .inr ⟨fun hin=>?_,h1⟩
  obtain ⟨j,o',h3,h4⟩:=B38 hin
  have:=List.all_eq_true.1 (List.all_eq_true.1 h t hus) j (List.mem_range.2 (List.getElem?_eq_some_iff.1 h3).1)
  rw [h3] at this
  simp only [Option.bind_some,h4,Nat.beq_refl,Bool.not_true,Bool.false_or] at this
  exact h2 j o' (fun e=>by rw [e] at this;cases this) h3 h4
def Task (P:Program) (nt:Nat) (l:List Oper) (fr:Fr) (svs:Sv) (E:List Nat) (ed:Ed) (i:Nat) (ob:Obs) (s:SV) (T:Obs→Prop):Prop :=
 ∃o U,l[i]?=some o∧UIn2 l svs fr o U∧((a7 E i=false∧Neu P o U ob (fun s'=>s'=s))∨(a7 E i=true∧∃ob',EffR P nt o U (c7 ed i).1 (c7 ed i).2 ob ob' s∧T ob'))
def conf2 (nt:Nat) (l:List Oper) (E:List Nat) (Ms:List (List Nat)) (ed:Ed) (tasks:List (Nat × List Nat)):Bool :=
 let ops:=l.toArray
 let n:=l.length
 (l.all fun o=>o.guard.isNone&&match o.dst with | some d=>Nat.blt d nt | none=>true) &&
 ((List.range n).all fun i=>match ops[i]? with
  | some o=>(a7 E i||o.dst.isSome)&&(((R7 o.op).all fun u=>((List.range n).all fun j=>match ops[j]? with
    | some oj=>(match oj.dst with | some d=>!(Nat.beq d u)||Bef ops i j | none=>true)
    | none=>true)&&E.all fun e=>Nat.beq e i||!(a7 (c7 ed e).2 u)||Bef ops e i) &&
   ((o.after.toList.all fun e=>!(Region.binds .any e)||Nat.blt e.on i)&&(Ms.all fun D=>!(A57 ops E i D)||tasks.any fun p=>Nat.beq p.1 i&&l7 p.2 D)))
  | none=>false) &&
 A58 (W4 l)&&desc E&&(E.all fun e=>Nat.blt e n)&&memM Ms []&&(Ms.all fun D=>E.all fun e=>!(A57 ops E e D)||memM Ms (t7 e D))
structure InvK (l:List Oper) (E:List Nat) (svs:Sv) (ed:Ed) (fr:Fr) (listed:Array Bool) (frc:Fr):Prop where
 put:∀j o d s,l[j]?=some o→listed.getD j false=true→o.dst=some d→O4 svs j=some s→(∀e∈E,listed.getD e false=true→d∉(c7 ed e).2)→C9 frc d=some s
 from':∀t s,C9 frc t=some s→(∃j o,l[j]?=some o∧listed.getD j false=true∧o.dst=some t∧O4 svs j=some s)∨C9 fr t=some s
 old:∀t s,C9 fr t=some s→t∉W4 l→(∀e∈E,listed.getD e false=true→t∉(c7 ed e).2)→C9 frc t=some s
def D14 (l:List Oper) (ops:Array Oper) (svs:Sv) (fr:Fr):Ed→Bool
 | []=>true
 | (e,ks,kills)::r=>(ks.all fun k=>((List.range ops.size).all fun j=>Nat.beq j e||Bef ops j e||match (l[j]?).bind (·.dst),O4 svs j with
   | some d,some s=>a7 kills d||s.free k
   | _,_=>true)&&fr.all fun p=>a7 kills p.1||p.2.free k)&&D14 l ops svs fr r
theorem c_core {id:Nat} {l:List Oper} {fr:Fr} {ob0:Obs} {Q:Post} (E:List Nat) (Ms:List (List Nat)) (ed:Ed) (tasks:List (Nat × List Nat)) (svs:Sv) (M:Mo) (hm:P.follows .mixedOrders=true)
  (hB:conf2 nt l E Ms ed tasks=true) (hed:∀e∈E,∃x,(e,x)∈ed∧c7 ed e=x) (hfree:D14 l l.toArray svs fr ed=true) (h0:U1 M []=some ob0)
  (ht:∀p∈tasks,∃ob s,U1 M p.2=some ob∧O4 svs p.1=some s∧Task P nt l fr svs E ed p.1 ob s (fun ob'=>∃obT,U1 M (t7 p.1 p.2)=some obT∧obIn2 obT ob'))
  {fr':Fr} {obE:Obs} (hobE:U1 M E=some obE) (hfr':∀t s,C9 fr' t=some s→(∀e∈E,t∉(c7 ed e).2)∧((∃j o',l[j]?=some o'∧o'.dst=some t∧O4 svs j=some s)∨(t∉W4 l∧C9 fr t=some s)))
  (hQ:Q .normal fr' obE):WpC P nt (.region id l.toArray true) fr ob0 Q:=by
 intro S G a w hn hs
 unfold conf2 at hB
 simp only [G08] at hB
 obtain ⟨⟨⟨⟨⟨⟨b1,b2⟩,b3⟩,b4⟩,b5⟩,b6⟩,b7⟩:=hB
 have hop:∀i o,l[i]?=some o→o.guard=none∧(∀d,o.dst=some d→d < nt)∧(a7 E i=true∨∃d,o.dst=some d)∧(∀u∈R7 o.op,∀j oj,l[j]?=some oj→oj.dst=some u→Bef l.toArray i j=true) ∧
   (∀u∈R7 o.op,∀e∈E,e≠i→u∈(c7 ed e).2→Bef l.toArray e i=true)∧(∀e∈o.after.toList,Region.binds .any e=true→e.on < i)∧(∀D∈Ms,A57 l.toArray E i D=true→(i,D)∈tasks):=by
  intro i o ho
  have hlt:i < l.length:=(List.getElem?_eq_some_iff.1 ho).1
  have hmem:o∈l:=G30 ho
  have q1:=List.all_eq_true.1 b1 o hmem
  have q2:=List.all_eq_true.1 b2 i (List.mem_range.2 hlt)
  simp only [List.getElem?_toArray,ho] at q2
  simp only [G08] at q1 q2
  obtain ⟨q4,q5,q6,q7⟩:=q2
  refine ⟨by simpa using q1.1,?_,?_,?_,?_,?_,?_⟩
  ·intro d hd
   have:=q1.2
   rw [hd] at this
   simpa using this
  ·rcases (G32 _ _).mp q4 with h | h
   ·exact .inl h
   ·exact .inr (Option.isSome_iff_exists.1 h)
  ·intro u hu j oj hj hd
   have hjlt:j < l.length:=(List.getElem?_eq_some_iff.1 hj).1
   have h5:=List.all_eq_true.1 q5 u hu
   simp only [G08] at h5
   have:=List.all_eq_true.1 h5.1 j (List.mem_range.2 hjlt)
   simp only [hj,hd] at this
   simpa using this
  ·intro u hu e he hei hk
   have h5:=List.all_eq_true.1 q5 u hu
   simp only [G08] at h5
   have:=List.all_eq_true.1 h5.2 e he
   rw [K9 hei,hasN_iff.2 hk] at this
   simpa using this
  ·intro e he hbe
   have:=List.all_eq_true.1 q6 e he
   rw [hbe] at this
   simpa using this
  ·intro D hD hp
   have:=List.all_eq_true.1 q7 D hD
   rw [hp] at this
   simp only [Bool.not_true,Bool.false_or] at this
   obtain ⟨p,hp1,hp2⟩:=List.any_eq_true.1 this
   simp only [G08] at hp2
   have e1:=Nat.eq_of_beq_eq_true hp2.1
   have e2:=t8 hp2.2
   obtain ⟨p1,p2⟩:=p
   simp only at e1 e2
   rw [←e1,←e2];exact hp1
 have hdst:∀(j t:Nat),(l.toArray[j]?).bind (fun o=>o.dst)=some t→t < nt:=by
  intro j t ht
  cases ho:l[j]? with
  | none=>simp [ho] at ht
  | some o=>simp [ho] at ht;exact (hop j o ho).2.1 t ht
 refine wp_region_any hm ?_
 have hxw:Below w.heap.size w { w with drawn:=w.drawn+1 }:=⟨rfl,rfl,rfl,Nat.le_refl _,fun _ _=>rfl⟩
 have key : ∀(fuel:Nat) (listed:Array Bool) (frc:Fr) (ob:Obs) (G:Gh) (a:Act) (w:World),listed.size=l.length→unl listed l.length=fuel→Closed l.toArray listed→(E.filter fun j=>listed.getD j false)∈Ms→U1 M (E.filter fun j=>listed.getD j false)=some ob→InvK l E svs ed fr listed frc→Sim P S frc ob G a w →
   wpAny P .any l.toArray (PostOf P S Q) fuel listed a w:=by
  intro fuel
  induction fuel with
  | zero =>
   intro listed frc ob G a w hsz hu hc hM hob hI hsf
   have hall:∀j,j < l.length→listed.getD j false=true:=by
    intro j hj
    unfold unl at hu
    have:=(List.countP_eq_zero.1 hu) j (List.mem_range.2 hj)
    simpa using this
   have hready:Region.ready .any l.toArray listed=[]:=by
    cases hr:Region.ready .any l.toArray listed with
    | nil=>rfl
    | cons i r =>
     exfalso
     have hi:i∈Region.ready .any l.toArray listed:=by rw [hr];exact List.mem_cons_self ..
     have h3:=H2 hi
     obtain ⟨_,o,ho,_⟩:=mem_ready.1 hi
     rw [List.getElem?_toArray] at ho
     rw [hall i (List.getElem?_eq_some_iff.1 ho).1] at h3;cases h3
   refine ⟨hready,?_⟩
   have hEl:(E.filter fun j=>listed.getD j false)=E:=by
    rw [List.filter_eq_self]
    intro e he
    exact hall e (by simpa using List.all_eq_true.1 b5 e he)
   rw [hEl,hobE] at hob
   cases hob
   refine ⟨fr',obE,G,hQ,hsf.weaken fun t s ht=>?_⟩
   obtain ⟨hk,h3⟩:=hfr' t s ht
   rcases h3 with ⟨j,o,h3,h4,h5⟩ | ⟨h3,h4⟩
   ·exact hI.put j o t s h3 (hall j (List.getElem?_eq_some_iff.1 h3).1) h4 h5 (fun e he _=>hk e he)
   ·exact hI.old t s h4 h3 (fun e he _=>hk e he)
  | succ fuel ih =>
   intro listed frc ob G a w hsz hu hc hM hob hI hsf
   refine ⟨fun h0=>?_,fun i hi=>?_⟩
   ·exfalso
    have hex:∃j,j < l.length∧listed.getD j false=false:=by
     refine Classical.byContradiction fun hno=>?_
     have:unl listed l.length=0:=by
      unfold unl
      refine List.countP_eq_zero.2 fun j hj=>?_
      have hj:=List.mem_range.1 hj
      cases hb:listed.getD j false
      ·exact absurd ⟨j,hj,hb⟩ hno
      ·simp
     omega
    have hmin:∀n,(∃j,j < n∧j < l.length∧listed.getD j false=false)→∃j,j < l.length∧listed.getD j false=false∧∀p,p < j→listed.getD p false=true:=by
     intro n
     induction n with
     | zero=>rintro ⟨j,hj,_⟩;omega
     | succ n ihn =>
      rintro ⟨j,hj,hjl,hjf⟩
      by_cases hlow:∃j',j' < n∧j' < l.length∧listed.getD j' false=false
      ·exact ihn hlow
      ·refine ⟨j,hjl,hjf,fun p hp=>?_⟩
       cases hb:listed.getD p false
       ·exact absurd ⟨p,by omega,by omega,hb⟩ hlow
       ·rfl
    obtain ⟨j,hj1,hj2⟩:=hex
    obtain ⟨j,hjl,hjf,hjp⟩:=hmin (j+1) ⟨j,by omega,hj1,hj2⟩
    have ho:l[j]?=some l[j]:=G09 hjl
    have hjr:j∈Region.ready .any l.toArray listed:=by
     refine mem_ready.2 ⟨?_,l[j],by rw [List.getElem?_toArray];exact ho,fun e he hb=>?_⟩
     ·have hsz2:j < listed.size:=by omega
      simp only [Array.getD_eq_getD_getElem?,Array.getElem?_eq_getElem hsz2] at hjf ⊢
      simpa using hjf
     ·have:=(hop j _ ho).2.2.2.2.2.1 e (Array.mem_toList_iff.2 he) hb
      exact hjp _ this
    rw [h0] at hjr;cases hjr
   ·have hiu:=H2 hi
    obtain ⟨_,o,ho,hall⟩:=mem_ready.1 hi
    rw [List.getElem?_toArray] at ho
    have hlt:i < l.length:=(List.getElem?_eq_some_iff.1 ho).1
    obtain ⟨g1,g2,g4,g5,g6,g7,g8⟩:=hop i o ho
    obtain ⟨D,hD⟩:∃D,D=E.filter fun j=>listed.getD j false:=⟨_,rfl⟩
    rw [←hD] at hM hob
    have hDl:∀e,e∈D↔e∈E∧listed.getD e false=true:=fun e=>by rw [hD,List.mem_filter]
    have hbi:∀j,Bef l.toArray i j=true→listed.getD j false=true:=fun j hj=>N4 hc i hj (fun o' ho' e he hb=>by
     rw [List.getElem?_toArray,ho] at ho';cases ho'
     exact hall e (Array.mem_toList_iff.1 he) hb)
    have hlb:∀j,listed.getD j false=true→Bef l.toArray j i=true→False:=fun j hj hb=>by
     have:listed.getD i false=true:=N4 hc j hb (fun o' ho' e he hbd=>hc j o' ho' hj e he hbd)
     rw [hiu] at this;cases this
    have hpo:A57 l.toArray E i D=true:=by
     unfold A57
     simp only [G08,Bool.not_eq_true',List.all_eq_true,G32]
     refine ⟨?_,fun j hj=>?_,fun j hj=>?_⟩
     ·cases hb:a7 D i
      ·rfl
      ·have:=((hDl i).1 (hasN_iff.1 hb)).2
       rw [hiu] at this;cases this
     ·cases hb:Bef l.toArray i j
      ·exact .inl rfl
      ·exact .inr (hasN_iff.2 ((hDl j).2 ⟨hj,hbi j hb⟩))
     ·cases hb:Bef l.toArray j i
      ·rfl
      ·exact (hlb j ((hDl j).1 hj).2 hb).elim
    obtain ⟨ob1,s,hob1,hsv,o1,U,ho1,hU,htask⟩:=ht (i,D) (g8 D hM hpo)
    rw [hob] at hob1;cases hob1
    rw [ho] at ho1;cases ho1
    have hext:F09 U frc:=by
     intro t x hx
     obtain ⟨hus,h3⟩:=hU t x hx
     have hnk:∀e∈E,listed.getD e false=true→t∉(c7 ed e).2:=fun e he hel hk=>by
      by_cases hei:e=i
      ·rw [hei,hiu] at hel;cases hel
      ·exact hlb e hel (g6 t hus e he hei hk)
     rcases h3 with ⟨j,oj,h3,h4,h5⟩ | ⟨h3,h4⟩
     ·exact hI.put j oj t x h3 (hbi j (g5 t hus j oj h3 h4)) h4 h5 hnk
     ·exact hI.old t x h4 h3 hnk
    have hcl2:=G4 hc hi
    have hsz2:(listed.setIfInBounds i true).size=l.length:=by simpa using hsz
    have hul:unl (listed.setIfInBounds i true) l.length=fuel:=by
     have:=D56 (by omega) hiu hlt
     omega
    have hset:∀j,(listed.setIfInBounds i true).getD j false=true↔j=i∨listed.getD j false=true:=by
     intro j
     by_cases hj:j=i
     ·subst hj
      simp only [true_or,iff_true]
      simp [show j < listed.size by omega]
     ·rw [Y8 (Ne.symm hj)]
      simp [hj]
    have hinv:∀kills,(i∈E→kills=(c7 ed i).2)→(i∉E→kills=[])→InvK l E svs ed fr (listed.setIfInBounds i true) (match o.dst with | some d=>(d,s)::c8 kills frc | none=>c8 kills frc):=by
     intro kills hk1 hk2
     have hk:∀t,(∀e∈E,(listed.setIfInBounds i true).getD e false=true→t∉(c7 ed e).2)→t∉kills:=by
      intro t h
      by_cases hiE:i∈E
      ·rw [hk1 hiE];exact h i hiE ((hset i).2 (.inl rfl))
      ·rw [hk2 hiE];simp
     have hmono:∀t,(∀e∈E,(listed.setIfInBounds i true).getD e false=true→t∉(c7 ed e).2)→∀e∈E,listed.getD e false=true→t∉(c7 ed e).2:=fun t h e he hel=>h e he ((hset e).2 (.inr hel))
     cases hdo:o.dst with
     | none =>
      refine ⟨fun j oj d x h3 h4 h5 h6 h7=>?_,fun t x h3=>?_,fun t x h3 h4 h5=>?_⟩
      ·rcases (hset j).1 h4 with rfl | h4
       ·rw [ho] at h3;cases h3;rw [hdo] at h5;cases h5
       ·exact getF_dropK.2 ⟨hk d h7,hI.put j oj d x h3 h4 h5 h6 (hmono d h7)⟩
      ·rcases hI.from' t x (getF_dropK.1 h3).2 with ⟨j,oj,h4,h5,h6⟩ | h4
       ·exact .inl ⟨j,oj,h4,(hset j).2 (.inr h5),h6⟩
       ·exact .inr h4
      ·exact getF_dropK.2 ⟨hk t h5,hI.old t x h3 h4 (hmono t h5)⟩
     | some d0 =>
      refine ⟨fun j oj d x h3 h4 h5 h6 h7=>?_,fun t x h3=>?_,fun t x h3 h4 h5=>?_⟩
      ·show C9 ((d0,s)::c8 kills frc) d=some x
       by_cases hij:j=i
       ·subst hij
        rw [ho] at h3;cases h3
        rw [hdo] at h5;cases h5
        rw [D1]
        rw [hsv] at h6;exact h6
       ·have h4:=((hset j).1 h4).resolve_left hij
        have hdd:d0≠d:=fun q=>by
         subst q
         exact hij (B07 b3 h3 ho h5 hdo)
        rw [C0 hdd]
        exact getF_dropK.2 ⟨hk d h7,hI.put j oj d x h3 h4 h5 h6 (hmono d h7)⟩
      ·have h3:C9 ((d0,s)::c8 kills frc) t=some x:=h3
       by_cases hdd:d0=t
       ·subst hdd
        rw [D1] at h3;cases h3
        exact .inl ⟨i,o,ho,(hset i).2 (.inl rfl),hdo,hsv⟩
       ·rw [C0 hdd] at h3
        rcases hI.from' t x (getF_dropK.1 h3).2 with ⟨j,oj,h4,h5,h6⟩ | h4
        ·exact .inl ⟨j,oj,h4,(hset j).2 (.inr h5),h6⟩
        ·exact .inr h4
      ·show C9 ((d0,s)::c8 kills frc) t=some x
       have hdd:d0≠t:=fun q=>h4 (by rw [←q];exact A02 ho hdo)
       rw [C0 hdd]
       exact getF_dropK.2 ⟨hk t h5,hI.old t x h3 h4 (hmono t h5)⟩
    unfold wpOp
    simp only [List.getElem?_toArray,ho]
    rw [if_pos (by simp [Region.wanted,g1])]
    rcases htask with ⟨htn,hneu⟩ | ⟨htn,ob',heff,obT,hobT,hle⟩
    ·have hnE:i∉E:=fun q=>by rw [hasN_iff.2 q] at htn;cases htn
     refine .inl (K1 (hneu S G a w (hsf.weaken fun t x hx=>hext t x hx)) ?_)
     rintro v w' ⟨hxw2,s',rfl,hv⟩
     have hDe:(E.filter fun j=>(listed.setIfInBounds i true).getD j false)=D:=by
      rw [hD]
      apply List.filter_congr
      intro j hj
      have:j≠i:=fun q=>hnE (q ▸ hj)
      exact Y8 (Ne.symm this)
     obtain ⟨d0,hd0⟩:=g4.resolve_left (by rw [htn];simp)
     have hi2:=hinv [] (fun q=>absurd q hnE) (fun _=>rfl)
     rw [hd0] at hi2 ⊢
     have hi2:InvK l E svs ed fr (listed.setIfInBounds i true) ((d0,s')::c8 [] frc):=hi2
     have hdk:c8 [] frc=frc:=by unfold c8;exact List.filter_eq_self.2 fun p _=>rfl
     rw [hdk] at hi2
     exact ih (listed.setIfInBounds i true) ((d0,s')::frc) ob G _ w' hsz2 hul hcl2 (by rw [hDe];exact hM) (by rw [hDe];exact hob) hi2 ((hsf.ext hxw2).put (by rw [hn];exact g2 d0 hd0) hv)
    ·have hiE:i∈E:=hasN_iff.1 htn
     have hDe:(E.filter fun j=>(listed.setIfInBounds i true).getD j false)=t7 i D:=by
      rw [hD];exact B06 (by omega) hiu b4 hiE
     have hM2:t7 i D∈Ms:=by
      have:=List.all_eq_true.1 (List.all_eq_true.1 b7 D hM) i hiE
      rw [hpo] at this
      exact B36 (by simpa using this)
     have hfr2:∀k∈(c7 ed i).1,∀t x,C9 frc t=some x→t∉(c7 ed i).2→x.free k=true:=by
      obtain ⟨x0,hx0,hx1⟩:=hed i hiE
      rw [hx1]
      have hf:∀(xs:Ed),D14 l l.toArray svs fr xs=true→(i,x0)∈xs→∀k∈x0.1,((List.range l.toArray.size).all fun j=>Nat.beq j i||Bef l.toArray j i||match (l[j]?).bind (·.dst),O4 svs j with
        | some d,some s=>a7 x0.2 d||s.free k
        | _,_=>true)=true∧(fr.all fun p=>a7 x0.2 p.1||p.2.free k)=true:=by
       intro xs
       induction xs with
       | nil=>intro _ h;simp at h
       | cons y r ihx =>
        obtain ⟨e',ks',kl'⟩:=y
        intro hok hmem
        simp only [D14,G08] at hok
        rcases List.mem_cons.1 hmem with q | q
        ·cases q
         intro k hk
         have:=List.all_eq_true.1 hok.1 k hk
         simpa only [G08] using this
        ·exact ihx hok.2 q
      intro k hk t x hx hnk
      obtain ⟨f1,f2⟩:=hf ed hfree hx0 k hk
      rcases hI.from' t x hx with ⟨j,oj,h4,h5,h6,h7⟩ | h4
      ·have:=List.all_eq_true.1 f1 j (List.mem_range.2 (by simpa using (List.getElem?_eq_some_iff.1 h4).1))
       have hji:j≠i:=fun q=>by rw [q,hiu] at h5;cases h5
       have hbf:Bef l.toArray j i=false:=by
        cases hb:Bef l.toArray j i
        ·rfl
        ·exact (hlb j h5 hb).elim
       rw [K9 hji,hbf,h4] at this
       simp only [Option.bind_some,h6,h7,Bool.false_or,G32] at this
       rcases this with q | q
       ·exact absurd (hasN_iff.1 q) hnk
       ·exact q
      ·have hmem:(t,x)∈fr:=by
        have:∀(fr:Fr),C9 fr t=some x→(t,x)∈fr:=by
         intro fr
         induction fr with
         | nil=>intro h;simp [C9] at h
         | cons y r ihf =>
          obtain ⟨q,z⟩:=y
          intro h
          by_cases hq:q=t
          ·subst hq;rw [D1] at h;cases h;exact List.mem_cons_self ..
          ·rw [C0 hq] at h;exact List.mem_cons_of_mem _ (ihf h)
        exact this fr h4
       have:=List.all_eq_true.1 f2 (t,x) hmem
       simp only [G32] at this
       rcases this with q | q
       ·exact absurd (hasN_iff.1 q) hnk
       ·exact q
     refine .inl (K1 (heff frc hext hfr2 S G a w hn hsf) ?_)
     rintro v w' ⟨G',hs2,hv⟩
     have hi2:=hinv (c7 ed i).2 (fun _=>rfl) (fun q=>absurd hiE q)
     have hs3:=hs2.weakenO hle
     refine ih (listed.setIfInBounds i true) _ obT G' _ w' hsz2 hul hcl2 (by rw [hDe];exact hM2) (by rw [hDe];exact hobT) hi2 ?_
     cases hdo:o.dst with
     | none=>exact hs3
     | some d0 =>
      have hv2:=hv d0 hdo
      have hput:=hs2.put (d:=d0) (by rw [hn];exact g2 d0 hdo) hv2
      exact hput.weakenO hle
 have hlist0:∀j,(Array.replicate l.length false).getD j false=false:=by
  intro j
  simp only [Array.getD_eq_getD_getElem?]
  rcases Nat.lt_or_ge j l.length with h' | h'
  ·simp [h']
  ·simp [h']
 have hf0:(E.filter fun j=>(Array.replicate l.length false).getD j false)=[]:=by
  rw [List.filter_eq_nil_iff];intro e _;rw [hlist0];simp
 have hu0:unl (Array.replicate l.length false) l.length=l.length:=by
  unfold unl
  have:(List.range l.length).countP (fun i=>!(Array.replicate l.length false).getD i false)=(List.range l.length).length:=by
   rw [List.countP_eq_length];intro i _;rw [hlist0];rfl
  rw [this,List.length_range]
 have:=key l.length (Array.replicate l.length false) fr ob0 G a _ (by simp) hu0 (fun j o ho hl=>by rw [hlist0] at hl;cases hl) (by rw [hf0];exact B36 b6) (by rw [hf0];exact h0) ⟨fun j o d s _ h4 _=>(by rw [hlist0] at h4;cases h4),fun t s h3=>.inr h3,fun t s h3 _ _=>h3⟩ (hs.ext hxw)
 simpa using this
end
end Go.AL
namespace Go.AL
open Go Go.RowKit
set_option linter.unusedVariables false
section
variable {P:Program} {nt:Nat}
def B39 (P:Program) (nt:Nat) (l:List Oper) (fr:Fr) (E:List Nat) (ed:Ed) (K:Sv→Mo→Prop):List (Nat × List Nat)→Sv→Mo→Prop
 | [],svs,M=>K svs M
 | (i,D)::ts,svs,M=>∃o ob s,l[i]?=some o∧U1 M D=some ob∧A03 l svs o=true∧(O4 svs i=none∨O4 svs i=some s) ∧
   ((a7 E i=false∧Neu P o (M7 (B08 l svs fr) (R7 o.op)) ob (fun s'=>s'=s)∧B39 P nt l fr E ed K ts ((i,s)::svs) M) ∨
    (a7 E i=true∧∃ob',EffR P nt o (M7 (B08 l svs fr) (R7 o.op)) (c7 ed i).1 (c7 ed i).2 ob ob' s∧U1 M (t7 i D)=none∧B39 P nt l fr E ed K ts ((i,s)::svs) ((t7 i D,ob')::M)))
def B09 (P:Program) (nt:Nat) (l:List Oper) (fr:Fr) (E:List Nat) (ed:Ed) (svs:Sv) (M:Mo):List (Nat × List Nat)→Prop
 | []=>True
 | (i,D)::ts=>(∃o ob s,l[i]?=some o∧U1 M D=some ob∧A03 l svs o=true∧O4 svs i=some s ∧
   ((a7 E i=false∧Neu P o (M7 (B08 l svs fr) (R7 o.op)) ob (fun s'=>s'=s)) ∨
    (a7 E i=true∧∃ob' obT,EffR P nt o (M7 (B08 l svs fr) (R7 o.op)) (c7 ed i).1 (c7 ed i).2 ob ob' s∧U1 M (t7 i D)=some obT∧obIn2 obT ob')))∧B09 P nt l fr E ed svs M ts
def TaskOk (P:Program) (nt:Nat) (l:List Oper) (fr:Fr) (E:List Nat) (ed:Ed) (svs:Sv) (M:Mo) (p:Nat × List Nat):Prop :=
 ∃ob s,U1 M p.2=some ob∧O4 svs p.1=some s∧Task P nt l fr svs E ed p.1 ob s (fun ob'=>∃obT,U1 M (t7 p.1 p.2)=some obT∧obIn2 obT ob')
theorem A78 {svs:Sv} {i:Nat} {s:SV} (h:O4 svs i=none∨O4 svs i=some s) {j:Nat} {x:SV} (hj:O4 svs j=some x):O4 ((i,s)::svs) j=some x:=by
 show cond (Nat.beq i j) _ _=_
 by_cases hij:i=j
 ·subst hij
  rw [Nat.beq_refl]
  rcases h with h | h
  ·rw [h] at hj;cases hj
  ·rw [h] at hj;exact hj
 ·rw [K9 hij];exact hj
theorem C41:∀(l:List Nat),l7 l l=true
 | []=>rfl
 | a::l=>by simp [l7,Nat.beq_refl,C41 l]
theorem D15 {M:Mo} {D0:List Nat} {o0:Obs} (h:U1 M D0=none) {D:List Nat} {ob:Obs} (hD:U1 M D=some ob):U1 ((D0,o0)::M) D=some ob:=by
 show cond (l7 D0 D) _ _=_
 cases hs:l7 D0 D
 ·exact hD
 ·rw [t8 hs] at h;rw [h] at hD;cases hD
theorem UIn2.mono {l:List Oper} {svs svs':Sv} {fr:Fr} {o:Oper} {U:Fr} (h:UIn2 l svs fr o U) (hm:∀j x,O4 svs j=some x→O4 svs' j=some x):UIn2 l svs' fr o U:=fun t s ht=>by
 obtain ⟨h1,h2⟩:=h t s ht
 refine ⟨h1,?_⟩
 rcases h2 with ⟨j,o',h3,h4,h5⟩ | h2
 ·exact .inl ⟨j,o',h3,h4,hm j s h5⟩
 ·exact .inr h2
theorem C42 {l:List Oper} {fr:Fr} {E:List Nat} {ed:Ed} {K:Sv→Mo→Prop}:∀{ts:List (Nat × List Nat)} {svs:Sv} {M:Mo},B39 P nt l fr E ed K ts svs M →
  ∃svs' M',(∀j x,O4 svs j=some x→O4 svs' j=some x)∧(∀D ob,U1 M D=some ob→U1 M' D=some ob)∧K svs' M'∧∀p∈ts,TaskOk P nt l fr E ed svs' M' p
 | [],svs,M,h=>⟨svs,M,fun _ _ h=>h,fun _ _ h=>h,h,fun p hp=>by simp at hp⟩
 | (i,D)::ts,svs,M,h=>by
  obtain ⟨o,ob,s,h1,h2,h3,h4,h5⟩:=h
  have hself:O4 ((i,s)::svs) i=some s:=by show cond (Nat.beq i i) _ _=_;rw [Nat.beq_refl];rfl
  rcases h5 with ⟨h6,h7,h8⟩ | ⟨h6,ob',h7,h9,h8⟩
  ·obtain ⟨svs',M',g1,g2,g3,g4⟩:=C42 h8
   refine ⟨svs',M',fun j x hj=>g1 j x (A78 h4 hj),g2,g3,fun p hp=>?_⟩
   rcases List.mem_cons.1 hp with rfl | hp
   ·exact ⟨ob,s,g2 _ _ h2,g1 _ _ hself,o,_,h1,(C10 h3).mono (fun j x hj=>g1 j x (A78 h4 hj)),.inl ⟨h6,h7⟩⟩
   ·exact g4 p hp
  ·obtain ⟨svs',M',g1,g2,g3,g4⟩:=C42 h8
   have hM:U1 ((t7 i D,ob')::M) (t7 i D)=some ob':=by show cond (l7 _ _) _ _=_;rw [C41];rfl
   refine ⟨svs',M',fun j x hj=>g1 j x (A78 h4 hj),fun D' ob2 hD=>g2 _ _ (D15 h9 hD),g3,fun p hp=>?_⟩
   rcases List.mem_cons.1 hp with rfl | hp
   ·exact ⟨ob,s,g2 _ _ (D15 h9 h2),g1 _ _ hself,o,_,h1,(C10 h3).mono (fun j x hj=>g1 j x (A78 h4 hj)),.inr ⟨h6,ob',h7,ob',g2 _ _ hM,fun _ _ h=>h⟩⟩
   ·exact g4 p hp
theorem D16 {l:List Oper} {fr:Fr} {E:List Nat} {ed:Ed} {svs:Sv} {M:Mo}:∀{ts:List (Nat × List Nat)},B09 P nt l fr E ed svs M ts→∀p∈ts,TaskOk P nt l fr E ed svs M p
 | [],_,p,hp=>by simp at hp
 | (i,D)::ts,h,p,hp=>by
  obtain ⟨⟨o,ob,s,h1,h2,h3,h4,h5⟩,h6⟩:=h
  rcases List.mem_cons.1 hp with rfl | hp
  ·rcases h5 with ⟨g1,g2⟩ | ⟨g1,ob',obT,g2,g3,g4⟩
   ·exact ⟨ob,s,h2,h4,o,_,h1,C10 h3,.inl ⟨g1,g2⟩⟩
   ·exact ⟨ob,s,h2,h4,o,_,h1,C10 h3,.inr ⟨g1,ob',g2,obT,g3,g4⟩⟩
  ·exact D16 h6 p hp
def F10 (ed:Ed):List Nat:=ed.flatMap fun p=>p.2.2
def edOk (E:List Nat) (ed:Ed):Bool:=E.all fun e=>ed.any fun p=>Nat.beq p.1 e
theorem C43:∀{ed:Ed} {e:Nat},(ed.any fun p=>Nat.beq p.1 e)=true→(e,c7 ed e)∈ed
 | [],_,h=>by simp at h
 | (i,x)::r,e,h=>by
  by_cases hie:i=e
  ·subst hie
   have:c7 ((i,x)::r) i=x:=by show cond (Nat.beq i i) _ _=_;rw [Nat.beq_refl];rfl
   rw [this];exact List.mem_cons_self ..
  ·have h1:c7 ((i,x)::r) e=c7 r e:=by show cond (Nat.beq i e) _ _=_;rw [K9 hie];rfl
   rw [h1]
   simp only [List.any_cons,K9 hie,Bool.false_or] at h
   exact List.mem_cons_of_mem _ (C43 h)
def Fin2 (P:Program) (nt:Nat) (l:List Oper) (fr:Fr) (E:List Nat) (ed:Ed) (T2:List (Nat × List Nat)) (Q:Post) (svs:Sv) (M:Mo):Prop :=
 (D14 l l.toArray svs fr ed&&(List.range l.length).all fun j=>(O4 svs j).isSome)=true∧B09 P nt l fr E ed svs M T2∧∃obE,U1 M E=some obE∧Q .normal (c8 (F10 ed) (B08 l svs fr)) obE
theorem D59 {id:Nat} {l:List Oper} {fr:Fr} {ob0:Obs} {Q:Post} (E:List Nat) (Ms:List (List Nat)) (ed:Ed) (T1 T2:List (Nat × List Nat)) (hm:P.follows .mixedOrders=true)
  (hB:(conf2 nt l E Ms ed (T1++T2)&&edOk E ed)=true) (h:B39 P nt l fr E ed (Fin2 P nt l fr E ed T2 Q) T1 [] [([],ob0)]):WpC P nt (.region id l.toArray true) fr ob0 Q:=by
 simp only [G08] at hB
 obtain ⟨svs,M,h1,h2,⟨h3,h4,obE,h5,h6⟩,h7⟩:=C42 h
 simp only [G08] at h3
 refine c_core E Ms ed (T1++T2) svs M hm hB.1 (fun e he=>⟨c7 ed e,C43 (List.all_eq_true.1 hB.2 e he),rfl⟩) h3.1 (h2 [] ob0 rfl) (fun p hp=>?_) h5 (fun t s ht=>?_) h6
 ·rcases List.mem_append.1 hp with hp | hp
  ·exact h7 p hp
  ·exact D16 h4 p hp
 ·obtain ⟨hk,h8⟩:=getF_dropK.1 ht
  refine ⟨fun e he hin=>hk ?_,?_⟩
  ·have:=C43 (List.all_eq_true.1 hB.2 e he)
   exact List.mem_flatMap.2 ⟨_,this,hin⟩
  ·rcases C40 h8 with ⟨j,o,g1,g2,g3⟩ | ⟨g1,g2⟩
   ·exact .inl ⟨j,o,g2,g3,g1⟩
   ·refine .inr ⟨fun hin=>?_,g1⟩
    obtain ⟨j,o,g3,g4⟩:=B38 hin
    have:=List.all_eq_true.1 h3.2 j (List.mem_range.2 (List.getElem?_eq_some_iff.1 g3).1)
    exact g2 j o (fun e=>by rw [e] at this;cases this) g3 g4
theorem o5 {l:List Oper} {fr:Fr} {E:List Nat} {ed:Ed} {K:Sv→Mo→Prop} {i:Nat} {D:List Nat} {ts:List (Nat × List Nat)} {svs:Sv} {M:Mo} {o:Oper} {ob:Obs} {s:SV} (ho:l[i]?=some o) (hM:U1 M D=some ob) (hu:A03 l svs o=true)
  (hv:O4 svs i=none) (ht:a7 E i=false) (h:Neu P o (M7 (B08 l svs fr) (R7 o.op)) ob (fun s'=>s'=s)) (k:B39 P nt l fr E ed K ts ((i,s)::svs) M):B39 P nt l fr E ed K ((i,D)::ts) svs M :=
 ⟨o,ob,s,ho,hM,hu,.inl hv,.inl ⟨ht,h,k⟩⟩
theorem w_eff {l:List Oper} {fr:Fr} {E:List Nat} {ed:Ed} {K:Sv→Mo→Prop} {i:Nat} {D:List Nat} {ts:List (Nat × List Nat)} {svs:Sv} {M:Mo} {o:Oper} {ob ob':Obs} {s:SV} (ho:l[i]?=some o) (hM:U1 M D=some ob) (hu:A03 l svs o=true)
  (hv:O4 svs i=none) (ht:a7 E i=true) (h:EffR P nt o (M7 (B08 l svs fr) (R7 o.op)) (c7 ed i).1 (c7 ed i).2 ob ob' s) (hn:U1 M (t7 i D)=none) (k:B39 P nt l fr E ed K ts ((i,s)::svs) ((t7 i D,ob')::M)):B39 P nt l fr E ed K ((i,D)::ts) svs M :=
 ⟨o,ob,s,ho,hM,hu,.inl hv,.inr ⟨ht,ob',h,hn,k⟩⟩
theorem w_nil {l:List Oper} {fr:Fr} {E:List Nat} {ed:Ed} {T2:List (Nat × List Nat)} {Q:Post} {svs:Sv} {M:Mo} {obE:Obs} (h1:(D14 l l.toArray svs fr ed&&(List.range l.length).all fun j=>(O4 svs j).isSome)=true) (h2:U1 M E=some obE)
  (h3:B09 P nt l fr E ed svs M T2) (h4:Q .normal (c8 (F10 ed) (B08 l svs fr)) obE):B39 P nt l fr E ed (Fin2 P nt l fr E ed T2 Q) [] svs M:=⟨h1,h3,obE,h2,h4⟩
theorem x_neu {l:List Oper} {fr:Fr} {E:List Nat} {ed:Ed} {i:Nat} {D:List Nat} {ts:List (Nat × List Nat)} {svs:Sv} {M:Mo} {o:Oper} {ob:Obs} {s:SV} (ho:l[i]?=some o) (hM:U1 M D=some ob) (hu:A03 l svs o=true)
  (hv:O4 svs i=some s) (ht:a7 E i=false) (h:Neu P o (M7 (B08 l svs fr) (R7 o.op)) ob (fun s'=>s'=s)) (k:B09 P nt l fr E ed svs M ts):B09 P nt l fr E ed svs M ((i,D)::ts) :=
 ⟨⟨o,ob,s,ho,hM,hu,hv,.inl ⟨ht,h⟩⟩,k⟩
theorem x_nil {l:List Oper} {fr:Fr} {E:List Nat} {ed:Ed} {svs:Sv} {M:Mo}:B09 P nt l fr E ed svs M []:=trivial
theorem opvU {U frc:Fr} (hU:F09 U frc) {x:Operand} {s:SV} (h:opv U x=some s):opv frc x=some s:=by
 cases x with
 | tmp t =>
  have h:j6 U t=some s:=h
  obtain ⟨h1,h2⟩:=D04 h
  show j6 frc t=some s
  unfold j6
  have:Nat.blt t 1000000=true:=by simpa using h1
  rw [this];exact hU t s h2
 | _=>exact h
theorem r_eff {U:Fr} {op:Op} {ty:TypeId} {pos:String} {af:Array Edge} {ob ob':Obs} (h:∀frc,F09 U frc→Eff P ⟨none,op,ty,pos,af,none⟩ frc ob frc ob'):EffR P nt ⟨none,op,ty,pos,af,none⟩ U [] [] ob ob' .any:=by
 intro frc hU _ S G a w hn hs
 have:=h frc hU S G a w hs
 have hdk:c8 [] frc=frc:=by unfold c8;exact List.filter_eq_self.2 fun p _=>rfl
 have imp:∀(v:Value) (w':World),(∃G',Sim P S frc ob' G' a w')→∃G',Sim P S (c8 [] frc) ob' G' a w'∧∀d,(none:Option Tmp)=some d→SV.rep (E2 (Mut S ob' G') w') G' .any v:=fun v w' ⟨G',h⟩=>⟨G',by rw [hdk];exact h,fun d hd=>by cases hd⟩
 unfold Does at this ⊢
 generalize (execOp a.eval _).run P w=r at *
 cases r with
 | ok n w' =>
  cases n<;>simp only at this ⊢<;>try exact this.elim
  case value v=>exact imp v w' this
  case skip=>exact imp undef w' this
  case enter f args=>exact this.mono fun e w'' ⟨v,he,hv⟩=>⟨v,he,imp v w'' hv⟩
 | halt x w'=>exact this
end
end Go.AL
namespace Go.AL
open Go Go.RowKit
set_option linter.unusedVariables false
section
variable {P:Program} {nt:Nat} {fr:Fr} {ob:Obs}
end
end Go.AL
namespace Go.AL
open Go Go.RowKit
set_option linter.unusedVariables false
section
variable {P:Program} {nt:Nat} {fr gf:Fr} {ob:Obs}
end
end Go.AL
namespace Go.AL
open Go Go.RowKit
set_option linter.unusedVariables false
section
variable {P:Program} {nt:Nat} {fr:Fr} {ob:Obs} {dst:Option Tmp} {ty:TypeId} {pos:String} {af:Array Edge} {gd:Option (Nat × Bool)}
theorem Sim.retold {S:Ctx} {G:Gh} {a:Act} {w:World} (h:Sim P S fr ob G a w) {k:Nat} {o o':Ob} (hk:C8 ob k=some o) (hown:∀b i,Own (G k) o' b i→Own (G k) o b i)
  (ho:∀rd:Rd,ObOk S rd G w (G k) o→ObOk S rd G w (G k) o'):Sim P S fr ((k,o')::ob) G a w:=by
 have hget:∀k' o1,C8 ((k,o')::ob) k'=some o1→∃o0,C8 ob k'=some o0∧∀b i,Own (G k') o1 b i→Own (G k') o0 b i:=by
  intro k' o1 hk'
  by_cases hkk:k'=k
  ·subst hkk;rw [E4] at hk';cases hk';exact ⟨_,hk,hown⟩
  ·rw [C6 (Ne.symm hkk)] at hk';exact ⟨_,hk',fun _ _ ho=>ho⟩
 have hrd:∀b i z,E2 (Mut S ob G) w b i z→E2 (Mut S ((k,o')::ob) G) w b i z:=by
  intro b i z hr
  refine ⟨hr.1,fun hm=>hr.2 ?_⟩
  rcases hm with hm | ⟨k',o1,hk',hb⟩
  ·exact .inl hm
  ·obtain ⟨o0,h0,hi⟩:=hget k' o1 hk'
   exact .inr ⟨k',o0,h0,hi _ _ hb⟩
 refine { h with old:=?_,dis:=?_,obs:=?_,facts:=?_ }
 ·intro k' o1 b hk' hb
  obtain ⟨o0,h0,_⟩:=hget k' o1 hk'
  exact h.old k' o0 b h0 hb
 ·intro k1 k2 o1 o2 b h1 h2 hb1 hb2
  obtain ⟨oa,ha,_⟩:=hget k1 o1 h1
  obtain ⟨ob',hb',_⟩:=hget k2 o2 h2
  exact h.dis k1 k2 oa ob' b ha hb' hb1 hb2
 ·intro k' o1 hk'
  by_cases hkk:k'=k
  ·subst hkk;rw [E4] at hk';cases hk'
   exact ho _ ((h.obs k' _ hk).ext hrd (Below.refl _ _))
  ·rw [C6 (Ne.symm hkk)] at hk'
   exact (h.obs k' o1 hk').ext hrd (Below.refl _ _)
 ·intro i s hi
  exact SV.rep_mono hrd (h.facts i s hi)
theorem Sim.grow_cell {S:Ctx} {G:Gh} {a:Act} {w:World} (h:Sim P S fr ob G a w) {k b n cap i o ec:Nat} {e:TypeId} {α:Type} {c:α→Nat→Cell} {xs:List α} {v:α} (hk:C8 ob k=some (.grow e α ec c xs)) (hg:G k=.slice (some ⟨b,0,none⟩) n cap) (hv:xs[i]?=some v) (ho:o < ec) :
  ∃z,w.cell? ⟨b,i*ec+o,none⟩=some z∧(c v o).rep (E2 (Mut S ob G) w) z:=by
 obtain ⟨vs,hown,_,hc⟩:=h.obs k _ hk
 obtain ⟨hi,rfl⟩:=List.getElem?_eq_some_iff.1 hv
 obtain ⟨z,h1,h2⟩:=hc i hi o ho
 have:=hown.cells (g:=b) (by rw [hg];rfl) (i*ec+o) z h1
 exact ⟨z,by simpa [Addr.add_lit] using this,h2⟩
theorem D17 {x:Operand} {t e:TypeId} {n k i o:Nat} {α:Type} {ec:Nat} {c:α→Nat→Cell} {xs:List α} {v:α} [ht:TyAgg P t n] (hx:opv fr x=some (.s (.one (.mref k ec i o)))) (hk:C8 ob k=some (.grow e α ec c xs)) (hv:xs[i]?=some v)
  (ho:Nat.ble (o+n) ec=true):Neu P ⟨dst,.load t x,ty,pos,af,gd⟩ fr ob (fun s'=>s'=.s (.agg ((cellsOf c v o n).map .p))) :=
 E0 fun S G a w h=>by
  obtain ⟨b,m,cap,hg,hu⟩:=F9 h hx
  have hle:o+n≤ec:=by simpa using ho
  obtain ⟨vs,hl,hvs⟩:=j7 (R:=fun j z=>w.cell? ⟨b,i*ec+(o+j),none⟩=some z∧(c v (o+j)).rep (E2 (Mut S ob G) w) z) n (fun j hj=>h.grow_cell hk hg hv (by omega))
  refine ⟨.agg vs.toArray,?_,vs,rfl,?_⟩
  ·simp only [execOp,hu]
   refine L8 ?_
   simp [Instr.loadAt,Instr.sureAddr,L9 (ht:=ht) (o:=i*ec+o) hl (fun j z hz=>by rw [Nat.add_assoc];exact (hvs j z hz).1)]
  ·refine U8 (by simp [hl,H1]) fun j t z h1 h2=>?_
   rw [G41] at h1
   cases hc:(cellsOf c v o n)[j]? with
   | none=>simp [hc] at h1
   | some cc =>
    simp [hc] at h1
    obtain ⟨rfl,_⟩:=O3 c v n o j cc hc
    subst h1
    exact (hvs j z h2).2
end
end Go.AL
namespace Go.AL
open Go Go.RowKit
set_option linter.unusedVariables false
section
variable {P:Program} {nt:Nat} {fr:Fr} {ob:Obs} {dst:Option Tmp} {ty:TypeId} {pos:String} {af:Array Edge} {gd:Option (Nat × Bool)}
theorem tail_drop {gf:Fr} {ks:List Nat} (hk:(ks.all fun k=>Nat.blt k 1000000)=true) (h:Tail gf fr):Tail gf (c8 ks fr):=fun i s hi hg=>by
 refine getF_dropK.2 ⟨fun hin=>?_,h i s hi hg⟩
 have:=List.all_eq_true.1 hk i hin
 have:i < 1000000:=by simpa using this
 omega
end
end Go.AL
namespace Go.AL
open Go Go.RowKit
set_option linter.unusedVariables false
section
variable {P:Program} {nt:Nat} {fr:Fr} {ob:Obs} {dst:Option Tmp} {ty:TypeId} {pos:String} {af:Array Edge} {gd:Option (Nat × Bool)}
theorem B69 {xs ec p:Nat} (hp:p < xs):p*ec+ec≤xs*ec:=by
 have:(p+1)*ec≤xs*ec:=G19 _ hp
 rw [G33,Nat.one_mul] at this;omega
theorem B40 {ec:Nat} {vs:List Value} {p o:Nat} (ho:o < ec):((vs.drop (p*ec)).take ec)[o]?=vs[p*ec+o]?:=by
 rw [G16 ho,G26]
theorem E66 {ec n:Nat} {vs:List Value} {p:Nat} (hl:vs.length=n*ec) (hp:p < n):((vs.drop (p*ec)).take ec).length=ec:=by
 have:=B69 (ec:=ec) hp
 rw [G17,G25];omega
theorem F86 (k:Nat) {e:TypeId} {α:Type} {ec:Nat} {c:α→Nat→Cell} {xs:List α} {p:Nat} {ts:List TC} (y:α) (hk:C8 ob k=some (.growA e α ec c xs p ts)) (hts:A42 ts=some (cellsOf c y 0 ec)) :
  Sees P nt fr ob fr ((k,.grow e α ec c (xs.set p y))::ob):=fun S G a w hn h=>by
 refine ⟨G,h.retold hk (fun b i ho=>⟨ho.1,trivial⟩) ?_⟩
 rintro rd ⟨vs,hown,hlen,hp,htl,hc,ha⟩
 refine ⟨vs,by simpa using hown,by simpa using hlen,fun i hi j hj=>?_⟩
 have hi':i < xs.length:=by simpa using hi
 by_cases hip:i=p
 ·subst hip
  have hset:(xs.set i y)[i]'hi=y:=by simp
  rw [hset]
  have hget:(cellsOf c y 0 ec)[j]?=some (c y j):=by
   have hlt:j < (cellsOf c y 0 ec).length:=by rw [H1];exact hj
   rw [G09 hlt]
   have:=O3 c y ec 0 j _ (G09 hlt)
   rw [this.1,Nat.zero_add]
  obtain ⟨z,h1,h2⟩:=(p9 hts ha).get _ _ hget
  rw [B40 hj] at h1
  exact ⟨z,h1,h2⟩
 ·have hset:(xs.set p y)[i]'hi=xs[i]:=by rw [List.getElem_set_ne (Ne.symm hip)]
  rw [hset]
  exact hc i hi' hip j hj
theorem E06 {x:Operand} {t e e':TypeId} {eb bytes k ec p:Nat} {α:Type} {c:α→Nat→Cell} {xs:List α} {ts:List TC} (hx:opv fr x=some (.s (.one (.mut k)))) (hk:C8 ob k=some (.growA e' α ec c xs p ts)) [ht:TySl P t e eb bytes] :
  Neu P ⟨dst,.call ⟨.builtin .len,#[x],#[t]⟩,ty,pos,af,gd⟩ fr ob (fun s'=>s'=D2 xs.length) :=
 E0 fun S G a w h=>by
  refine ⟨.int .i64 xs.length,?_,rfl,rfl⟩
  obtain ⟨hu,_⟩:=F9 h hx
  obtain ⟨vs,hown,_⟩:=h.obs k _ hk
  rcases hown.2 with ⟨hg,h0⟩ | ⟨g,cap,cur,hg,_⟩
  ·rw [hg] at hu
   simp [execOp,resolve,invoke,builtin,hu,Builtin.len_,run_underlying ht.out.1,goInt,h0]
  ·rw [hg] at hu
   simp [execOp,resolve,invoke,builtin,hu,Builtin.len_,run_underlying ht.out.1,goInt]
theorem C44 {x y:Operand} {t e e':TypeId} {ec bytes k p:Nat} {α:Type} {c:α→Nat→Cell} {xs:List α} {ts:List TC} {ki:IntKind} {i:Int} [ht:TySl P t e ec bytes] (hx:opv fr x=some (.s (.one (.mut k)))) (hk:C8 ob k=some (.growA e' α ec c xs p ts))
  (hy:opv fr y=some (J4 (.int ki i))) (h0:0≤i) (h1:i < xs.length):Neu P ⟨dst,.indexAddr t x y,ty,pos,af,gd⟩ fr ob (fun s'=>s'=.s (.one (.mref k ec i.toNat 0))) :=
 E0 fun S G a w h=>by
  obtain ⟨hu,_⟩:=F9 h hx
  obtain ⟨vs,hown,_⟩:=h.obs k _ hk
  rcases hown.2 with ⟨hg,h2⟩ | ⟨g,cap,cur,hg,_⟩
  ·omega
  ·rw [hg] at hu
   refine ⟨.pointer (some ⟨g,i.toNat*ec,none⟩),?_,g,xs.length,cap,hg,rfl⟩
   simp only [execOp,hu,G3 h hy]
   refine L8 ?_
   have hb:0≤i∧i < (xs.length:Int):=⟨h0,h1⟩
   simp [Instr.indexAt,run_underlying ht.out.1,asIntOf,hb,K2 ht.size,Addr.add_lit]
theorem A79 {x:Operand} {t e:TypeId} {k p q o:Nat} {α:Type} {ec:Nat} {c:α→Nat→Cell} {xs:List α} {ts:List TC} {s:TC} [ht:TyOne P t] (hx:opv fr x=some (.s (.one (.mref k ec q o)))) (hk:C8 ob k=some (.growA e α ec c xs p ts)) (hq:q=p) (hv:ts[o]?=some s) :
  Neu P ⟨dst,.load t x,ty,pos,af,gd⟩ fr ob (fun s'=>s'=.s (.one s)) :=
 E0 fun S G a w h=>by
  subst hq
  obtain ⟨b,m,cap,hg,hu⟩:=F9 h hx
  obtain ⟨vs,hown,_,hp,htl,_,ha⟩:=h.obs k _ hk
  obtain ⟨z,hz1,hz2⟩:=ha.get _ s hv
  have ho:o < ec:=by have:=(List.getElem?_eq_some_iff.1 hv).1;omega
  rw [B40 ho] at hz1
  have:=hown.cells (g:=b) (by rw [hg];rfl) (q*ec+o) z hz1
  refine ⟨z,?_,hz2⟩
  simp only [execOp,hu]
  refine L8 ?_
  have hcell:w.cell? ⟨b,q*ec+o,none⟩=some z:=by simpa [Addr.add_lit] using this
  simp [Instr.loadAt,Instr.sureAddr,P6 (ht:=ht) hcell]
theorem row_set {cur cl:List Value} {N p ec o n:Nat} (hN:p*ec+ec≤N) (hN2:N≤cur.length) (hcl:cl.length=n) (ho:o+n≤ec) :
  (((cur.take (p*ec+o)++cl++cur.drop (p*ec+o+n)).take N).drop (p*ec)).take ec
   = (((cur.take N).drop (p*ec)).take ec).take o++cl++(((cur.take N).drop (p*ec)).take ec).drop (o+cl.length):=by
 subst hcl
 obtain ⟨A,hA⟩:∃A,A=cur.take (p*ec+o):=⟨_,rfl⟩
 obtain ⟨B,hB⟩:∃B,B=cur.drop (p*ec+o+cl.length):=⟨_,rfl⟩
 obtain ⟨R,hR⟩:∃R,R=((cur.take N).drop (p*ec)).take ec:=⟨_,rfl⟩
 have hAl:A.length=p*ec+o:=by rw [hA];simp;omega
 have hRl:R.length=ec:=by rw [hR];simp;omega
 have hRj:∀j,j < ec→R[j]?=cur[p*ec+j]?:=fun j hj=>by rw [hR,B40 hj,G16 (by omega)]
 rw [←hA,←hB,←hR]
 apply List.ext_getElem?
 intro j
 by_cases hj:j < ec
 ·rw [B40 hj,G16 (by omega)]
  by_cases h1:j < o
  ·have e1:(A++cl++B)[p*ec+j]?=A[p*ec+j]?:=by rw [G28];exact G21 (by omega)
   have e2:(R.take o++cl++R.drop (o+cl.length))[j]?=(R.take o)[j]?:=by rw [G28];exact G21 (by rw [G17];omega)
   rw [e1,e2,hA,G16 (by omega),G16 h1,hRj j hj]
  ·by_cases h2:j < o+cl.length
   ·have e1:(A++cl++B)[p*ec+j]?=cl[p*ec+j - A.length]?:=by
     rw [G21 (by rw [G07];omega)];exact G24 (by omega)
    have e2:(R.take o++cl++R.drop (o+cl.length))[j]?=cl[j - (R.take o).length]?:=by
     rw [G21 (by rw [G07,G17];omega)];exact G24 (by rw [G17];omega)
    rw [e1,e2,hAl,G17]
    congr 1;omega
   ·have e1:(A++cl++B)[p*ec+j]?=B[p*ec+j - (A++cl).length]?:=G24 (by rw [G07];omega)
    have e2:(R.take o++cl++R.drop (o+cl.length))[j]?=(R.drop (o+cl.length))[j - (R.take o++cl).length]?:=G24 (by rw [G07,G17];omega)
    rw [e1,e2,hB,G26,G26,G07,G07,G17,hAl]
    rw [show p*ec+o+cl.length+(p*ec+j - (p*ec+o+cl.length))=p*ec+j by omega,show o+cl.length+(j - (min o R.length+cl.length))=j by omega,hRj j hj]
 ·rw [G31 (by rw [G17];omega),G31 (by simp only [G07,G17,G25];omega)]
theorem C45 {t e:TypeId} {x yo:Operand} {k p q o n:Nat} {α:Type} {ec:Nat} {c:α→Nat→Cell} {xs:List α} {ts:List TC} {s:S1} (hsz:(P.info? t).map (·.size)=some n) (hx:opv fr x=some (.s (.one (.mref k ec q o)))) (hk:C8 ob k=some (.growA e α ec c xs p ts)) (hq:q=p)
  (hy:opv fr yo=some (.s s)) (hcst:H6 yo=true) (hn:s.cells.length=n) (ho:Nat.ble (o+n) ec=true) :
  Eff P ⟨none,.store t x yo,ty,pos,af,gd⟩ fr ob fr ((k,.growA e α ec c xs p (setTs ts o s.cells))::ob):=by
 intro S G a w h
 subst hq
 obtain ⟨b,m,cap,hg,hu⟩:=F9 h hx
 obtain ⟨vs,hown,hlen,hlt,htl,hc,ha⟩:=h.obs k _ hk
 have hl:=hown.1
 rcases hown.2 with ⟨hg0,h2⟩ | ⟨b',cap',cur,hg',hB,hh,hcap,hmax,hcs,htake⟩
 ·omega
 rw [hg] at hg';cases hg'
 have hr:(SV.s s).rep (E2 (Mut S ob G) w) G (a.eval yo):=N8 h hy hcst
 have hcells:=F78 hr
 have hcl:(a.eval yo).cells.size=n:=by rw [←hn,hcells.length];simp
 have hle:o+n≤ec:=by simpa using ho
 have hi1:q*ec+ec≤xs.length*ec:=B69 hlt
 have hi2:xs.length*ec≤cur.size:=by rw [hcs];exact G19 _ hcap
 have hh':w.heap[b]?=some (.cells cur.toList.toArray e (0,0)):=by rw [Array.toArray_toList];exact hh
 obtain ⟨w',hrun,hos,htape,hout,hsize,hother,hheap⟩:=S3 (P:=P) (t:=t) (w:=w) (b:=b) (o:=q*ec+o) (v:=a.eval yo) (by rw [hsz,hcl]) hh' (z8 hcells) (by rw [hcl];simp;omega)
 unfold Does
 have he:(execOp a.eval ⟨none,.store t x yo,ty,pos,af,gd⟩).run P w=.ok .skip w':=by
  simp [execOp,hu,Instr.storeAt,Instr.sureAddr,hrun]
 rw [he]
 have hbk:blk (G k)=some b:=by rw [hg];rfl
 refine ⟨G,h.write hk hbk (fun i=>⟨hbk,trivial⟩) (fun i=>⟨hbk,trivial⟩) hos htape hout (Nat.le_of_eq hsize.symm) (fun j _=>hother j) ?_⟩
 intro rd hrd
 have hul:(a.eval yo).cells.toList.length=n:=by simpa using hcl
 have hl1:(cur.toList.take (q*ec+o)).length=q*ec+o:=by simp;omega
 have hl2:(cur.toList.take (q*ec+o)++(a.eval yo).cells.toList).length=q*ec+o+n:=by rw [G07,hl1,hul]
 have hl3:(cur.toList.take (q*ec+o)++(a.eval yo).cells.toList++cur.toList.drop (q*ec+o+(a.eval yo).cells.size)).length=cur.size:=by
  rw [G07,hl2,G25,hcl];simp;omega
 refine ⟨(cur.toList.take (q*ec+o)++(a.eval yo).cells.toList++cur.toList.drop (q*ec+o+(a.eval yo).cells.size)).take (xs.length*ec),⟨by simp only [G17,hl3];omega,.inr ⟨b,cap,_,by rw [hg],hB,hheap,hcap,hmax,by simp only [List.size_toArray];rw [hl3,hcs],by simp⟩⟩,hlen,hlt,by rw [B25 (by rw [hn,htl];exact hle)];exact htl,?_,?_⟩
 ·intro i hi' hiq j hj
  have hpe:i*ec+j < xs.length*ec:=by have:=B69 (ec:=ec) hi';omega
  rw [G16 hpe]
  have hcur:vs[i*ec+j]?=cur[i*ec+j]?:=by rw [←htake,G16 hpe];simp
  have hsame:(cur.toList.take (q*ec+o)++(a.eval yo).cells.toList++cur.toList.drop (q*ec+o+(a.eval yo).cells.size))[i*ec+j]?=vs[i*ec+j]?:=by
   rw [hcur]
   rcases Nat.lt_or_gt_of_ne hiq with h1 | h1
   ·have:=B69 (ec:=ec) h1
    rw [G28,G21 (by rw [hl1];omega),G16 (by omega)];simp
   ·have:=B69 (ec:=ec) h1
    rw [G24 (by rw [hl2];omega),hl2,G26,hcl]
    have:q*ec+o+n+(i*ec+j - (q*ec+o+n))=i*ec+j:=by omega
    rw [this];simp
  rw [hsame]
  obtain ⟨z,hz1,hz2⟩:=hc i hi' hiq j hj
  exact ⟨z,hz1,Cell.rep_mono hrd _ _ hz2⟩
 ·rw [hcl,row_set hi1 (by simpa using hi2) hul hle,htake]
  exact (All2.setTs o ha hcells).mono (fun _ _=>TC.rep_mono hrd)
theorem R8 {x y:Operand} {k p:Nat} {α:Type} {ec bytes:Nat} {c:α→Nat→Cell} {xs ys:List α} {ts:List TC} {t e:TypeId} {s:SV} [ht:TySl P t e ec bytes] (hx:opv fr x=some (.s (.one (.mut k)))) (hk:C8 ob k=some (.growA e α ec c xs p ts))
  (hy:opv fr y=some s) (hl:IsList s α ec c ys) (hlen:xs.length+ys.length≤1073741824) (hp:Nat.blt k 1000000=true) :
  EffV P ⟨dst,.call ⟨.builtin .append,#[x,y],#[t,t]⟩,ty,pos,af,gd⟩ fr ob (.s (.one (.mut k))) (Fr.forget k fr) ((k,.growA e α ec c (xs++ys) p (ts.map (TC.forget k)))::Obs.forget k ob):=by
 intro S G a w h
 have hec:=ht.out.2.2.1
 obtain ⟨hux,_⟩:=F9 h hx
 have hry:=Z8 h hy hl
 obtain ⟨ad,cap,vs,huy,hcap,hly,hvl,hone,hvs,hrd⟩:=Y4 hry
 obtain ⟨ws,hown,_,hpl,htl,hws,ha⟩:=h.obs k _ hk
 obtain ⟨v',w',hrun,hown',hgrow,hblk',hleave⟩:=i7 (P:=P) (ty:=ty) S.B ht hown h.size (u:=a.eval y) (ad:=ad) (m:=ys.length) (c:=cap) (news:=vs) huy hcap.2 hcap.1 hvl
  (fun b o hb j z hz=>by
   rcases hrd with h0 | ⟨b',o',hb',hr⟩
   ·have hvs0:vs=[]:=List.eq_nil_of_length_eq_zero (by rw [hvl,h0];simp)
    rw [hvs0] at hz;simp at hz
   ·rw [hb] at hb';injection hb' with hb';injection hb' with e1 e2;subst e1;subst e2
    exact (hr j z hz).1)
  (hrd.imp id fun ⟨b',o',hb',_⟩=>⟨b',o',hb'⟩) hone hlen
 have hbv:(G k).ownBlock=blk (G k):=S4 (Q2 hown)
 have hread:∀b i z,E2 (Mut S ob G) w b i z→w'.cell? ⟨b,i,none⟩=some z:=by
  intro b i z hr
  have hlt:b < w.heap.size:=World.block_lt_of_cell? w _ hr.1
  by_cases hb:blk (G k)=some b
  ·exact absurd (Or.inr ⟨k,_,hk,hb,trivial⟩) hr.2
  ·rw [World.cell?_of_block (w:=w) (a:=⟨b,i,none⟩) (hgrow.block b hlt (by rw [hbv];exact fun e=>hb e.symm))]
   exact hr.1
 have hsim:=h.turn (o':=.growA e α ec c (xs++ys) p (ts.map (TC.forget k))) (u':=v') (by simpa using hp) hk hgrow.os hgrow.tape hgrow.output hgrow.size (fun j hj hb=>hgrow.block j hj (by rw [hbv];exact fun e=>hb e.symm)) hread hblk'
  (by
   intro b i hb ho
   rcases hblk' b ho.1 with h1 | h1
   ·exact ⟨h1,trivial⟩
   ·omega)
  (fun rd hrd' G' hG'=>by
   refine ⟨_,by rw [G07];exact hown',by rw [G07];omega,by rw [G07];omega,by simpa using htl,?_,?_⟩
   ·intro i hi hip j hj
    by_cases hlt:i < xs.length
    ·obtain ⟨z,hz1,hz2⟩:=hws i hlt hip j hj
     refine ⟨z,?_,?_⟩
     ·rw [G21 (List.getElem?_eq_some_iff.1 hz1).1];exact hz1
     ·rw [G44 hlt];exact Cell.rep_mono hrd' _ _ hz2
    ·have hi':i - xs.length < ys.length:=by simp at hi;omega
     obtain ⟨z,hz1,hz2⟩:=hvs (i - xs.length) hi' j hj
     refine ⟨z,?_,?_⟩
     ·have hge:xs.length*ec≤i*ec:=G19 _ (by omega)
      rw [G24 (by rw [hown.1];omega),hown.1]
      have:i*ec+j - xs.length*ec=(i - xs.length)*ec+j:=by rw [Nat.sub_mul];omega
      rw [this];exact hz1
     ·rw [G49 (by omega)];exact Cell.rep_mono hrd' _ _ hz2
   ·have hrow:(((ws++vs).drop (p*ec)).take ec)=((ws.drop (p*ec)).take ec):=by
     have h1:=B69 (ec:=ec) hpl
     have h2:=hown.1
     rw [List.drop_append_of_le_length (by omega),List.take_append_of_le_length (by rw [G25];omega)]
    rw [hrow]
    exact (ha.mono fun _ _=>TC.rep_mono hrd').map (TC.forget k) fun _ _=>TC.rep_forget hG')
 exact I6 (w':=w') (v:=v') (by simp [execOp,resolve,invoke,builtin,hux,hrun]) ⟨upd G k v',hsim,(G7 _ _ _).symm,A54 hown'⟩
theorem Sim.freezeG {S:Ctx} {G:Gh} {a:Act} {w:World} (h:Sim P S fr ob G a w) {k:Nat} {α:Type} {ec:Nat} {c:α→Nat→Cell} {xs:List α} {e:TypeId} (hk:C8 ob k=some (.grow e α ec c xs)) (hec:0 < ec) :
  Sim P S (F87 (SV.freeze k α ec c xs) fr) (F79 (Ob.freeze k α ec c xs) (Obs.drop k ob)) G a w:=by
 have hd:=h.drop k
 obtain ⟨vs,hown,hlen,hc⟩:=h.obs k _ hk
 have hget:∀k' o,C8 (F79 (Ob.freeze k α ec c xs) (Obs.drop k ob)) k'=some o→∃o0,C8 (Obs.drop k ob) k'=some o0∧o=o0.freeze k α ec c xs:=by
  intro k' o hk'
  rw [B64] at hk'
  cases hg':C8 (Obs.drop k ob) k' with
  | none=>simp [hg'] at hk'
  | some o0=>simp [hg'] at hk';exact ⟨o0,rfl,hk'.symm⟩
 have hownf:∀(u:Value) (o:Ob) (b i:Nat),Own u (o.freeze k α ec c xs) b i↔Own u o b i:=by intro u o b i;cases o<;>simp [Own,Ob.freeze]
 have hmut:∀b i,Mut S (F79 (Ob.freeze k α ec c xs) (Obs.drop k ob)) G b i→Mut S (Obs.drop k ob) G b i:=by
  intro b i hm
  rcases hm with hm | ⟨k',o,hk',hb⟩
  ·exact .inl hm
  ·obtain ⟨o0,h0,rfl⟩:=hget k' o hk'
   exact .inr ⟨k',o0,h0,(hownf _ _ _ _).1 hb⟩
 have hrd:∀b i z,E2 (Mut S (Obs.drop k ob) G) w b i z→E2 (Mut S (F79 (Ob.freeze k α ec c xs) (Obs.drop k ob)) G) w b i z:=fun b i z hr=>⟨hr.1,fun hm=>hr.2 (hmut b i hm)⟩
 have hrd0:∀b i z,E2 (Mut S ob G) w b i z→E2 (Mut S (Obs.drop k ob) G) w b i z:=by
  intro b i z hr
  refine ⟨hr.1,fun hm=>hr.2 ?_⟩
  rcases hm with hm | ⟨k',o',hk',hb⟩
  ·exact .inl hm
  ·refine .inr ⟨k',o',?_,hb⟩
   by_cases hkk:k'=k
   ·subst hkk;rw [O6] at hk';cases hk'
   ·rwa [N2 hkk] at hk'
 have hlist:(Cell.list α ec c xs).rep (E2 (Mut S (F79 (Ob.freeze k α ec c xs) (Obs.drop k ob)) G) w) (G k):=by
  refine o6 hown hec hlen ?_ (fun i hi j hj=>let ⟨z,h1,h2⟩:=hc i hi j hj;⟨z,h1,Cell.rep_mono (fun _ _ _ hr=>hrd _ _ _ (hrd0 _ _ _ hr)) _ _ h2⟩)
  intro g hg j z hj hcell
  refine ⟨hcell,fun hm=>?_⟩
  rcases hmut _ _ hm with hm | ⟨k',o',hk',hb,_⟩
  ·have:=h.m0 _ _ hm
   rcases h.old k _ g hk hg with h1 | h1
   ·omega
   ·exact h.m0io _ _ hm h1.1
  ·by_cases hkk:k'=k
   ·subst hkk;rw [O6] at hk';cases hk'
   ·rw [N2 hkk] at hk'
    exact hkk (h.dis k' k o' _ g hk' hk hb hg)
 exact { hd with
  old:=fun k' o b hk'=>let ⟨o0,h0,_⟩:=hget k' o hk';hd.old k' o0 b h0
  dis:=fun k1 k2 o1 o2 b h1 h2=>let ⟨oa,ha,_⟩:=hget k1 o1 h1;let ⟨ob',hb',_⟩:=hget k2 o2 h2;hd.dis k1 k2 oa ob' b ha hb'
  obs:=fun k' o hk'=>by
   obtain ⟨o0,h0,rfl⟩:=hget k' o hk'
   have hob:=(hd.obs k' o0 h0).ext hrd (Below.refl _ _)
   cases o0 with
   | box ts=>obtain ⟨b',vs',t',h1,h2,h3⟩:=hob;exact ⟨b',vs',t',h1,h2,h3.map (TC.freeze k α ec c xs) fun _ _=>TC.rep_freeze hlist⟩
   | tbx e ts=>obtain ⟨b',vs',h1,h2,h3⟩:=hob;exact ⟨b',vs',h1,h2,h3.map (TC.freeze k α ec c xs) fun _ _=>TC.rep_freeze hlist⟩
   | tarr n ec' ts=>obtain ⟨b',vs',t',h1,hl,h2,hn,h3⟩:=hob;exact ⟨b',vs',t',h1,hl,h2,by simpa using hn,h3.map (TC.freeze k α ec c xs) fun _ _=>TC.rep_freeze hlist⟩
   | arr=>exact hob
   | spare=>exact hob
   | grow=>exact hob
   | map=>exact hob
   | growA e' α' ec' c' xs' p ts=>obtain ⟨vs,h1,h2,h3,h4,h5,h6⟩:=hob;exact ⟨vs,h1,h2,h3,by simpa using h4,h5,h6.map (TC.freeze k α ec c xs) fun _ _=>TC.rep_freeze hlist⟩
   | growT e' n' ec' ts=>obtain ⟨vs,h1,h2,h3,h4⟩:=hob;exact ⟨vs,h1,h2,by simpa using h3,h4.map (TC.freeze k α ec c xs) fun _ _=>TC.rep_freeze hlist⟩
  facts:=fun i s hi=>by
   rw [B63] at hi
   cases hg':C9 fr i with
   | none=>simp [hg'] at hi
   | some s0 =>
    simp [hg'] at hi;subst hi
    exact SV.rep_freeze hlist (SV.rep_mono hrd (hd.facts i s0 hg')) }
theorem Sees.freezeG {k:Nat} {α:Type} {ec:Nat} {c:α→Nat→Cell} {xs:List α} {e:TypeId} (hk:C8 ob k=some (.grow e α ec c xs)) (hec:Nat.blt 0 ec=true) :
  Sees P nt fr ob (F87 (SV.freeze k α ec c xs) fr) (F79 (Ob.freeze k α ec c xs) (Obs.drop k ob)):=fun S G a w hn h=>⟨G,h.freezeG hk (by simpa using hec)⟩
end
end Go.AL
namespace Go.AL
open Go Go.RowKit
set_option linter.unusedVariables false
section
variable {P:Program} {nt:Nat} {fr:Fr} {ob:Obs}
theorem Sees.fewer {ob':Obs} (ho:∀k o,C8 ob' k=some o→C8 ob k=some o):Sees P nt fr ob fr ob':=fun S G a w hn hs=>⟨G,hs.weakenO ho⟩
theorem F89 (k:Nat) (α:Type) (ec:Nat) (c:α→Nat→Cell) (e:TypeId) {kb o:Nat} {ts:List TC} (hb:C8 ob kb=some (.box ts)) (hts:ts[o]?=some (.p (.v (.slice none 0 0)))) (hf:(G8 k fr&&M4 k ob)=true) :
  Sees P nt fr ob fr ((kb,.box (ts.set o (.mut k)))::(k,.grow e α ec c [])::ob):=by
 simp only [G08] at hf
 obtain ⟨h1,h2⟩:=hf
 obtain ⟨h4,h5,hp⟩:=U0 h2
 intro S G a w hn h
 have h6:=h.new hp (o:=.grow e α ec c []) (u:=.slice none 0 0) (w1:=w) h5 (Below.refl _ _) (fun b hb=>by simp [blk] at hb) ⟨[],World.ownsRow_nil w _ _ _,by simp,fun i hi=>absurd hi (by simp)⟩
 rw [V8 h1,h4] at h6
 have hkb:k≠kb:=fun he=>by rw [he,hb] at h5;cases h5
 have hb':C8 ((k,Ob.grow e α ec c [])::ob) kb=some (.box ts):=by rw [C6 hkb];exact hb
 obtain ⟨b,vs,t,hg,hh,ha⟩:=h6.obs kb _ hb'
 have hbk:blk (upd G k (.slice none 0 0) kb)=some b:=by rw [hg];rfl
 refine ⟨_,h6.retell hb' hbk (fun i=>⟨hbk,trivial⟩) (fun i=>⟨hbk,trivial⟩) ?_⟩
 rintro rd ⟨b',vs',t',hg',hh',ha'⟩
 refine ⟨b',vs',t',hg',hh',F84 o (fun z hz=>?_) ha'⟩
 obtain ⟨z',hz1,hz2⟩:=ha'.get o _ hts
 rw [hz] at hz1;cases hz1
 rw [hz2.1]
 exact ⟨(G7 _ _ _).symm,rfl⟩
end
end Go.AL
namespace Go.AL
open Go Go.RowKit
set_option linter.unusedVariables false
section
variable {P:Program} {nt:Nat} {fr:Fr} {ob:Obs} {dst:Option Tmp} {ty:TypeId} {pos:String} {af:Array Edge} {gd:Option (Nat × Bool)}
end
end Go.AL
namespace Go.AL
open Go Go.RowKit
set_option linter.unusedVariables false
section
variable {P:Program} {fr:Fr} {ob:Obs}
end
end Go.AL
namespace Go.AL
open Go Go.RowKit
set_option linter.unusedVariables false
section
variable {P:Program} {nt:Nat} {fr:Fr} {ob:Obs} {dst:Option Tmp} {ty:TypeId} {pos:String} {af:Array Edge} {gd:Option (Nat × Bool)}
theorem E07 {rd:Rd} {G:Gh}:∀{ts:List TC} {vs:List Value},All2 (TC.rep rd G) ts vs→∀u∈vs,u.oneCell'=true
 | [],[],_,u,hu=>by cases hu
 | t::ts,v::vs,h,u,hu=>by
  rcases List.mem_cons.1 hu with rfl | hu
  ·exact TC.rep_one h.1
  ·exact E07 h.2 u hu
theorem E08 (k:Nat) {t e:TypeId} {ec bytes:Nat} {x:Operand} {s:S1} [ht:TySl P t e ec bytes] (hx:opv fr x=some (.s s)) (hc:H6 x=true) (hsl:s.cells.length=ec) (hecb:Nat.ble ec 100=true)
  (hfs:s.cells.all (TC.free k)=true) (hf:(G8 k fr&&M4 k ob)=true):EffV P ⟨dst,.buildSlice t 1 #[(0,x)],ty,pos,af,gd⟩ fr ob (.s (.one (.mut k))) fr ((k,.tarr 1 ec s.cells)::ob):=by
 simp only [G08] at hf
 obtain ⟨hf1,hf2⟩:=hf
 obtain ⟨hob,hk,hp0⟩:=U0 hf2
 have hfr:=V8 hf1
 intro S G a w h
 have hec:=ht.out.2.2.1
 have hec':ec≤100:=by simpa using hecb
 obtain ⟨_,_,_,_,hzero⟩:=ht.out
 cases hi:P.info? e with
 | none=>simp [hi] at hzero
 | some i =>
 cases hz:i.zero with
 | none=>simp [hi,hz] at hzero
 | some z =>
 have hzv:(P.info? e).bind (·.zero)=some z:=by simp [hi,hz]
 have hcells:=F78 (s:=s) (N8 h hx hc)
 have hlen:(a.eval x).cells.size=ec:=by rw [←hsl,hcells.length];simp
 let cs0:Array Value:=(Array.range (1*ec)).map (z.cells[· % z.cells.size]!)
 have hcs0:cs0.size=ec:=by simp [cs0]
 have hfill:Instr.fill (fun i=>some (i*ec,ec)) cs0 [(0,a.eval x)]=some (a.eval x).cells.toList.toArray:=by
  have hfold:(a.eval x).cells.zipIdx.foldl (fun cs (x:Value × Nat)=>cs.setIfInBounds (0*ec+x.2) x.1) cs0=(cs0.toList.take (0*ec)++(a.eval x).cells.toList++cs0.toList.drop (0*ec+(a.eval x).cells.toList.length)).toArray:=by
   rw [←Array.foldl_toList,Array.toList_zipIdx]
   have:=B24 (0*ec) (a.eval x).cells.toList 0 cs0 (by simp;omega)
   simpa using this
  simp only [Instr.fill,hlen,ne_eq,not_true_eq_false,decide_false,Bool.false_or,decide_eq_true_eq]
  rw [if_neg (by omega),hfold]
  have:cs0.toList.drop (0*ec+(a.eval x).cells.toList.length)=[]:=by rw [List.drop_eq_nil_iff];simp;omega
  rw [this];simp
 refine I6 (w':=w.alloc (.cells (a.eval x).cells.toList.toArray e)) (v:=.slice (some ⟨w.heap.size,0,none⟩) 1 1) ?_ ?_
 ·simp only [execOp]
  refine L8 ?_
  simp only [Instr.buildSlice,Sem.run_bind,run_underlying ht.out.1,Result.andThen_ok,K2 ht.size]
  rw [if_neg (by omega)]
  rw [if_neg (by omega)]
  simp only [Sem.run_bind,Q1 hzv,Sem.run_pure,Result.andThen_ok]
  have hp:(#[(0,x)]:Array (Nat × Operand)).map (fun (x:Nat × Operand)=>match x with | (i,x)=>(i,a.eval x))=#[(0,a.eval x)]:=by simp
  rw [hp]
  have hfill':Instr.fill (fun i=>some (i*ec,ec)) ((Array.range (1*ec)).map (z.cells[· % z.cells.size]!)) (#[(0,a.eval x)]:Array (Nat × Value)).toList=some (a.eval x).cells.toList.toArray:=hfill
  rw [hfill']
  simp [newRow]
 ·have hxw:Below w.heap.size w (w.alloc (.cells (a.eval x).cells.toList.toArray e)):=(Below.refl _ _).alloc (Nat.le_refl _) _
  have hu:∀b,blk (.slice (some ⟨w.heap.size,0,none⟩) 1 1)=some b→w.heap.size≤b:=by intro b hb;simp [blk] at hb;omega
  have hsim:=h.new hp0 hk (o:=.tarr 1 ec s.cells) (u:=.slice (some ⟨w.heap.size,0,none⟩) 1 1) hxw hu (by
   refine ⟨w.heap.size,(a.eval x).cells.toList,e,rfl,by omega,heap_alloc_new w _,by rw [hsl];omega,?_⟩
   have h1:All2 (TC.rep (E2 (Mut S ((k,Ob.tarr 1 ec s.cells)::Obs.forget k ob) (upd G k (.slice (some ⟨w.heap.size,0,none⟩) 1 1))) (w.alloc (.cells (a.eval x).cells.toList.toArray e))) G) s.cells (a.eval x).cells.toList :=
    hcells.mono fun _ _=>TC.rep_mono (fun _ _ _ hr=>h.rd_new hxw hu hr)
   have h2:=h1.map (TC.forget k) (fun _ _=>TC.rep_forget (G':=upd G k (.slice (some ⟨w.heap.size,0,none⟩) 1 1)) (fun j hj=>c9 G _ hj))
   rwa [j9 hfs] at h2)
  rw [hfr,hob] at hsim
  exact ⟨_,hsim,(G7 _ _ _).symm,rfl⟩
end
end Go.AL
namespace Go.AL
open Go Go.RowKit
set_option linter.unusedVariables false
def TC.refs:TC→List Nat
 | .buf k _ _ _ _=>[k]
 | .ref k _=>[k]
 | .mut k=>[k]
 | .mref k _ _ _=>[k]
 | .msl k _ _ _=>[k]
 | .clo _ nf nc=>nf.map (·.1)++nc.map (·.1)
 | _=>[]
def S1.refs:S1→List Nat
 | .one t=>t.refs
 | .agg ts=>ts.flatMap TC.refs
def SV.refs:SV→List Nat
 | .s x=>x.refs
 | .tup l=>l.flatMap S1.refs
 | _=>[]
def Ob.refs:Ob→List Nat
 | .box ts=>ts.flatMap TC.refs
 | .tbx _ ts=>ts.flatMap TC.refs
 | .tarr _ _ ts=>ts.flatMap TC.refs
 | .growA _ _ _ _ _ _ ts=>ts.flatMap TC.refs
 | .growT _ _ _ ts=>ts.flatMap TC.refs
 | _=>[]
def C46:Fr→List Nat
 | []=>[]
 | (_,s)::r=>s.refs++C46 r
def B10:Obs→List Nat
 | []=>[]
 | (_,o)::r=>o.refs++B10 r
theorem A59 {G G':Gh}:∀{l:List (Nat × Nat)} {us:List Value},(∀k∈l.map (·.1),G' k=G k)→All2 (D03 G) l us→All2 (D03 G') l us
 | [],[],_,_=>trivial
 | [],_::_,_,h=>h.elim
 | _::_,[],_,h=>h.elim
 | p::l,u::us,hk,h=>by
  obtain ⟨⟨b,h1,h2⟩,h3⟩:=h
  exact ⟨⟨b,by rw [hk p.1 (by simp)];exact h1,h2⟩,A59 (fun k hm=>hk k (by simp at hm ⊢;exact .inr hm)) h3⟩
theorem TC.rep_congr {rd:Rd} {G G':Gh}:∀{t:TC} {u:Value},(∀k∈t.refs,G' k=G k)→t.rep rd G u→t.rep rd G' u
 | .p _,_,_,h=>h
 | .eref _ _ _ _ _,_,_,h=>h
 | .any,_,_,h=>h
 | .full _ _ _ _,_,_,h=>h
 | .buf k _ _ _ _,_,hk,h=>⟨by rw [hk k (by simp [TC.refs])];exact h.1,h.2⟩
 | .ref k _,_,hk,h=>by simp only [TC.rep];rw [hk k (by simp [TC.refs])];exact h
 | .mut k,_,hk,h=>by simp only [TC.rep];rw [hk k (by simp [TC.refs])];exact h
 | .mref k _ _ _,_,hk,h=>by simp only [TC.rep];rw [hk k (by simp [TC.refs])];exact h
 | .msl k _ _ _,_,hk,h=>by simp only [TC.rep];rw [hk k (by simp [TC.refs])];exact h
 | .clo _ nf nc,_,hk,⟨vs,ws,h1,h2,h3⟩=>⟨vs,ws,h1,A59 (fun k hm=>hk k (by simp only [TC.refs,G50];exact .inl hm)) h2,A59 (fun k hm=>hk k (by simp only [TC.refs,G50];exact .inr hm)) h3⟩
theorem X9 {rd:Rd} {G G':Gh}:∀{ts:List TC} {vs:List Value},(∀k∈ts.flatMap TC.refs,G' k=G k)→All2 (TC.rep rd G) ts vs→All2 (TC.rep rd G') ts vs
 | [],[],_,_=>trivial
 | [],_::_,_,h=>h.elim
 | _::_,[],_,h=>h.elim
 | t::ts,v::vs,hs,h=>⟨TC.rep_congr (fun k hm=>hs k (by rw [List.flatMap_cons];exact List.mem_append.2 (.inl hm))) h.1,X9 (fun k hm=>hs k (by rw [List.flatMap_cons];exact List.mem_append.2 (.inr hm))) h.2⟩
theorem S1.rep_congr {rd:Rd} {G G':Gh}:∀{t:S1} {u:Value},(∀k∈t.refs,G' k=G k)→t.rep rd G u→t.rep rd G' u
 | .one t,u,hs,h=>TC.rep_congr (t:=t) hs h
 | .agg ts,u,hs,⟨vs,h1,h2⟩=>⟨vs,h1,X9 hs h2⟩
theorem B84 {rd:Rd} {G G':Gh}:∀{ts:List S1} {vs:List Value},(∀k∈ts.flatMap S1.refs,G' k=G k)→All2 (S1.rep rd G) ts vs→All2 (S1.rep rd G') ts vs
 | [],[],_,_=>trivial
 | [],_::_,_,h=>h.elim
 | _::_,[],_,h=>h.elim
 | t::ts,v::vs,hs,h=>⟨S1.rep_congr (fun k hm=>hs k (by rw [List.flatMap_cons];exact List.mem_append.2 (.inl hm))) h.1,B84 (fun k hm=>hs k (by rw [List.flatMap_cons];exact List.mem_append.2 (.inr hm))) h.2⟩
theorem SV.rep_congr {rd:Rd} {G G':Gh}:∀{t:SV} {u:Value},(∀k∈t.refs,G' k=G k)→t.rep rd G u→t.rep rd G' u
 | .s t,u,hs,h=>S1.rep_congr (t:=t) hs h
 | .tup ts,u,hs,⟨vs,h1,h2⟩=>⟨vs,h1,B84 hs h2⟩
 | .any,_,_,_=>trivial
 | .un,_,_,h=>h
theorem ObOk.congr {S:Ctx} {rd:Rd} {G G':Gh} {w:World} {u:Value} {o:Ob} (hs:∀k∈o.refs,G' k=G k) (h:ObOk S rd G w u o):ObOk S rd G' w u o:=by
 cases o with
 | box ts=>obtain ⟨b,vs,t,h1,h2,h3⟩:=h;exact ⟨b,vs,t,h1,h2,X9 hs h3⟩
 | tbx e ts=>obtain ⟨b,vs,h1,h2,h3⟩:=h;exact ⟨b,vs,h1,h2,X9 hs h3⟩
 | tarr n ec ts=>obtain ⟨b,vs,t,h1,h2,h3,h4,h5⟩:=h;exact ⟨b,vs,t,h1,h2,h3,h4,X9 hs h5⟩
 | growA e α ec c xs p ts=>obtain ⟨vs,h1,h2,h3,h4,h5,h6⟩:=h;exact ⟨vs,h1,h2,h3,h4,h5,X9 hs h6⟩
 | growT e n ec ts=>obtain ⟨vs,h1,h2,h3,h4⟩:=h;exact ⟨vs,h1,h2,h3,X9 hs h4⟩
 | arr α ec c xs=>exact h
 | map κ kf kvs=>exact h
 | spare n ec e=>exact h
 | grow e α ec c xs=>exact h
theorem C47:∀{fr:Fr} {i:Nat} {s:SV},C9 fr i=some s→∀k∈s.refs,k∈C46 fr
 | [],i,s,h,_,_=>by cases h
 | (j,x)::r,i,s,h,k,hm=>by
  unfold C9 at h
  unfold C46
  cases hb:Nat.beq j i
  ·rw [hb] at h;exact List.mem_append.2 (.inr (C47 h k hm))
  ·rw [hb] at h;cases h;exact List.mem_append.2 (.inl hm)
theorem B11:∀{ob:Obs} {i:Nat} {o:Ob},C8 ob i=some o→∀k∈o.refs,k∈B10 ob
 | [],i,s,h,_,_=>by cases h
 | (j,x)::r,i,s,h,k,hm=>by
  unfold C8 at h
  unfold B10
  cases hb:Nat.beq j i
  ·rw [hb] at h;exact List.mem_append.2 (.inr (B11 h k hm))
  ·rw [hb] at h;cases h;exact List.mem_append.2 (.inl hm)
theorem D18:∀{a b:Obs} {k:Nat},C8 (a++b) k=match C8 a k with | some o=>some o | none=>C8 b k
 | [],b,k=>rfl
 | (j,x)::r,b,k=>by
  show (bif Nat.beq j k then some x else C8 (r++b) k)=(match (bif Nat.beq j k then some x else C8 r k) with | some o=>some o | none=>C8 b k)
  cases Nat.beq j k
  ·exact D18 (a:=r)
  ·rfl
def F11 (rs:List S1) (ob':Obs) (fr:Fr) (ob:Obs):Bool :=
 (rs.flatMap S1.refs++B10 ob').all (fun k=>(C8 ob' k).isSome)&&(C46 fr++B10 ob).all (fun k=>(C8 ob' k).isNone)&&ob.all (fun p=>(C8 ob' p.1).isNone)
theorem E09:∀{ob:Obs} {k:Nat} {o:Ob},C8 ob k=some o→∃p∈ob,p.1=k
 | [],k,o,h=>by cases h
 | (j,x)::r,k,o,h=>by
  unfold C8 at h
  cases hb:Nat.beq j k
  ·rw [hb] at h;obtain ⟨p,h1,h2⟩:=E09 h;exact ⟨p,List.mem_cons_of_mem _ h1,h2⟩
  ·exact ⟨_,List.mem_cons_self,by simpa using hb⟩
theorem w9 {w:World} {B B':Nat} {e:TypeId} {ec n:Nat} {v:Value} {xs:List Value} (hB:B≤B') (h:w.ownsRow B' e ec v n xs):w.ownsRow B e ec v n xs :=
 ⟨h.1,h.2.imp id fun ⟨b,cap,cur,hg,hb,r⟩=>⟨b,cap,cur,hg,Nat.le_trans hB hb,r⟩⟩
theorem ObOk.low {S S':Ctx} {rd:Rd} {G:Gh} {w:World} {u:Value} {o:Ob} (hB:S.B≤S'.B) (h:ObOk S' rd G w u o):ObOk S rd G w u o:=by
 cases o with
 | box ts=>exact h
 | tbx e ts=>exact h
 | tarr n ec ts=>exact h
 | arr α ec c xs=>exact h
 | map κ kf kvs=>exact h
 | spare n ec e=>obtain ⟨vs,h1⟩:=h;exact ⟨vs,w9 hB h1⟩
 | grow e α ec c xs=>obtain ⟨vs,h1,h2⟩:=h;exact ⟨vs,w9 hB h1,h2⟩
 | growA e α ec c xs p ts=>obtain ⟨vs,h1,h2⟩:=h;exact ⟨vs,w9 hB h1,h2⟩
 | growT e n ec ts=>obtain ⟨vs,h1,h2⟩:=h;exact ⟨vs,w9 hB h1,h2⟩
section
variable {P:Program} {nt:Nat} {ops:Array Oper} {rest:List Oper} {fr:Fr} {ob:Obs} {Q:Post} {d:Nat}
theorem l_new {f:FuncId} {xs:List Operand} {ats:Array TypeId} {ty:TypeId} {pos:String} {af:Array Edge} {args:List S1} {ks:List Nat} {post:List S1→Obs→Prop}
  (hf:Met P f args [] [] ks post) (ha:C28 fr xs=some args) (hc:xs.all H6=true) (hst:(args.flatMap S1.refs).isEmpty=true) (hd:Nat.blt d nt=true)
  (kk:∀rs ob',post rs ob'→F11 rs ob' fr ob=true∧WpL P nt ops rest ((d,resS rs)::fr) (ob'++ob) Q):WpL P nt ops (⟨some d,.call ⟨.value (.func f),xs.toArray,ats⟩,ty,pos,af,none⟩::rest) fr ob Q:=by
 intro S G a w hn h
 have hvals:=A76 h xs args ha hc
 let S':Ctx:={ S with w0:=w,M0:=fun b i=>Mut S ob G b i,io:=fun _=>False }
 have hSB:S'.B=w.heap.size:=rfl
 have hhigh:High ([]:Fr):=fun i s hi=>by cases hi
 have hgrd:Grd P (fun _=>False) w:=by
  obtain ⟨wg,h1,h2,h3⟩:=h.grd
  refine ⟨wg,h1,Nat.le_trans h2 h.size,fun j hj=>?_⟩
  obtain ⟨h4,h5⟩:=h3 j hj
  exact ⟨(h.keep j (Nat.lt_of_lt_of_le hj h2) h5).trans h4,fun e=>e⟩
 have hs:Sim P S' [] [] G a w:={ nt:=h.nt,ntb:=h.ntb,defers:=h.defers,os:=rfl,tape:=rfl,output:=rfl,size:=Nat.le_refl _,keep:=fun _ _ _=>rfl,m0:=fun b i hm=>h.mut_lt hm,m0io:=fun _ _ _ e=>e,grd:=hgrd,pin:=h.pin,old:=fun _ _ _ e=>(by cases e),dis:=fun _ _ _ _ _ e=>(by cases e),obs:=fun _ _ e=>(by cases e),facts:=fun _ _ e=>(by cases e) }
 have hrd0:∀b i z,E2 (Mut S ob G) w b i z→E2 (Mut S' [] G) w b i z:=fun b i z hr=>⟨hr.1,fun hm=>hr.2 (by
  rcases hm with hm | ⟨k,o,hk,_⟩
  ·exact hm
  ·cases hk)⟩
 have hcalls:=hf.2 hhigh S' G a w _ hs (hvals.mono fun _ _=>S1.rep_mono hrd0)
 refine wpList_plain rfl fun K hK=>K1 (K:=fun v w'=>∃rs ob' G',post rs ob'∧A16 (E2 (Mut S' ob' G') w') G' rs v∧Sim P S' (K5 ks []) ob' G' a w') ?_ ?_
 ·have he:(execOp a.eval ⟨some d,.call ⟨.value (.func f),xs.toArray,ats⟩,ty,pos,af,none⟩).run P w=.ok (.enter f (xs.map a.eval).toArray) w:=by
   have:=V7 (P:=P) (f:=f) (args:=(xs.map a.eval).toArray) (w:=w) hf.1
   have hm:xs.toArray.map a.eval=(xs.map a.eval).toArray:=by simp
   simp only [execOp,resolve,Act.eval,Deferred.ofValue,Sem.run_bind,Sem.run_pure,Result.andThen_ok,invoke]
   rw [show (#[]:Array Value)++Array.map a.eval xs.toArray++#[]=(xs.map a.eval).toArray by rw [←hm];simp]
   exact this
  unfold Does
  rw [he]
  refine hcalls.mono ?_
  rintro e w' ⟨v,rs,ob',G',rfl,hpost,hres,hs'⟩
  exact ⟨v,rfl,rs,ob',G',hpost,hres,hs'⟩
 ·rintro v w' ⟨rs,ob',G',hp,hres,hs'⟩
  obtain ⟨hnew,hk3⟩:=kk rs ob' hp
  simp only [F11,G08,List.all_eq_true,G50] at hnew
  obtain ⟨⟨n1,n2⟩,n3⟩:=hnew
  have hdj:∀{k o},C8 ob k=some o→C8 ob' k=none:=fun {k o} hk=>by
   obtain ⟨p,p1,p2⟩:=E09 hk
   have:=n3 p p1
   rw [p2] at this;simpa using this
  obtain ⟨H,hH⟩:∃H:Gh,H=fun k=>match C8 ob' k with | some _=>G' k | none=>G k:=⟨_,rfl⟩
  have hH1:∀{k},(C8 ob' k).isSome=true→H k=G' k:=fun {k} hk=>by
   rw [hH];dsimp only
   cases hg:C8 ob' k with
   | none=>rw [hg] at hk;cases hk
   | some o=>rfl
  have hH2:∀{k},(C8 ob' k).isNone=true→H k=G k:=fun {k} hk=>by
   rw [hH];dsimp only
   cases hg:C8 ob' k with
   | none=>rfl
   | some o=>rw [hg] at hk;cases hk
  have hlt:d < S.nt:=by rw [hn];simpa using hd
  have hsz:w.heap.size≤w'.heap.size:=hs'.size
  have hkeep:∀k,k < w.heap.size→w'.heap[k]?=w.heap[k]?:=fun k hk=>hs'.keep k hk (fun e=>e)
  have hold:∀k o b,C8 ob' k=some o→blk (G' k)=some b→w.heap.size≤b:=fun k o b h1 h2=>by
   rcases hs'.old k o b h1 h2 with h3 | h3
   ·exact h3
   ·exact h3.1.elim
  have hcase:∀{k o},C8 (ob'++ob) k=some o→(C8 ob' k=some o∧H k=G' k)∨(C8 ob k=some o∧H k=G k):=fun {k o} hk=>by
   rw [D18] at hk
   cases hg:C8 ob' k with
   | some o'=>rw [hg] at hk;exact .inl ⟨hk,hH1 (by rw [hg];rfl)⟩
   | none=>rw [hg] at hk;exact .inr ⟨hk,hH2 (by rw [hg];rfl)⟩
  have hrd1:∀b i z,E2 (Mut S' ob' G') w' b i z→E2 (Mut S (ob'++ob) H) w' b i z:=fun b i z hr=>⟨hr.1,fun hm=>hr.2 (by
   rcases hm with hm | ⟨k,o,hk,hb⟩
   ·exact .inl (.inl hm)
   ·rcases hcase hk with ⟨k1,e⟩ | ⟨k1,e⟩
    ·rw [e] at hb;exact .inr ⟨k,o,k1,hb⟩
    ·rw [e] at hb;exact .inl (.inr ⟨k,o,k1,hb⟩))⟩
  have hrd2:∀b i z,E2 (Mut S ob G) w b i z→E2 (Mut S (ob'++ob) H) w' b i z:=fun b i z hr=>by
   have hlt:b < w.heap.size:=World.block_lt_of_cell? w _ hr.1
   refine ⟨by rw [World.cell?_of_block (w:=w) (a:=⟨b,i,none⟩) (hkeep b hlt)];exact hr.1,fun hm=>?_⟩
   rcases hm with hm | ⟨k,o,hk,hb⟩
   ·exact hr.2 (.inl hm)
   ·rcases hcase hk with ⟨k1,e⟩ | ⟨k1,e⟩
    ·rw [e] at hb;have:=hold k o b k1 hb.1;omega
    ·rw [e] at hb;exact hr.2 (.inr ⟨k,o,k1,hb⟩)
  have hbelow:Below w.heap.size w w':=⟨hs'.os,hs'.tape,hs'.output,hsz,fun k hk=>hkeep k hk⟩
  have hsim:Sim P S fr (ob'++ob) H a w':=by
   refine { nt:=h.nt,ntb:=h.ntb,defers:=h.defers,os:=hs'.os.trans h.os,tape:=hs'.tape.trans h.tape,output:=hs'.output.trans h.output,size:=Nat.le_trans h.size hsz,keep:=fun k hk hio=>(hkeep k (Nat.lt_of_lt_of_le hk h.size)).trans (h.keep k hk hio),m0:=h.m0,m0io:=h.m0io,grd:=h.grd,pin:=fun k hk=>?_,old:=fun k o b h1 h2=>?_,dis:=fun k k' o o' b h1 h2 h3 h4=>?_,obs:=fun k o hk=>?_,facts:=fun i s hi=>?_ }
   ·cases hg:C8 ob' k with
    | some o=>rw [hH1 (by rw [hg];rfl)];exact hs'.pin k hk
    | none=>rw [hH2 (by rw [hg];rfl)];exact h.pin k hk
   ·rcases hcase h1 with ⟨k1,e⟩ | ⟨k1,e⟩
    ·rw [e] at h2;exact .inl (Nat.le_trans h.size (hold k o b k1 h2))
    ·rw [e] at h2;exact h.old k o b k1 h2
   ·rcases hcase h1 with ⟨k1,e1⟩ | ⟨k1,e1⟩<;>rcases hcase h2 with ⟨k2,e2⟩ | ⟨k2,e2⟩<;>rw [e1] at h3<;>rw [e2] at h4
    ·exact hs'.dis k k' o o' b k1 k2 h3 h4
    ·have:=hold k o b k1 h3
     have:=(h.obs k' o' k2).blk_lt _ h4
     omega
    ·have:=hold k' o' b k2 h4
     have:=(h.obs k o k1).blk_lt _ h3
     omega
    ·exact h.dis k k' o o' b k1 k2 h3 h4
   ·rcases hcase hk with ⟨k1,e⟩ | ⟨k1,e⟩
    ·rw [e]
     exact (((hs'.obs k o k1).low (S:=S) (by rw [hSB];exact h.size)).ext hrd1 (Below.refl _ _)).congr fun j hj=>hH1 (n1 j (.inr (B11 k1 j hj)))
    ·rw [e]
     exact ((h.obs k o k1).ext hrd2 hbelow).congr fun j hj=>hH2 (n2 j (.inr (B11 k1 j hj)))
   ·exact SV.rep_congr (fun j hj=>hH2 (n2 j (.inl (C47 hi j hj)))) (SV.rep_mono hrd2 (h.facts i s hi))
  have hres':(resS rs).rep (E2 (Mut S (ob'++ob) H) w') H v:=by
   refine SV.rep_congr (fun j hj=>hH1 (n1 j (.inl ?_))) (SV.rep_mono hrd1 hres)
   revert hj
   match rs with
   | []=>intro hj;cases hj
   | [r]=>intro hj;simpa [resS,SV.refs] using hj
   | r::r2::rest=>intro hj;exact hj
  exact hK _ _ (hk3 S H _ w' hn (hsim.put hlt hres'))
end
end Go.AL
namespace Go.AL
open Go Go.RowKit
set_option linter.unusedVariables false
section
variable {P:Program} {dst:Option Tmp} {ty:TypeId} {pos:String} {af:Array Edge} {gd:Option (Nat × Bool)} {fr:Fr} {ob:Obs}
end
end Go.AL
namespace Go.AL
open Go Go.RowKit
set_option linter.unusedVariables false
section
variable {P:Program} {nt:Nat} {ops:Array Oper} {rest:List Oper} {fr:Fr} {ob:Obs} {Q:Post} {d:Nat}
theorem F55 {f:FuncId} {args:Array Operand} {ats:Array TypeId} {ty:TypeId} {pos:String} {af:Array Edge} {ps:List PV} {post:List PV→Prop} {fr2:Fr} {ob2:Obs} (hs:Sees P nt fr ob fr2 ob2)
  (hf:FnOk P f ps post) (ha:A50 fr2 args.toList=some ps) (hc:args.toList.all H6=true) (hd:Nat.blt d nt=true)
  (k:∀rs,post rs→(∀(rd rd':Rd) v,ResRep rd rs v→ResRep rd' rs v)∧WpL P nt ops rest ((d,D94 rs)::fr) ob Q):WpL P nt ops (⟨some d,.call ⟨.value (.func f),args,ats⟩,ty,pos,af,none⟩::rest) fr ob Q:=by
 intro S G a w hn h
 obtain ⟨G',h'⟩:=hs S G a w hn h
 have hrep:=B03 h' args.toList ps ha hc
 have hcall:=hf.2 w (Mut S ob2 G') (args.toList.map a.eval) h.grdW (fun b i hm=>h'.mut_lt hm) hrep
 have hargs:(args.toList.map a.eval).toArray=args.map a.eval:=by rw [←Array.toList_map,Array.toArray_toList]
 refine wpList_plain rfl fun K hK=>K1 (K:=fun v w'=>∃rs,post rs∧ResRep (E2 (Mut S ob2 G') w') rs v∧Below w.heap.size w w') ?_ ?_
 ·have he:(execOp a.eval ⟨some d,.call ⟨.value (.func f),args,ats⟩,ty,pos,af,none⟩).run P w=.ok (.enter f (args.map a.eval)) w:=by
   simp only [execOp,resolve,Act.eval,Deferred.ofValue,Sem.run_bind,Sem.run_pure,Result.andThen_ok,invoke]
   rw [show (#[]:Array Value)++Array.map a.eval args++#[]=args.map a.eval by simp]
   exact V7 hf.1
  unfold Does
  rw [he]
  rw [hargs] at hcall
  refine hcall.mono ?_
  rintro e w' ⟨v,rs,rfl,hp,hr,hb⟩
  exact ⟨v,rfl,rs,hp,hr,hb⟩
 ·rintro v w' ⟨rs,hp,hr,hb⟩
  obtain ⟨k1,k2⟩:=k rs hp
  have hlt:d < S.nt:=by rw [hn];simpa using hd
  exact hK _ _ (k2 S G _ w' hn ((h.ext hb).put hlt (ResRep.sv (k1 _ _ _ hr))))
end
end Go.AL
namespace Go.AL
open Go Go.RowKit
set_option linter.unusedVariables false
section
variable {P:Program} {nt:Nat} {ops:Array Oper}
end
end Go.AL
namespace Go.AL
open Go Go.RowKit
set_option linter.unusedVariables false
section
variable {P:Program} {nt:Nat} {ops:Array Oper} {rest:List Oper} {fr:Fr} {ob:Obs} {K:Fr→Obs→Prop} {d:Nat}
end
end Go.AL
namespace Go.AL
open Go Go.RowKit
set_option linter.unusedVariables false
section
variable {P:Program} {nt:Nat} {fr:Fr} {ob:Obs} {dst:Option Tmp} {ty:TypeId} {pos:String} {af:Array Edge} {gd:Option (Nat × Bool)}
theorem G05 (k:Nat) {e:TypeId} {α:Type} {ec:Nat} {c:α→Nat→Cell} {xs:List α} (hk:C8 ob k=some (.grow e α ec c xs)) :
  Sees P nt fr ob fr ((k,.growT e xs.length ec (K0 ec c xs))::ob):=fun S G a w hn h=>by
 refine ⟨G,h.retold hk (fun b i ho=>⟨ho.1,trivial⟩) ?_⟩
 rintro rd ⟨vs,hown,hlen,hc⟩
 refine ⟨vs,hown,hlen,G1 xs,?_⟩
 refine U8 (by rw [G1,hown.1]) fun q t z h1 h2=>?_
 have hq:q < xs.length*ec:=by have:=(List.getElem?_eq_some_iff.1 h1).1;rwa [G1] at this
 have hec:0 < ec:=Nat.pos_of_ne_zero fun e=>by rw [e] at hq;simp at hq
 have hi:q / ec < xs.length:=Nat.div_lt_of_lt_mul (by rw [Nat.mul_comm];exact hq)
 have hj:q % ec < ec:=Nat.mod_lt _ hec
 have hqq:q=q / ec*ec+q % ec:=by rw [Nat.mul_comm];exact (Nat.div_add_mod q ec).symm
 have h3:=Y7 (c:=c) xs (q / ec) (q % ec) _ (G09 hi) hj
 rw [←hqq,h1] at h3
 cases h3
 obtain ⟨z',h4,h5⟩:=hc (q / ec) hi (q % ec) hj
 rw [←hqq,h2] at h4
 cases h4
 exact h5
theorem G06 (k:Nat) {e:TypeId} {α:Type} {ec:Nat} {c:α→Nat→Cell} {n:Nat} {ts:List TC} (xs:List α) (hk:C8 ob k=some (.growT e n ec ts)) (hn:xs.length=n) (hts:ts=K0 ec c xs) :
  Sees P nt fr ob fr ((k,.grow e α ec c xs)::ob):=by
 subst hts hn
 intro S G a w hn h
 refine ⟨G,h.retold hk (fun b i ho=>⟨ho.1,trivial⟩) ?_⟩
 rintro rd ⟨vs,hown,hlen,hl,hc⟩
 refine ⟨vs,hown,hlen,fun i hi j hj=>?_⟩
 have hf:=Y7 (c:=c) xs i j _ (G09 hi) hj
 obtain ⟨z,hz1,hz2⟩:=hc.get _ _ hf
 exact ⟨z,hz1,hz2⟩
theorem B12 {rd:Rd} {G:Gh}:∀{ts:List TC} {vs:List Value} (o n:Nat),All2 (TC.rep rd G) ts vs→All2 (TC.rep rd G) ((ts.drop o).take n) ((vs.drop o).take n)
 | [],[],o,n,_=>by simp only [List.drop_nil,List.take_nil];exact trivial
 | t::ts,v::vs,0,0,h=>trivial
 | t::ts,v::vs,0,n+1,h=>⟨h.1,B12 (ts:=ts) (vs:=vs) 0 n h.2⟩
 | t::ts,v::vs,o+1,n,h=>B12 (ts:=ts) (vs:=vs) o n h.2
 | [],_::_,_,_,h=>h.elim
 | _::_,[],_,_,h=>h.elim
theorem C48 {x:Operand} {t e:TypeId} {m k q o n:Nat} {ec:Nat} {ts ss:List TC} [ht:TyAgg P t m] (hx:opv fr x=some (.s (.one (.mref k ec q o)))) (hk:C8 ob k=some (.growT e n ec ts)) (hv:(ts.drop (q*ec+o)).take m=ss) (hl:ss.length=m) :
  Neu P ⟨dst,.load t x,ty,pos,af,gd⟩ fr ob (fun s'=>s'=.s (.agg ss)) :=
 E0 fun S G a w h=>by
  obtain ⟨b,m',cap,hg,hu⟩:=F9 h hx
  obtain ⟨vs,hown,_,htl,ha⟩:=h.obs k _ hk
  have ha2:=B12 (q*ec+o) m ha
  rw [hv] at ha2
  have hl2:((vs.drop (q*ec+o)).take m).length=m:=by rw [←ha2.length,hl]
  refine ⟨.agg ((vs.drop (q*ec+o)).take m).toArray,?_,_,rfl,ha2⟩
  simp only [execOp,hu]
  refine L8 ?_
  have hc:∀j z,((vs.drop (q*ec+o)).take m)[j]?=some z→w.cell? ⟨b,q*ec+o+j,none⟩=some z:=fun j z hz=>by
   have hj:j < m:=by have:=(List.getElem?_eq_some_iff.1 hz).1;omega
   rw [G16 hj,G26] at hz
   have:=hown.cells (g:=b) (by rw [hg];rfl) (q*ec+o+j) z hz
   simpa [Addr.add_lit] using this
  simp [Instr.loadAt,Instr.sureAddr,L9 (ht:=ht) (o:=q*ec+o) hl2 hc]
theorem W0 {x y:Operand} {k k2 n m:Nat} {ec bytes:Nat} {ts us:List TC} {t e:TypeId} [ht:TySl P t e ec bytes] (hx:opv fr x=some (.s (.one (.mut k)))) (hk:C8 ob k=some (.growT e n ec ts))
  (hy:opv fr y=some (.s (.one (.mut k2)))) (hk2:C8 ob k2=some (.tarr m ec us)) (hlen:n+m≤1073741824) (hp:Nat.blt k 1000000=true) :
  EffV P ⟨dst,.call ⟨.builtin .append,#[x,y],#[t,t]⟩,ty,pos,af,gd⟩ fr ob (.s (.one (.mut k))) (Fr.forget k fr) ((k,.growT e (n+m) ec ((ts++us).map (TC.forget k)))::Obs.forget k ob):=by
 intro S G a w h
 have hec:=ht.out.2.2.1
 obtain ⟨hux,_⟩:=F9 h hx
 obtain ⟨huy,_⟩:=F9 h hy
 obtain ⟨b2,vs,t2,hG2,hm2,hh2,htl,ha2⟩:=h.obs k2 _ hk2
 rw [hG2] at huy
 have hvl:vs.length=m*ec:=by rw [←ha2.length,htl]
 obtain ⟨ws,hown,_,hwl,hws⟩:=h.obs k _ hk
 obtain ⟨v',w',hrun,hown',hgrow,hblk',hleave⟩:=i7 (P:=P) (ty:=ty) S.B ht hown h.size (u:=a.eval y) (ad:=some ⟨b2,0,none⟩) (m:=m) (c:=m) (news:=vs) huy (by intro h;cases h) (Nat.le_refl _) hvl
  (fun b o hb j z hz=>by
   injection hb with hb;injection hb with e1 e2;subst e1;subst e2
   rw [Lib.cell_of_heap hh2]
   simpa using hz)
  (.inr ⟨b2,0,rfl⟩) (E07 ha2) hlen
 have hbv:(G k).ownBlock=blk (G k):=S4 (Q2 hown)
 have hread:∀b i z,E2 (Mut S ob G) w b i z→w'.cell? ⟨b,i,none⟩=some z:=by
  intro b i z hr
  have hlt:b < w.heap.size:=World.block_lt_of_cell? w _ hr.1
  by_cases hb:blk (G k)=some b
  ·exact absurd (Or.inr ⟨k,_,hk,hb,trivial⟩) hr.2
  ·rw [World.cell?_of_block (w:=w) (a:=⟨b,i,none⟩) (hgrow.block b hlt (by rw [hbv];exact fun e=>hb e.symm))]
   exact hr.1
 have hsim:=h.turn (o':=.growT e (n+m) ec ((ts++us).map (TC.forget k))) (u':=v') (by simpa using hp) hk hgrow.os hgrow.tape hgrow.output hgrow.size (fun j hj hb=>hgrow.block j hj (by rw [hbv];exact fun e=>hb e.symm)) hread hblk'
  (by
   intro b i hb ho
   rcases hblk' b ho.1 with h1 | h1
   ·exact ⟨h1,trivial⟩
   ·omega)
  (fun rd hrd' G' hG'=>by
   refine ⟨_,hown',by omega,by rw [G35,G07,hwl,htl,G33],?_⟩
   exact ((hws.append ha2).mono fun _ _=>TC.rep_mono hrd').map (TC.forget k) fun _ _=>TC.rep_forget hG')
 exact I6 (w':=w') (v:=v') (by simp [execOp,resolve,invoke,builtin,hux,hrun]) ⟨upd G k v',hsim,(G7 _ _ _).symm,A54 hown'⟩
end
end Go.AL
namespace Go.AL
open Go Go.RowKit
set_option linter.unusedVariables false
section
variable {P:Program} {nt:Nat} {fr:Fr} {ob:Obs} {dst:Option Tmp} {ty:TypeId} {pos:String} {af:Array Edge} {gd:Option (Nat × Bool)}
end
end Go.AL
namespace Go.AL
open Go Go.RowKit
set_option linter.unusedVariables false
section
variable {P:Program} {nt:Nat} {fr gf:Fr} {ob:Obs}
theorem TC.forget_comm (k q:Nat) (t:TC):(t.forget q).forget k=(t.forget k).forget q:=by
 cases t with
 | p c=>rfl
 | buf k' α ec c xs=>cases hb:Nat.beq k' k<;>cases hq:Nat.beq k' q<;>simp [TC.forget,hb,hq]
 | ref k' o=>cases hb:Nat.beq k' k<;>cases hq:Nat.beq k' q<;>simp [TC.forget,hb,hq]
 | eref α ec c x o=>rfl
 | «mut» k'=>cases hb:Nat.beq k' k<;>cases hq:Nat.beq k' q<;>simp [TC.forget,hb,hq]
 | mref k' ec i o=>cases hb:Nat.beq k' k<;>cases hq:Nat.beq k' q<;>simp [TC.forget,hb,hq]
 | any=>rfl
 | clo f nf nc=>cases hb:(A90 k nf||A90 k nc)<;>cases hq:(A90 q nf||A90 q nc)<;>simp [TC.forget,hb,hq]
 | msl k' ec o n=>cases hb:Nat.beq k' k<;>cases hq:Nat.beq k' q<;>simp [TC.forget,hb,hq]
 | full α ec c xs=>rfl
theorem S1.forget_comm (k q:Nat) (s:S1):(s.forget q).forget k=(s.forget k).forget q:=by
 cases s with
 | one t=>simp only [S1.forget,TC.forget_comm k q t]
 | agg ts=>simp only [S1.forget,G43];congr 1;exact List.map_congr_left fun t _=>TC.forget_comm k q t
theorem SV.forget_comm (k q:Nat) (s:SV):(s.forget q).forget k=(s.forget k).forget q:=by
 cases s with
 | s x=>simp only [SV.forget,S1.forget_comm k q x]
 | tup l=>simp only [SV.forget,G43];congr 1;exact List.map_congr_left fun t _=>S1.forget_comm k q t
 | any=>rfl
 | un=>rfl
theorem Fr.forget_comm (k q:Nat) (fr:Fr):Fr.forget k (Fr.forget q fr)=Fr.forget q (Fr.forget k fr):=by
 unfold Fr.forget
 rw [G43,G43]
 exact List.map_congr_left fun p _=>by simp only [Function.comp];rw [SV.forget_comm]
end
end Go.AL
namespace Go.AL
open Go Go.RowKit
set_option linter.unusedVariables false
section
variable {P:Program} {nt:Nat} {fr:Fr} {ob:Obs}
def TC.ren (j k:Nat):TC→TC
 | .buf k' α ec c xs=>cond (Nat.beq k' j) (.buf k α ec c xs) (.buf k' α ec c xs)
 | .ref k' off=>cond (Nat.beq k' j) (.ref k off) (.ref k' off)
 | .mut k'=>cond (Nat.beq k' j) (.mut k) (.mut k')
 | .mref k' ec i off=>cond (Nat.beq k' j) (.mref k ec i off) (.mref k' ec i off)
 | .msl k' ec off n=>cond (Nat.beq k' j) (.msl k ec off n) (.msl k' ec off n)
 | t=>t
def Ob.ren (j k:Nat):Ob→Ob
 | .box ts=>.box (ts.map (TC.ren j k))
 | .tbx e ts=>.tbx e (ts.map (TC.ren j k))
 | .tarr n ec ts=>.tarr n ec (ts.map (TC.ren j k))
 | .growA e α ec c xs p ts=>.growA e α ec c xs p (ts.map (TC.ren j k))
 | .growT e n ec ts=>.growT e n ec (ts.map (TC.ren j k))
 | o=>o
theorem F85 {rd:Rd} {G:Gh} {j k:Nat} (hG:G k=G j):∀{t:TC} {u:Value},t.rep rd G u→(t.ren j k).rep rd G u
 | .p c,u,h=>h
 | .buf k' α ec c xs,u,h=>by
  simp only [TC.ren]
  cases hb:Nat.beq k' j
  ·exact h
  ·have e:k'=j:=Nat.eq_of_beq_eq_true hb
   subst e
   simp only [cond,TC.rep];rw [hG];exact h
 | .ref k' off,u,h=>by
  simp only [TC.ren]
  cases hb:Nat.beq k' j
  ·exact h
  ·have e:k'=j:=Nat.eq_of_beq_eq_true hb
   subst e
   simp only [cond,TC.rep];rw [hG];exact h
 | .eref _ _ _ _ _,u,h=>h
 | .mut k',u,h=>by
  simp only [TC.ren]
  cases hb:Nat.beq k' j
  ·exact h
  ·have e:k'=j:=Nat.eq_of_beq_eq_true hb
   subst e
   simp only [cond,TC.rep];rw [hG];exact h
 | .mref k' ec i off,u,h=>by
  simp only [TC.ren]
  cases hb:Nat.beq k' j
  ·exact h
  ·have e:k'=j:=Nat.eq_of_beq_eq_true hb
   subst e
   simp only [cond,TC.rep];rw [hG];exact h
 | .any,u,h=>h
 | .clo _ _ _,_,h=>h
 | .msl k' ec off n,u,h=>by
  simp only [TC.ren]
  cases hb:Nat.beq k' j
  ·exact h
  ·have e:k'=j:=Nat.eq_of_beq_eq_true hb
   subst e
   simp only [cond,TC.rep];rw [hG];exact h
 | .full _ _ _ _,u,h=>h
theorem ObOk.ren {S:Ctx} {rd:Rd} {G:Gh} {w:World} {u:Value} {j k:Nat} {o:Ob} (hG:G k=G j) (h:ObOk S rd G w u o):ObOk S rd G w u (o.ren j k):=by
 cases o with
 | box ts=>obtain ⟨b,vs,t,h1,h2,h3⟩:=h;exact ⟨b,vs,t,h1,h2,h3.map (TC.ren j k) fun _ _=>F85 hG⟩
 | tbx e ts=>obtain ⟨b,vs,h1,h2,h3⟩:=h;exact ⟨b,vs,h1,h2,h3.map (TC.ren j k) fun _ _=>F85 hG⟩
 | tarr n ec ts=>obtain ⟨b,vs,t,h1,hl,h2,hn,h3⟩:=h;exact ⟨b,vs,t,h1,hl,h2,by simpa using hn,h3.map (TC.ren j k) fun _ _=>F85 hG⟩
 | arr α ec c xs=>exact h
 | spare n ec e=>exact h
 | grow e α ec c xs=>exact h
 | map κ kf kvs=>exact h
 | growA e α ec c xs p ts=>obtain ⟨vs,h1,h2,h3,h4,h5,h6⟩:=h;exact ⟨vs,h1,h2,h3,by simpa using h4,h5,h6.map (TC.ren j k) fun _ _=>F85 hG⟩
 | growT e n ec ts=>obtain ⟨vs,h1,h2,h3,h4⟩:=h;exact ⟨vs,h1,h2,by simpa using h3,h4.map (TC.ren j k) fun _ _=>F85 hG⟩
theorem own_ren {u:Value} {j k b i:Nat} {o:Ob}:Own u (o.ren j k) b i↔Own u o b i:=by cases o<;>simp [Own,Ob.ren]
theorem G00 {j k:Nat} {ob':Obs} (hj:Nat.blt j 1000000=true) (hk:Nat.blt k 1000000=true) (hjk:j≠k) (hfr:G8 k fr=true)
  (hm:∀i o,C8 ob' i=some o→i≠j∧∃o0,C8 ob (if i=k then j else i)=some o0∧o0.free k=true∧o=o0.ren j k):Sees P nt fr ob fr ob':=by
 intro S G a w hn h
 have hj':j < 1000000:=by simpa using hj
 have hk':k < 1000000:=by simpa using hk
 obtain ⟨G',hG'⟩:∃G':Gh,G'=fun i=>if i=k then G j else G i:=⟨_,rfl⟩
 have g1:∀i,i≠k→G' i=G i:=fun i hi=>by rw [hG'];exact if_neg hi
 have g2:G' k=G j:=by rw [hG'];exact if_pos rfl
 have g3:G' k=G' j:=by rw [g2,g1 j hjk]
 obtain ⟨r,hr⟩:∃r:Nat→Nat,r=fun i=>if i=k then j else i:=⟨_,rfl⟩
 have r1:∀i,G' i=G (r i):=fun i=>by
  rw [hr]
  by_cases hi:i=k
  ·subst hi;rw [g2];simp
  ·rw [g1 i hi];simp [hi]
 have hget:∀i o,C8 ob' i=some o→i≠j∧∃o0,C8 ob (r i)=some o0∧o0.free k=true∧o=o0.ren j k:=fun i o hi=>by rw [hr];exact hm i o hi
 have rinj:∀i i',i≠j→i'≠j→r i=r i'→i=i':=by
  intro i i' h1 h2 h3
  rw [hr] at h3
  dsimp only at h3
  by_cases a1:i=k<;>by_cases a2:i'=k
  ·rw [a1,a2]
  ·rw [if_pos a1,if_neg a2] at h3;exact absurd h3.symm h2
  ·rw [if_neg a1,if_pos a2] at h3;exact absurd h3 h1
  ·rwa [if_neg a1,if_neg a2] at h3
 have hmut:∀b i,Mut S ob' G' b i→Mut S ob G b i:=by
  intro b i hm'
  rcases hm' with hm' | ⟨q,o,hq,ho⟩
  ·exact .inl hm'
  ·obtain ⟨_,o0,h1,_,rfl⟩:=hget q o hq
   rw [r1 q] at ho
   exact .inr ⟨r q,o0,h1,own_ren.1 ho⟩
 have hrd:∀b i z,E2 (Mut S ob G) w b i z→E2 (Mut S ob' G') w b i z:=fun b i z hz=>⟨hz.1,fun hx=>hz.2 (hmut b i hx)⟩
 refine ⟨G',{ h with pin:=fun q hq=>by rw [g1 q (by omega)];exact h.pin q hq,old:=?_,dis:=?_,obs:=?_,facts:=?_ }⟩
 ·intro q o b hq hb
  obtain ⟨hqj,o0,h1,_,_⟩:=hget q o hq
  rw [r1 q] at hb
  rcases h.old (r q) o0 b h1 hb with h2 | ⟨h2,h3⟩
  ·exact .inl h2
  ·by_cases hqk:q=k
   ·rw [hr] at h3;dsimp only at h3;rw [if_pos hqk] at h3;omega
   ·rw [hr] at h3;dsimp only at h3;rw [if_neg hqk] at h3;exact .inr ⟨h2,h3⟩
 ·intro q q' o o' b hq hq' hb hb'
  obtain ⟨hqj,o0,h1,_,_⟩:=hget q o hq
  obtain ⟨hqj',o0',h1',_,_⟩:=hget q' o' hq'
  rw [r1] at hb hb'
  exact rinj q q' hqj hqj' (h.dis _ _ _ _ b h1 h1' hb hb')
 ·intro q o hq
  obtain ⟨hqj,o0,h1,hf,rfl⟩:=hget q o hq
  have h2:=(h.obs (r q) o0 h1).ext hrd (Below.refl _ _)
  have h3:=h2.forget (k:=k) (G':=G') g1
  rw [Ob.forget_free hf] at h3
  rw [r1 q]
  exact h3.ren g3
 ·intro i s hi
  have h1:=h.facts i s hi
  have h2:s.free k=true:=by
   have key:∀(f:Fr),G8 k f=true→∀i s,C9 f i=some s→s.free k=true:=by
    intro f
    induction f with
    | nil=>intro _ i s h;cases h
    | cons p r ih =>
     obtain ⟨q,s0⟩:=p
     intro hf i s hg
     simp only [G8,G08] at hf
     by_cases hq:q=i
     ·subst hq;rw [D1] at hg;cases hg
      first | exact hf.1 | exact hf.1.2 | exact hf.2.1
     ·rw [C0 hq] at hg
      exact ih (by first | exact hf.2 | exact hf.2.2) i s hg
   exact key fr hfr i s hi
  have h3:=SV.rep_forget (G':=G') g1 (SV.rep_mono hrd h1)
  rwa [SV.forget_free h2] at h3
end
end Go.AL
namespace Go.AL
open Go Go.RowKit
set_option linter.unusedVariables false
section
variable {P:Program} {nt:Nat} {fr gf:Fr} {ob:Obs}
theorem TC.free_forget (k:Nat) (t:TC):(t.forget k).free k=true:=by
 cases t with
 | p c=>rfl
 | buf k' α ec c xs=>cases hb:Nat.beq k' k<;>simp [TC.forget,TC.free,hb]
 | ref k' o=>cases hb:Nat.beq k' k<;>simp [TC.forget,TC.free,hb]
 | eref α ec c x o=>rfl
 | «mut» k'=>cases hb:Nat.beq k' k<;>simp [TC.forget,TC.free,hb]
 | mref k' ec i o=>cases hb:Nat.beq k' k<;>simp [TC.forget,TC.free,hb]
 | any=>rfl
 | clo f nf nc =>
  simp only [TC.forget]
  cases hb:(A90 k nf||A90 k nc)
  ·rw [G47] at hb;simp [TC.free,hb.1,hb.2]
  ·rfl
 | msl k' ec o n=>cases hb:Nat.beq k' k<;>simp [TC.forget,TC.free,hb]
 | full α ec c xs=>rfl
theorem S1.free_forget (k:Nat) (s:S1):(s.forget k).free k=true:=by
 cases s with
 | one t=>exact TC.free_forget k t
 | agg ts =>
  show (ts.map (TC.forget k)).all (TC.free k)=true
  rw [List.all_map,List.all_eq_true]
  exact fun t _=>TC.free_forget k t
theorem SV.free_forget (k:Nat) (s:SV):(s.forget k).free k=true:=by
 cases s with
 | s x=>exact S1.free_forget k x
 | tup l =>
  show (l.map (S1.forget k)).all (S1.free k)=true
  rw [List.all_map,List.all_eq_true]
  exact fun t _=>S1.free_forget k t
 | any=>rfl
 | un=>rfl
end
end Go.AL
namespace Go.AL
open Go Go.RowKit
set_option linter.unusedVariables false
section
variable {P:Program}
end
end Go.AL
namespace Go.AL
open Go Go.RowKit
set_option linter.unusedVariables false
section
variable {P:Program} {nt:Nat} {fr:Fr} {ob:Obs} {dst:Option Tmp} {ty:TypeId} {pos:String} {af:Array Edge} {gd:Option (Nat × Bool)}
end
end Go.AL
namespace Go.AL
open Go Go.RowKit
set_option linter.unusedVariables false
def Cell.flat:Cell→Bool
 | .v _=>true
 | _=>false
def PV.flat:PV→Bool
 | .one c=>c.flat
 | .agg cs=>cs.all Cell.flat
section
variable {P:Program} {dst:Option Tmp} {ty:TypeId} {pos:String} {af:Array Edge} {gd:Option (Nat × Bool)} {fr fr':Fr} {ob ob':Obs}
end
end Go.AL
namespace Go.AL
open Go Go.RowKit
set_option linter.unusedVariables false
section
variable {P:Program} {nt:Nat} {fr:Fr} {ob:Obs}
theorem G01 (k:Nat) (α:Type) (ec:Nat) (c:α→Nat→Cell) (e:TypeId) (hf:(G8 k fr&&M4 k ob)=true):Sees P nt fr ob fr ((k,.grow e α ec c [])::ob):=by
 simp only [G08] at hf
 obtain ⟨h1,h2⟩:=hf
 obtain ⟨h4,h5,hp⟩:=U0 h2
 intro S G a w hn h
 have h6:=h.new hp (o:=.grow e α ec c []) (u:=.slice none 0 0) (w1:=w) h5 (Below.refl _ _) (fun b hb=>by simp [blk] at hb) ⟨[],World.ownsRow_nil w _ _ _,by simp,fun i hi=>absurd hi (by simp)⟩
 rw [V8 h1,h4] at h6
 exact ⟨_,h6⟩
end
end Go.AL
namespace Go.AL
open Go Go.RowKit
set_option linter.unusedVariables false
section
variable {P:Program} {nt:Nat} {fr:Fr} {ob:Obs}
theorem G02 (k p:Nat) {e:TypeId} {ec n:Nat} {ts:List TC} {α:Type} {c:α→Nat→Cell} (xs:List α) (row:List TC) (hk:C8 ob k=some (.growT e n ec ts)) (hn:xs.length=n) (hp:p < xs.length) (hrow:row.length=ec)
  (h1:∀i (hi:i < xs.length),i≠p→∀j,j < ec→ts[i*ec+j]?=some (.p (c xs[i] j))) (h2:∀j,j < ec→ts[p*ec+j]?=row[j]?) :
  Sees P nt fr ob fr ((k,.growA e α ec c xs p row)::ob):=by
 subst hn
 intro S G a w hnt h
 refine ⟨G,h.retold hk (fun b i ho=>⟨ho.1,trivial⟩) ?_⟩
 rintro rd ⟨vs,hown,hlen,hl,ha⟩
 refine ⟨vs,hown,hlen,hp,hrow,fun i hi hip j hj=>?_,?_⟩
 ·obtain ⟨z,hz1,hz2⟩:=ha.get _ _ (h1 i hi hip j hj)
  exact ⟨z,hz1,hz2⟩
 ·refine U8 (by rw [E66 hown.1 hp];exact hrow.symm) fun j t z q1 q2=>?_
  have hj:j < ec:=by have:=(List.getElem?_eq_some_iff.1 q1).1;omega
  rw [B40 hj] at q2
  have h3:=h2 j hj
  rw [q1] at h3
  obtain ⟨z',hz1,hz2⟩:=ha.get _ _ h3
  rw [q2] at hz1;cases hz1;exact hz2
theorem c_joinE {x y:Code} {Q:Post} {X:Type} (E:X→Fr × Obs) (I:X→Prop) (hx:WpC P nt x fr ob (z7 (fun f o=>∃v,I v∧Sees P nt f o (E v).1 (E v).2) Q)) (k:∀v,I v→WpC P nt y (E v).1 (E v).2 Q):WpC P nt (.seq x y) fr ob Q :=
 E96 (hx.mono fun e f o hq=>by
  cases e with
  | normal=>obtain ⟨v,hv,hs⟩:=hq;exact K3 hs (k v hv)
  | _=>exact hq)
theorem F56 {x y z:Code} {Q:Post} {X:Type} (E:X→Fr × Obs) (I:X→Prop) (hx:WpC P nt x fr ob (z7 (fun f o=>WpC P nt y f o (z7 (fun f o=>∃v,I v∧Sees P nt f o (E v).1 (E v).2) Q)) Q)) (k:∀v,I v→WpC P nt z (E v).1 (E v).2 Q):WpC P nt x fr ob (z7 (fun f o=>WpC P nt (.seq y z) f o Q) Q) :=
 hx.mono fun e f o hq=>by
  cases e with
  | normal=>exact c_joinE E I hq k
  | _=>exact hq
end
end Go.AL
