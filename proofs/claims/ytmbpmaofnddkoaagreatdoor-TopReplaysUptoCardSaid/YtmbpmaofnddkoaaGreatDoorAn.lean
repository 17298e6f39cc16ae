/- The abstract logic, its third part. No project text. -/
import Derived.Test.YtmbpmaofnddkoaaGreatDoorAm
import Derived.Laws.StructEq
import Derived.Laws.Cover3
import Derived.MapKept
import Derived.Lib.AppendZeros
set_option linter.all false
attribute [local semireducible] Go.AL.Neu Go.AL.Eff Go.AL.EffV Go.AL.WpL Go.AL.WpC Go.AL.FnOk Go.AL.LexD Go.AL.Sees Go.AL.RetOk Go.AL.FnIo Go.AL.Met Go.AL.RetS
namespace Go.AL
open Go Go.RowKit
set_option linter.unusedVariables false
variable {P:Program}{nt:Nat}{ops:Array Oper}
def YB(P:Program)(o:Oper)(U:Fr)(ob ob':Obs):Prop :=
 ∀S G a w,Sim P S U ob G a w->Does P o a w (fun _ w'=>∃G',∀fr,Sim P S fr ob G a w->Sim P S fr ob' G' a w')
theorem dO{t:TypeId}{x y:Operand}{k o n:Nat}{D:List TC}{s:S1}{fr:Fr}{ob:Obs}{ty:TypeId}{pos:String}{af:Array Edge}{gd:Option (Nat×Bool)}(V:(P.info? t).map (·.size)=some n)(hx:opv fr x=some (.s (.one (.ref k o))))(W:B0 ob k=some (.box D))(hy:opv fr y=some (.s s))(hc:F9 y=true)
  (X:s.cells.length=n)(J:Nat.ble (o+n) D.length=true):YB P ⟨none,.store t x y,ty,pos,af,gd⟩ fr ob ((k,.box (setTs D o s.cells))::ob):=by
 intro S G a w h;obtain⟨b,Q,C⟩:=G9 h hx;obtain⟨b',A,tt,K,hh,ha⟩:=h.box W;rw[Q]at K;cases K;have hr:(SV.s s).rep (D9 (Mut S ob G) w) G (a.eval y):=U1 h hy hc;have g:=A94 hr;have q:(a.eval y).cells.size=n:=by rw[<-X,g.length];simp
 have R:o+n<=D.length:=by simpa using J
 have M:∀u∈(a.eval y).cells.toList,u.oneCell'=true:=by
  intro u C;have:∀(D:List TC) (A:List Value),All2 (TC.rep (D9 (Mut S ob G) w) G) D A->∀u∈A,u.oneCell'=true:=by
   intro D;induction D with
   | nil=>intro A h u C;cases A with | nil=>cases C | cons=>exact h.elim
   | cons t D ih =>
    intro A h u C;cases A with
    | nil=>exact h.elim
    | cons v A =>
     rcases B34.1 C with rfl | C
     ·exact TC.rep_one h.1
     ·exact ih A h.2 u C
  exact this _ _ g u C
 obtain⟨w',O,T,I,N,H,B,F⟩:=o6 (P:=P) (t:=t) (w:=w) (b:=b) (o:=o) (v:=a.eval y) (by rw[V,q]) hh M (by rw[q,<-ha.length];exact R);unfold Does;have he:(execOp a.eval ⟨none,.store t x y,ty,pos,af,gd⟩).run P w=.ok .skip w':=by
  simp[execOp,C,Instr.storeAt,Instr.sureAddr,O]
 rw[he];have E:blk (G k)=some b:=by rw[Q];rfl
 refine⟨G,fun Y Z=>Z.write W E (fun i=>⟨E,trivial⟩) (fun i=>⟨E,trivial⟩) T I N (Nat.le_of_eq H.symm) (fun j _=>B j) ?_⟩;intro rd U;refine⟨b,_,tt,Q,F,?_⟩;have hd:A.drop (o+(a.eval y).cells.size)=A.drop (o+s.cells.length):=by rw[q,X]
 unfold setTs;rw[hd];exact (((ha.take o).append g).append (ha.drop _)).mono fun _ _=>TC.rep_mono U
def Told(U:Fr)(φ:Fa):Prop:=∀t s,C7 U t=some s->φ t=some s
theorem RX{U:Fr}{φ:Fa}{d:Nat}{s:SV}(e:C7 U d=none)(h:Told U (Z4 φ d s)):Told U φ:=fun t f a=>by
 have b:=h t f a;unfold Z4 at b;by_cases c:t=d
 ·subst c;rw[e]at a;cases a
 ·rwa[A6 c]at b
theorem FY{o:Oper}{U:Fr}{ob ob':Obs}{φ:Fa}(h:YB P o U ob ob')(n:o.guard=none)(m:o.dst=none)(q:Told U φ):qL P nt ops o φ ob (fun r b=>r=φ/\b=ob'):=by
 refine⟨n,fun S G a w u e=>jR (h S G a w (e.sub q)) ?_⟩;rintro v w' ⟨G',g⟩;refine⟨φ,ob',G',⟨rfl,rfl⟩,?_⟩;rw[m];refine⟨g [] e.1,fun i s p=>?_⟩;have l:Sim P S [(i,s)] ob G a w:=e.sub fun j t d=>by
  by_cases k:i=j
  ·subst k;rw[C2]at d;cases d;exact p
  ·rw[B5 k]at d;simp[C7]at d
 exact (g _ l).facts i s (by rw[C2])
def AnyC(P:Program)(nt:Nat)(ops:Array Oper)(T:Nat)(U:Fr)(ob ob':Obs)(E:Array Bool->Fa->Prop):Nat->Array Bool->Fa->Prop
 | 0,listed,φ=>(T∈Region.ready .any ops listed->Told U φ)/\T∈Region.ready .any ops listed/\(∀j∈Region.ready .any ops listed,j=T)/\E listed φ
 | fuel+1,listed,φ=>(T∈Region.ready .any ops listed->Told U φ)/\(∃p,p<T/\p∈Region.ready .any ops listed)/\∀i∈Region.ready .any ops listed,i≠T ->
   ∃o s d,ops[i]?=some o/\o.dst=some d/\turns o.op=false/\YieldsN P nt ops o φ ob s/\YieldsN P nt ops o φ ob' s/\AnyC P nt ops T U ob ob' E fuel (listed.setIfInBounds i true) (Z4 φ d s)
theorem AnyC.told{T:Nat}{U:Fr}{ob ob':Obs}{E:Array Bool->Fa->Prop}{c:Nat}{b:Array Bool}{φ:Fa}(h:AnyC P nt ops T U ob ob' E c b φ):T∈Region.ready .any ops b->Told U φ:=by
 cases c<;>exact h.1
theorem RY{T:Nat}{U:Fr}{ob ob':Obs}{E:Array Bool->Fa->Prop}{i d:Nat}{t oT:Oper}{s:SV}(hi:ops[i]?=some t)(ac:ops[T]?=some oT)(J:turns t.op=false)(z:t.dst=some d)(C:i<T)
  (hU:Bef ops T i=true\/C7 U d=none) :
  ∀(c:Nat) (b:Array Bool) (φ:Fa),Closed ops b ->
   (∀j u,ops[j]?=some u->j≠i->j≠T->b.getD j true=false->Bef ops j i=true\/(turns u.op=false/\j7 ops t u=true)) ->
   i∈Region.ready .any ops b->YieldsN P nt ops t φ ob s->YieldsN P nt ops t φ ob' s ->
   AnyC P nt ops T U ob ob' E c (b.setIfInBounds i true) (Z4 φ d s)->AnyC P nt ops T U ob ob' E (c+1) b φ:=by
 have K:∀(c:Nat) (b:Array Bool) (φ:Fa),Closed ops b->i∈Region.ready .any ops b->AnyC P nt ops T U ob ob' E c (b.setIfInBounds i true) (Z4 φ d s)->T∈Region.ready .any ops b->Told U φ:=by
  intro c b φ x q H hT;rcases hU with hb | hn
  ·obtain⟨ab,u,g,k⟩:=mem_ready.1 hT;have:=T7 x T hb (fun o G e Q w=>by rw[g]at G;cases G;exact k e (Array.mem_toList_iff.1 Q) w);have l:=K4 q;rw[l]at this;cases this
  ·exact RX hn (H.told (ready_mono hT (by omega)))
 intro c;induction c with
 | zero =>
  intro b φ x O q M r H;refine⟨K 0 b φ x q H,⟨i,C,q⟩,fun j D p=>?_⟩;by_cases f:j=i
  ·subst f;exact⟨t,s,d,hi,z,J,M,r,H⟩
  ·exact absurd (H.2.2.1 j (ready_mono D f)) p
 | succ c ih =>
  intro b φ x O q M r H;refine⟨K (c+1) b φ x q H,⟨i,C,q⟩,fun j D p=>?_⟩;by_cases f:j=i
  ·subst f;exact⟨t,s,d,hi,z,J,M,r,H⟩
  ·obtain⟨v,u,g,k⟩:=mem_ready.1 D;have l:=K4 q;obtain⟨V,A⟩:turns u.op=false/\j7 ops t u=true:=by
    rcases O j u g f p v with hb | h
    ·have:=T7 x j hb (fun o G e Q w=>by rw[g]at G;cases G;exact k e (Array.mem_toList_iff.1 Q) w);rw[l]at this;cases this
    ·exact h
   obtain⟨o',sj,Y,I,B,_,X,L,HK⟩:=H.2.2 j (ready_mono D f) p;rw[g]at I;cases I;simp only[j7,z,B,B24,B60,List.contains_eq_mem,decide_eq_false_iff_not]at A;obtain⟨⟨Z,h2⟩,N⟩:=A;have N:d≠Y:=fun e=>by subst e;simp at N
   refine⟨u,sj,Y,g,B,V,X.unput Z,L.unput Z,?_⟩;refine ih (b.setIfInBounds j true) _ (L3 x D) ?_ (ready_mono q (Ne.symm f)) (M.put h2) (r.put h2) ?_
   ·intro m om hm S R W;refine O m om hm S R ?_;by_cases F:j=m
    ·subst F;exact v
    ·rwa[getD_set_ne true F]at W
   ·rw[Array.setIfInBounds_comm _ _ f,<-pG N];exact HK
theorem AH{T:Nat}{U:Fr}{ob ob':Obs}{E:Array Bool->Fa->Prop}{K:Fa->Obs->Prop}{f:Nat}
  (l:∀j R,ops[j]?=some R->(∃e∈R.after.toList,Region.binds .any e=true/\e.on=T)->∀p,p<T->Bef ops j p=true)
  (N:∀b φ,Closed ops (b.setIfInBounds T true)->(b.setIfInBounds T true).getD T false=true->E b φ->mQ P nt ops T K f (b.setIfInBounds T true) φ ob') :
  ∀(c:Nat) (b:Array Bool) (φ:Fa),Closed ops b->T∈Region.ready .any ops b->AnyC P nt ops T U ob ob' E c b φ ->
   mQ P nt ops T K (f+c) (b.setIfInBounds T true) φ ob'
 | 0,b,φ,hc,hT,h=>by
  have C:(b.setIfInBounds T true).getD T false=true:=by
   have:=(mem_ready.1 hT).1;have r:T<b.size:=by
    rcases Nat.lt_or_ge T b.size with q | q
    ·exact q
    ·simp only[B35]at this;rw[Array.getElem?_eq_none q]at this;simp at this
   simp[B35,r]
  exact N _ φ (L3 hc hT) C h.2.2.2
 | c+1,b,φ,hc,hT,h=>by
  obtain⟨p,V,hpr⟩:=h.2.1;have H:=L3 hc hT;have A:p≠T:=by omega
  refine⟨fun v=>(by have:=ready_mono hpr A;rw[v]at this;cases this),fun i O=>?_⟩;have k:i≠T:=fun e=>by
   subst e;have:=K4 O;have r:i<b.size:=by
    have:=(mem_ready.1 hT).1;rcases Nat.lt_or_ge i b.size with q | q
    ·exact q
    ·simp only[B35]at this;rw[Array.getElem?_eq_none q]at this;simp at this
   simp[B35,r]at this
  have x:i∈Region.ready .any ops b:=by
   obtain⟨z,Q,u,m⟩:=mem_ready.1 O;refine mem_ready.2 ⟨by rwa[getD_set_ne true (Ne.symm k)]at z,Q,u,fun e v hb=>?_⟩;have M:=m e v hb;by_cases w:e.on=T
   ·exfalso;have F:=l i Q u ⟨e,Array.mem_toList_iff.2 v,hb,w⟩ p V;have:=T7 H i F (fun o B e v G=>by rw[u]at B;cases B;exact m e (Array.mem_toList_iff.1 v) G);have I:=K4 (ready_mono hpr A);rw[I]at this;cases this
   ·simp only[B35]at M ⊢
    rwa[Array.getElem?_setIfInBounds_ne (Ne.symm w)]at M
  obtain⟨o,s,d,B,S,W,_,L,HK⟩:=h.2.2 i x k;refine⟨o,B,?_⟩;have J:tn T i o=false:=by unfold tn;rw[P3 k,W];rfl
  rw[J];refine⟨s,d,S,L,?_⟩;rw[Array.setIfInBounds_comm _ _ (Ne.symm k)];exact AH l N c _ _ (L3 hc x) (ready_mono hT (Ne.symm k)) HK
theorem MN{T:Nat}{U:Fr}{ob ob':Obs}{E:Array Bool->Fa->Prop}{K:Fa->Obs->Prop}{f:Nat}{q:Oper}(C:ops[T]?=some q)(N:YB P q U ob ob')(Q:q.guard=none)(A:q.dst=none)
  (m:∀j L,ops[j]?=some L->(∃e∈L.after.toList,Region.binds .any e=true/\e.on=T)->∀p,p<T->Bef ops j p=true)
  (O:∀b φ,Closed ops (b.setIfInBounds T true)->(b.setIfInBounds T true).getD T false=true->E b φ->mQ P nt ops T K f (b.setIfInBounds T true) φ ob') :
  ∀(c:Nat) (b:Array Bool) (φ:Fa),Closed ops b->AnyC P nt ops T U ob ob' E c b φ->mQ P nt ops T K (f+c+1) b φ ob:=by
 have z:tn T T q=true:=by unfold tn;rw[Nat.beq_refl];rfl
 have l:∀(c:Nat) (b:Array Bool) (φ:Fa),Closed ops b->T∈Region.ready .any ops b->AnyC P nt ops T U ob ob' E c b φ->StepT P nt ops T T φ ob (mQ P nt ops T K (f+c) (b.setIfInBounds T true)):=by
  intro c b φ r J h;refine⟨q,C,?_⟩;rw[z];have I:qL P nt ops q φ ob (fun M x=>M=φ/\x=ob'):=FY N Q A (h.told J);refine⟨I.1,fun S G a w R W=>jR (I.2 S G a w R W) ?_⟩;rintro v w' ⟨M,ob',G',⟨rfl,rfl⟩,F⟩;exact⟨_,_,G',AH m O c b _ r J h,F⟩
 intro c;induction c with
 | zero =>
  intro b φ r h;refine⟨fun B=>(by have:=h.2.1;rw[B]at this;cases this),fun i u=>?_⟩;have k:=h.2.2.1 i u;subst k;exact l 0 b φ r u h
 | succ c Z =>
  intro b φ r h;obtain⟨p,hp,hpr⟩:=h.2.1;refine⟨fun B=>(by rw[B]at hpr;cases hpr),fun i u=>?_⟩;by_cases k:i=T
  ·subst k;exact l (c+1) b φ r u h
  ·obtain⟨o,s,d,V,A,X,Y,_,HK⟩:=h.2.2 i u k;refine⟨o,V,?_⟩;have H:tn T i o=false:=by unfold tn;rw[P3 k,X];rfl
   rw[H];exact⟨s,d,A,Y,Z _ _ (L3 r u) HK⟩
def YC(P:Program)(nt:Nat)(ops:Array Oper)(U:Fr)(ob ob':Obs)(E:Fr->Prop):List Oper->Fr->Prop
 | [],fr=>FrIn fr U/\E fr
 | o::l,fr=>∃s d,o.dst=some d/\YieldsN P nt ops o (C7 fr) ob s/\YieldsN P nt ops o (C7 fr) ob' s/\YC P nt ops U ob ob' E l ((d,s)::fr)
def AI(ops:Array Oper)(T:Nat)(b:List Nat):Nat->Nat->Array Bool->Bool
 | 0,_,listed=>(Region.ready .any ops listed).contains T&&(Region.ready .any ops listed).all fun j=>Nat.beq j T
 | fuel+1,k,listed =>
  (match ops[k]? with
   | some o=>(Region.ready .any ops listed).contains k&&!(turns o.op)&&Nat.blt k T&&(Bef ops T k||match o.dst with | some d=>!(b.contains d) | none=>false) &&
    ((List.range ops.size).all fun j=>Nat.beq j k||Nat.beq j T||listed.getD j true||match ops[j]? with
     | some e=>Bef ops j k||(!(turns e.op)&&j7 ops o e)
     | none=>true)
   | none=>false)&&AI ops T b fuel (k+1) (listed.setIfInBounds k true)
theorem YD{U:Fr}{d:Nat}(h:(U.map (·.1)).contains d=false):C7 U d=none:=by
 induction U with
 | nil=>rfl
 | cons x r f =>
  obtain⟨i,s⟩:=x;simp only[B50,List.contains_cons,B89]at h;have b:i≠d:=fun e=>by subst e;simp at h
  rw[B5 b];exact f h.2
theorem MO{T:Nat}{U:Fr}{ob ob':Obs}{E:Fr->Prop}{L:Array Bool}{N:Oper}(e:ops[T]?=some N):∀(l:List Oper) (k:Nat) (b:Array Bool) (fr:Fr),(∀j,j<l.length->l[j]?=ops[k+j]?)->Closed ops b->AI ops T (U.map (·.1)) l.length k b=true->nF l.length k b=L ->
  YC P nt ops U ob ob' E l fr->AnyC P nt ops T U ob ob' (fun L' φ=>L'=L/\∃fr',φ=C7 fr'/\E fr') l.length b (C7 fr)
 | [],k,b,fr,hl,hc,hB,hL,h=>by
  simp only[List.length_nil,AI,B24]at hB;exact⟨fun _ t s K=>FrIn.spec h.1 t s K,by simpa using hB.1,fun j u=>B49 (B27.1 hB.2 j u),hL,fr,rfl,h.2⟩
 | o::l,k,b,fr,hl,hc,hB,hL,h=>by
  have F:ops[k]?=some o:=by simpa using (hl 0 (by simp)).symm
  simp only[B31,AI,F,B24,B60]at hB;obtain⟨⟨⟨⟨⟨J,B⟩,x⟩,c⟩,I⟩,p⟩:=hB;have g:k∈Region.ready .any ops b:=by simpa using J
  have z:∀j,j<l.length->l[j]?=ops[k+1+j]?:=fun j u=>by have:=hl (j+1) (by simpa using u);simpa[Nat.add_assoc,Nat.add_comm 1 j] using this
  obtain⟨s,d,G,M,D,q⟩:=h;have H:Bef ops T k=true\/C7 U d=none:=by
   rw[G]at c;rcases B63 _ _ ▸ c with hb | hb
   ·exact .inl hb
   ·exact .inr (YD (by simpa using hb))
  refine RY F e B G (by simpa using x) H l.length b _ hc ?_ g M D ?_
  ·intro j O f w v C;have A:j<ops.size:=(B39.1 f).1;have:=B27.1 I j (B44.2 A);rw[P3 w,P3 v,C,f]at this;simp only[B83,B63,B24,B60]at this;exact this
  ·rw[<-bD];exact MO e l (k+1) _ _ z (L3 hc g) p hL q
def WB(nt:Nat)(l:List Oper)(n:Nat)(b:List Nat):Bool :=
 let ops:=l.toArray;let L0:=Array.replicate l.length false;let L:=nF n 0 L0
 AI ops n b n 0 L0&&RS nt ops&&Nat.ble (n+1) l.length&&Nat.beq (l.take n).length n &&
  ((List.range ops.size).all fun j=>match ops[j]? with | some c=>!(c.after.toList.any fun e=>Region.binds .any e&&Nat.beq e.on n)||(List.range n).all fun p=>Bef ops j p | none=>true) &&
  AC ops (l.drop (n+1)).length (n+1) (L.setIfInBounds n true)
theorem AJ{id:Nat}{l:List Oper}(n:Nat){E:Oper}(U:Fr){fr:Fr}{ob ob':Obs}{Q:Post}(hm:P.follows .mixedOrders=true)(J:WB nt l n (U.map (·.1))=true)(hc:l[n]?=some E)(hA:YB P E U ob ob')(hg:E.guard=none)(M:E.dst=none)
  (h:YC P nt l.toArray U ob ob' (fun fr=>LexD P nt l.toArray (fun fr ob=>Q .normal fr ob) (l.drop (n+1)) fr ob') (l.take n) fr):WpC P nt (.region id l.toArray true) fr ob Q:=by
 intro S G a w hn hs;unfold WB at J;simp only[B24]at J;obtain⟨⟨⟨⟨⟨b1,b2⟩,b3⟩,b4⟩,b6⟩,b8⟩:=J;have ab:n+1<=l.length:=Nat.le_of_ble_eq_true b3;have c:(l.take n).length=n:=B49 b4;have z:∀(j t:Nat),(l.toArray[j]?).bind (fun o=>o.dst)=some t->t<nt:=by
  intro j t Y;cases B:l.toArray[j]? with
  | none=>simp[B]at Y
  | some o =>
   simp[B]at Y;have A:o∈l:=by
    rw[B45]at B;exact B43 B
   have:=B27.1 b2 o (by simpa using A);rw[Y]at this;simpa using this
 refine wp_region_any hm ?_;have u:Closed l.toArray (Array.replicate l.length false):=by
  intro j o B R;simp only[B35]at R;rcases Nat.lt_or_ge j l.length with I | I
  ·simp[I]at R
  ·simp[I]at R
 have C:l.toArray[n]?=some E:=by rw[B45];exact hc
 have k:∀j F,l.toArray[j]?=some F->(∃e∈F.after.toList,Region.binds .any e=true/\e.on=n)->∀p,p<n->Bef l.toArray j p=true:=by
  rintro j F D ⟨e,N,hb,V⟩ p hp;have T:j<l.toArray.size:=(B39.1 D).1;have q:=B27.1 b6 j (B44.2 T);rw[D]at q;have q:((!(F.after.toList.any fun e=>Region.binds .any e&&Nat.beq e.on n))||(List.range n).all fun p=>Bef l.toArray j p)=true:=q;have h2:(F.after.toList.any fun e=>Region.binds .any e&&Nat.beq e.on n)=true:=List.any_eq_true.2 ⟨e,N,by rw[hb,V,Nat.beq_refl];rfl⟩;rw[h2]at q;simp only[Bool.not_true,B83]at q;exact B27.1 q p (B44.2 hp)
 have key:mQ P nt l.toArray n (fun φ ob=>∃fr',φ=C7 fr'/\Q .normal fr' ob) ((l.drop (n+1)).length+(l.take n).length+1) (Array.replicate l.length false) (C7 fr) ob:=by
  refine MN C hA hg M k ?_ (l.take n).length _ _ u (MO C (L:=nF n 0 (Array.replicate l.length false)) (l.take n) 0 _ fr (fun j Z=>?_) u (by rw[c];exact b1) (by rw[c]) h)
  ·rintro H φ v K ⟨rfl,fr',rfl,hL⟩;exact zC _ _ _ _ K (jP (l.drop (n+1)) (n+1) _ _ _ (fun i=>by rw[B85,B45]) v b8 hL)
  ·rw[B70,B45,B78 (by rw[c]at Z;exact Z)]
 have hx:Below w.heap.size w { w with drawn:=w.drawn+1 }:=⟨rfl,rfl,rfl,B29 _,fun _ _=>rfl⟩
 have W:SimF P S (C7 fr) ob G a { w with drawn:=w.drawn+1 }:=(simF_iff.2 hs).ext hx;have:=fK (Q:=PostOf P S Q) hn z (fun φ ob' G' a' w' ⟨fr',N,hq⟩ X=>⟨fr',ob',G',hq,.inl (simF_iff.1 (N ▸ X))⟩) _ _ _ ob G a _ key W;have f:(l.drop (n+1)).length+(l.take n).length+1=l.length:=by rw[B47,c];omega
 rw[f]at this;simpa using this
theorem s_nil{U:Fr}{ob ob':Obs}{E:Fr->Prop}{fr:Fr}(a:FrIn fr U)(h:E fr):YC P nt ops U ob ob' E [] fr:=⟨a,h⟩
theorem mI{d:Nat}{U:Fr}{ob ob':Obs}{E:Fr->Prop}{fr:Fr}{rest:List Oper}{a:Op}{ty:TypeId}{pos:String}{af:Array Edge}{s:SV}(h:Neu P ⟨some d,a,ty,pos,af,none⟩ (Q9 fr (nC a)) ob (fun b=>b=s))(c:Nat.blt d nt=true)
  (e:Neu P ⟨some d,a,ty,pos,af,none⟩ (Q9 fr (nC a)) ob' (fun b=>b=s))(f:YC P nt ops U ob ob' E rest ((d,s)::fr)):YC P nt ops U ob ob' E (⟨some d,a,ty,pos,af,none⟩::rest) fr :=
 ⟨s,d,rfl,AE h c,AE e c,f⟩
theorem Y2{fr:Fr}{ob:Obs}{dst:Option Tmp}{ty:TypeId}{pos:String}{af:Array Edge}{gd:Option (Nat×Bool)}{c x y:Operand}{b p:Bool}(d:opv fr c=some (S6 b))(hb:b=true)(e:opv fr x=some (S6 p)) :
  Neu P ⟨dst,.pick c x y,ty,pos,af,gd⟩ fr ob (fun f=>f=S6 p) :=
 E1 fun S G a w h=>by
  have:=E9 h d;subst hb;exact⟨.bool p,by simp[execOp,this,asBool,E9 h e],rfl,rfl⟩
theorem Y3{fr:Fr}{ob:Obs}{dst:Option Tmp}{ty:TypeId}{pos:String}{af:Array Edge}{gd:Option (Nat×Bool)}{c x y:Operand}{b p:Bool}(d:opv fr c=some (S6 b))(hb:b=false)(e:opv fr y=some (S6 p)) :
  Neu P ⟨dst,.pick c x y,ty,pos,af,gd⟩ fr ob (fun f=>f=S6 p) :=
 E1 fun S G a w h=>by
  have:=E9 h d;subst hb;exact⟨.bool p,by simp[execOp,this,asBool,E9 h e],rfl,rfl⟩
inductive CK | int (k:IntKind) | str | bool
def ckOf(P:Program)(t:TypeId):Option CK :=
 match P.underlying t with
 | some (.int k)=>some (.int k)
 | some .string=>some .str
 | some .bool=>some .bool
 | _=>none
def cmpFs(P:Program):Nat->List Field->List CK->Bool
 | _,[],[]=>true
 | i,f::fs,k::ks=>f.name != "_"&&(f.offset == i&&((match ckOf P f.type,k with | some (.int k),.int k'=>decide (k=k') | some .str,.str=>true | some .bool,.bool=>true | _,_=>false)&&cmpFs P (i+1) fs ks))
 | _,_,_=>false
class TyCmp (P:Program) (t:TypeId) (ks:outParam (List CK)):Prop where
 out:P.underlying t=some (.struct (P.fieldsOf t))/\(cmpFs P 0 (P.fieldsOf t).toList ks&&(!P.stoodInHeld t&&!P.eqGuardType P.depth t))=true
theorem aL{a:Array Bool}{e j:Nat}(h:e≠j):(a.setIfInBounds e true).getD j false=a.getD j false:=by
 simp only[B35,Array.getElem?_setIfInBounds_ne h]
def X7:Op->List Nat
 | .store _ x y=>MC x++MC y
 | .box _ x=>MC x
 | .makeSlice _ x y=>MC x++MC y
 | op=>nC op
def y6(sv:List SV)(i:Nat):SV:=sv.getD i .any
def tF:List Oper->List SV->Fr->Fr
 | o::l,s::sv,fr=>match o.dst with
  | some d=>(d,s)::tF l sv fr
  | none=>tF l sv fr
 | _,_,fr=>fr
abbrev Xe:=List (Nat×Bool×(Nat×Ob))
def sT:Xe->Nat->Option (Bool×(Nat×Ob))
 | [],_=>none
 | (i,x)::r,e=>cond (Nat.beq i e) (some x) (sT r e)
def qC(a:Xe)(ob:Obs):List Nat->Obs
 | []=>ob
 | e::D=>match sT a e with
  | some x=>x.2::qC a ob D
  | none=>qC a ob D
def dP(e:Nat):List Nat->List Nat
 | []=>[e]
 | d::D=>cond (Nat.blt d e) (e::d::D) (d::dP e D)
def E8(l:List Nat)(e:Nat):Bool:=l.any (Nat.beq e)
theorem t8{l:List Nat}{e:Nat}:E8 l e=true↔e∈l:=by
 unfold E8;rw[List.any_eq_true];exact⟨fun ⟨x,h,a⟩=>by rw[B49 a];exact h,fun h=>⟨e,h,Nat.beq_refl e⟩⟩
def nG(ops:Array Oper)(E:List Nat)(i:Nat)(D:List Nat):Bool:=!(E8 D i)&&((E.all fun j=>!(Bef ops i j)||E8 D j)&&D.all fun j=>!(Bef ops j i))
def dQ:List Nat->List Nat->Bool
 | [],[]=>true
 | a::l,b::m=>Nat.beq a b&&dQ l m
 | _,_=>false
theorem fM:∀{l m:List Nat},dQ l m=true->l=m
 | [],[],_=>rfl
 | [],_::_,h=>by simp[dQ]at h
 | _::_,[],h=>by simp[dQ]at h
 | a::l,b::m,h=>by
  simp only[dQ,B24]at h;rw[B49 h.1,fM h.2]
def memM(M:List (List Nat))(D:List Nat):Bool:=M.any (dQ D)
theorem tG{M:List (List Nat)}{D:List Nat}(h:memM M D=true):D∈M:=by
 obtain⟨x,a,b⟩:=List.any_eq_true.1 h;rw[fM b];exact a
def RZ(E:List Nat)(i:Nat):List Nat:=E.filter fun e=>Nat.blt e i
def desc:List Nat->Bool
 | []=>true
 | a::l=>l.all (fun b=>Nat.blt b a)&&desc l
def r9:List Oper->List Nat
 | []=>[]
 | o::l=>match o.dst with
  | some d=>d::r9 l
  | none=>r9 l
def nH:List Nat->Bool
 | []=>true
 | a::l=>!(E8 l a)&&nH l
def JG(nt:Nat)(l:List Oper)(E:List Nat)(M:List (List Nat))(b:List (Nat×List Nat)):Bool :=
 let ops:=l.toArray;let n:=l.length
 (l.all fun o=>o.guard.isNone&&match o.dst with | some d=>Nat.blt d nt | none=>true) &&
 ((List.range n).all fun i=>match ops[i]? with
  | some o=>(turns o.op == E8 E i)&&((turns o.op||o.dst.isSome)&&(((X7 o.op).all fun u=>(List.range n).all fun j=>match ops[j]? with
    | some c=>(match c.dst with | some d=>!(Nat.beq d u)||Bef ops i j | none=>true)
    | none=>true) &&
   ((List.range n).all fun j=>!(Bef ops i j)||Nat.blt j i)&&((o.after.toList.all fun e=>!(Region.binds .any e)||Nat.blt e.on i)&&(M.all fun D=>!(nG ops E i D)||(dQ D (RZ E i)||b.any fun p=>Nat.beq p.1 i&&dQ p.2 D)))))
  | none=>false) &&
 nH (r9 l)&&desc E&&(E.all fun e=>Nat.blt e n)&&memM M []&&(M.all fun D=>E.all fun e=>!(nG ops E e D)||memM M (dP e D))
def SA(P:Program)(nt:Nat)(ops:Array Oper)(o:Oper)(U:Fr)(new:Bool)(ob:Obs)(x:Nat×Ob)(s:SV):Prop :=
 ∀φ,Told U φ->(new=true->AF x.1 φ)->qL P nt ops o φ ob (fun b a=>b=(match o.dst with | some d=>Z4 φ d s | none=>φ)/\a=x::ob)
theorem WC{ops:Array Oper}{U:Fr}{k:Nat}{e:TypeId}{z:Value}[hz:TyZero P e z]{ty:TypeId}{pos:String}{af:Array Edge}{d:Nat}{ob:Obs}(g:J2 k ob=true)(h:Nat.blt d nt=true) :
  SA P nt ops ⟨some d,.alloc e,ty,pos,af,none⟩ U true ob (k,.box (z.cells.toList.map fun c=>.p (.v c))) (.s (.one (.ref k 0))) :=
 fun φ _ i=>RW (i rfl) g h
theorem q_store{ops:Array Oper}{U:Fr}{b:Op}{ty:TypeId}{pos:String}{af:Array Edge}{ob:Obs}{x:Nat×Ob}(h:YB P ⟨none,b,ty,pos,af,none⟩ U ob (x::ob)):SA P nt ops ⟨none,b,ty,pos,af,none⟩ U false ob x .any :=
 fun φ c _=>FY h rfl rfl c
def UIn(l:List Oper)(sv:List SV)(fr:Fr)(o:Oper)(U:Fr):Prop :=
 ∀t s,C7 U t=some s->t∈X7 o.op/\((∃j a,l[j]?=some a/\a.dst=some t/\s=y6 sv j)\/(t∉r9 l/\C7 fr t=some s))
def ObG(P:Program)(nt:Nat)(l:List Oper)(sv:List SV)(a:Xe)(fr:Fr)(ob:Obs)(i:Nat)(D:List Nat):Prop :=
 ∃o U,l[i]?=some o/\UIn l sv fr o U/\((turns o.op=false/\Neu P o U (qC a ob D) (fun s=>s=y6 sv i)) \/
  ∃new x,sT a i=some (new,x)/\SA P nt l.toArray o U new (qC a ob D) x (y6 sv i))
def Ob1(P:Program)(nt:Nat)(l:List Oper)(sv:List SV)(a:Xe)(fr:Fr)(ob:Obs)(i:Nat)(D:List Nat):Prop :=
 ∃o,l[i]?=some o/\((turns o.op=false/\Neu P o (Q9 (tF l sv fr) (X7 o.op)) (qC a ob D) (fun s=>s=y6 sv i)) \/
  ∃new x,sT a i=some (new,x)/\SA P nt l.toArray o (Q9 (tF l sv fr) (X7 o.op)) new (qC a ob D) x (y6 sv i))
def Ob1s(P:Program)(nt:Nat)(l:List Oper)(sv:List SV)(a:Xe)(fr:Fr)(ob:Obs):List (Nat×List Nat)->Prop
 | []=>True
 | (i,D)::r=>Ob1 P nt l sv a fr ob i D/\Ob1s P nt l sv a fr ob r
theorem Ob1s.get{l:List Oper}{sv:List SV}{a:Xe}{fr:Fr}{ob:Obs}:∀{r:List (Nat×List Nat)},Ob1s P nt l sv a fr ob r->∀p∈r,Ob1 P nt l sv a fr ob p.1 p.2
 | [],_,p,hp=>by simp at hp
 | (i,D)::r,h,p,hp=>by
  rcases B34.1 hp with rfl | hp
  ·exact h.1
  ·exact Ob1s.get h.2 p hp
def frBut(ops:Array Oper)(e:Nat)(sv:List SV)(fr:Fr):Fr :=
 (((List.range ops.size).filter fun j=>!(Nat.beq j e)&&!(Bef ops j e)).map fun j=>(j,y6 sv j))++fr
def vT(ops:Array Oper)(sv:List SV)(fr:Fr):Xe->Bool
 | []=>true
 | (e,new,x)::r=>(!new||H7 x.1 (frBut ops e sv fr))&&vT ops sv fr r
def SB(a:Xe)(M:List (List Nat)):Bool :=
 M.all fun D=>a.all fun p=>D.all fun e=>E8 D p.1||!(Nat.blt p.1 e)||(match sT a e with | some x=>!(Nat.beq x.2.1 p.2.2.1) | none=>true)
theorem JH{a:Xe}{e:Nat}{x:Bool×(Nat×Ob)}(h:sT a e=some x):(e,x)∈a:=by
 induction a with
 | nil=>cases h
 | cons y r b =>
  obtain⟨i,y⟩:=y;unfold sT at h;cases hb:Nat.beq i e
  ·rw[hb]at h;exact B46 _ (b h)
  ·rw[hb]at h;have h:some y=some x:=h;cases h;rw[B49 hb];exact B52 ..
theorem MP{b:Xe}{ob:Obs}{e:Nat}{new:Bool}{x:Nat×Ob}(g:sT b e=some (new,x)):∀{D:List Nat},(∀d∈D,e<d->∀y,sT b d=some y->y.2.1≠x.1)->∀k o,B0 (qC b ob (dP e D)) k=some o->B0 (x::qC b ob D) k=some o
 | [],_,k,o,h=>by
  simp only[dP,qC,g]at h;exact h
 | d :: D,hk,k,o,h=>by
  unfold dP at h;cases hb:Nat.blt d e
  ·rw[hb]at h;simp only[cond]at h;have q:=MP (ob:=ob) g (D:=D) (fun t n=>hk t (B46 _ n));have u : e <= d:=by
    cases Nat.lt_or_ge d e with
    | inl m => have:Nat.blt d e=true:=by simpa using m
               rw[this]at hb;cases hb
    | inr m=>exact m
   unfold qC at h ⊢;cases j:sT b d with
   | none=>rw[j]at h;exact q k o h
   | some y =>
    rw[j]at h;simp only at h ⊢;obtain⟨s,f,l⟩:=y;obtain⟨r,v⟩:=x;by_cases a:f=k
    ·rw[show ((s,f,l):Bool×(Nat×Ob)).2=(f,l) from rfl]at h ⊢;rw[a,B4]at h;by_cases p:e=d
     ·subst p;rw[j]at g;cases g;rw[a,B4];exact h
     ·have i:=hk d (B52 ..) (by omega) _ j;have i:f≠r:=i;rw[A7 (by omega),a,B4];exact h
    ·rw[show ((s,f,l):Bool×(Nat×Ob)).2=(f,l) from rfl]at h ⊢;rw[A7 a]at h;have:=q k o h;by_cases c:r=k
     ·rw[c,B4]at this ⊢;exact this
     ·rw[A7 c]at this;rw[A7 c,A7 a];exact this
  ·rw[hb]at h;simp only[cond]at h;have:qC b ob (e::d::D)=x::qC b ob (d::D):=by
    show (match sT b e with | some x=>x.2::qC b ob (d::D) | none=>qC b ob (d::D))=_;rw[g]
   rw[this]at h;exact h
theorem rQ{e:Nat}{c:Array Bool}(p:e<c.size)(u:c.getD e false=false):∀{E:List Nat},desc E=true->e∈E->E.filter (fun j=>(c.setIfInBounds e true).getD j false)=dP e (E.filter fun j=>c.getD j false)
 | [],_,he=>by simp at he
 | d::E,hd,he=>by
  simp only[desc,B24]at hd;have k:∀b∈E,b<d:=fun b hb=>by simpa using B27.1 hd.1 b hb
  have m:(c.setIfInBounds e true).getD e false=true:=by simp[p]
  have h:∀j,j≠e->(c.setIfInBounds e true).getD j false=c.getD j false:=fun j z=>aL (Ne.symm z);by_cases i:d=e
  ·subst i;rw[List.filter_cons_of_pos (by exact m),List.filter_cons_of_neg (by rw[u];simp)];have:E.filter (fun j=>(c.setIfInBounds d true).getD j false)=E.filter fun j=>c.getD j false:=by
    apply List.filter_congr;intro j z;exact h j (by have:=k j z;omega)
   rw[this];cases B:E.filter fun j=>c.getD j false with
   | nil=>rfl
   | cons a r =>
    have ha:a∈E:=(List.mem_filter.1 (by rw[B];exact B52 ..)).1;have x:Nat.blt a d=true:=by simpa using k a ha
    unfold dP;rw[x];rfl
  ·have n:e∈E:=(B34.1 he).resolve_left (fun q=>i q.symm);have A:=rQ p u hd.2 n;have y:Nat.blt d e=false:=by
    have:=k e n;cases hb:Nat.blt d e
    ·rfl
    ·rw[Nat.blt_eq]at hb;omega
   by_cases w:c.getD d false=true
   ·rw[List.filter_cons_of_pos (by rw[h d i];exact w),List.filter_cons_of_pos (by exact w),A];show _=dP e (d::_)
    conv=>rhs;unfold dP
    rw[y];rfl
   ·rw[List.filter_cons_of_neg (by rw[h d i];exact w),List.filter_cons_of_neg (by exact w),A]
theorem jS:∀{l:List Oper} {j:Nat} {o:Oper} {d:Nat},l[j]?=some o->o.dst=some d->d∈r9 l
 | [],j,o,d,h,_=>by simp at h
 | o'::l,0,o,d,h,hd=>by
  simp at h;subst h;unfold r9;rw[hd];exact B52 ..
 | o'::l,j+1,o,d,h,hd=>by
  have:=jS (l:=l) (j:=j) (by simpa using h) hd;unfold r9;split
  ·exact B46 _ this
  ·exact this
theorem rR:∀{l:List Oper} {i j:Nat} {o a:Oper} {d:Nat},nH (r9 l)=true->l[i]?=some o->l[j]?=some a->o.dst=some d->a.dst=some d->i=j
 | [],i,j,o,a,d,_,h,_,_,_=>by simp at h
 | q::l,0,0,_,_,_,_,_,_,_,_=>rfl
 | q::l,0,j+1,o,a,d,hn,h1,h2,h3,h4=>by
  simp at h1;subst h1;have b:=jS (l:=l) (j:=j) (by simpa using h2) h4;unfold r9 at hn;rw[h3]at hn;simp only[nH,B24,B60]at hn;rw[t8.2 b]at hn;exact absurd hn.1 (by simp)
 | q::l,i+1,0,o,a,d,hn,h1,h2,h3,h4=>by
  simp at h2;subst h2;have b:=jS (l:=l) (j:=i) (by simpa using h1) h3;unfold r9 at hn;rw[h4]at hn;simp only[nH,B24,B60]at hn;rw[t8.2 b]at hn;exact absurd hn.1 (by simp)
 | q::l,i+1,j+1,o,a,d,hn,h1,h2,h3,h4=>by
  have:nH (r9 l)=true:=by
   unfold r9 at hn;split at hn
   ·simp only[nH,B24]at hn;exact hn.2
   ·exact hn
  exact congrArg (·+1) (rR this (by simpa using h1) (by simpa using h2) h3 h4)
theorem FZ:∀{l:List Oper} {sv:List SV} {fr:Fr} {t:Nat} {s:SV},sv.length=l.length->C7 (tF l sv fr) t=some s->(∃j o,l[j]?=some o/\o.dst=some t/\s=y6 sv j)\/(t∉r9 l/\C7 fr t=some s)
 | [],[],fr,t,s,_,h=>.inr ⟨by simp[r9],h⟩
 | [],_::_,_,_,_,hl,_=>by simp at hl
 | _::_,[],_,_,_,hl,_=>by simp at hl
 | o :: l,s0::sv,fr,t,s,hl,h=>by
  have b:C7 (tF l sv fr) t=some s->(∃j g,(o::l)[j]?=some g/\g.dst=some t/\s=y6 (s0::sv) j)\/(t∉r9 l/\C7 fr t=some s):=fun k=>by
   rcases FZ (by simpa using hl) k with ⟨j,g,a,e,m⟩ | a
   ·exact .inl ⟨j+1,g,by simpa using a,e,by rw[m];simp[y6]⟩
   ·exact .inr a
  unfold tF at h;cases f:o.dst with
  | none =>
   rw[f]at h;rcases b h with a | ⟨a,e⟩
   ·exact .inl a
   ·exact .inr ⟨by unfold r9;rw[f];exact a,e⟩
  | some d =>
   rw[f]at h;have h:C7 ((d,s0)::tF l sv fr) t=some s:=h;by_cases c:d=t
   ·subst c;rw[C2]at h;cases h;exact .inl ⟨0,o,rfl,f,rfl⟩
   ·rw[B5 c]at h;rcases b h with a | ⟨a,e⟩
    ·exact .inl a
    ·refine .inr ⟨?_,e⟩;unfold r9;rw[f];intro q;rcases B34.1 q with q | q
     ·exact c q.symm
     ·exact a q
theorem SimF.weakO{S:Ctx}{φ:Fa}{ob ob':Obs}{G:Gh}{a:Act}{w:World}(h:SimF P S φ ob G a w)(e:∀k o,B0 ob' k=some o->B0 ob k=some o):SimF P S φ ob' G a w:=by
 refine⟨h.1.weakenO e,fun i s l=>?_⟩;have g:Sim P S [(i,s)] ob G a w:=h.sub fun j t b=>by
  by_cases d:i=j
  ·subst d;rw[C2]at b;cases b;exact l
  ·rw[B5 d]at b;simp[C7]at b
 exact (g.weakenO e).facts i s (C2 _ _ _)
structure InvC (l:List Oper) (sv:List SV) (fr:Fr) (listed:Array Bool) (φ:Fa):Prop where
 put:∀j o d,l[j]?=some o->listed.getD j false=true->o.dst=some d->φ d=some (y6 sv j)
 from':∀t s,φ t=some s->(∃j o,l[j]?=some o/\listed.getD j false=true/\o.dst=some t/\s=y6 sv j)\/C7 fr t=some s
 old:∀t s,C7 fr t=some s->t∉r9 l->φ t=some s
def unl(a:Array Bool)(n:Nat):Nat:=(List.range n).countP fun i=>!(a.getD i false)
theorem JI{a:Array Bool}{i:Nat}(k:i<a.size)(l:a.getD i false=false):∀{n:Nat},i<n->unl (a.setIfInBounds i true) n+1=unl a n
 | 0,h=>by omega
 | n+1,h=>by
  unfold unl;rw[C07,List.countP_append,List.countP_append];have f:∀j,j≠i->(a.setIfInBounds i true).getD j false=a.getD j false:=fun j d=>aL (Ne.symm d);by_cases c:i<n
  ·have o:=JI k l c;unfold unl at o;have e:List.countP (fun b=>!(a.setIfInBounds i true).getD b false) [n]=List.countP (fun i=>!a.getD i false) [n]:=by
    simp only[List.countP_cons,List.countP_nil,f n (by omega)]
   rw[e];omega
  ·obtain rfl:i=n:=by omega
   have e:List.countP (fun b=>!(a.setIfInBounds i true).getD b false) (List.range i)=List.countP (fun i=>!a.getD i false) (List.range i):=by
    apply List.countP_congr;intro j d;rw[f j (by have:=B44.1 d;omega)]
   rw[e];have m:(a.setIfInBounds i true).getD i false=true:=by simp[k]
   simp only[List.countP_cons,List.countP_nil,m,l];simp
theorem ER{id:Nat}{l:List Oper}{fr:Fr}{ob:Obs}{Q:Post}(sv:List SV)(W:Xe)(M:List (List Nat))(az:List (Nat×List Nat))(hm:P.follows .mixedOrders=true)(cu:sv.length=l.length)
  (hB:JG nt l (W.map (·.1)) M az=true)(h1:∀i,i<l.length->ObG P nt l sv W fr ob i (RZ (W.map (·.1)) i))(au:vT l.toArray sv fr W=true)(av:SB W M=true)(h2:Ob1s P nt l sv W fr ob az)
  {fr':Fr}(be:∀t s,C7 fr' t=some s->(∃j o',l[j]?=some o'/\o'.dst=some t/\s=y6 sv j)\/(t∉r9 l/\C7 fr t=some s))(hQ:Q .normal fr' (qC W ob (W.map (·.1)))):WpC P nt (.region id l.toArray true) fr ob Q:=by
 intro S G a w hn hs;obtain⟨E,hE⟩:∃E,E=W.map (·.1):=⟨_,rfl⟩
 rw[<-hE]at hB h1 hQ;unfold JG at hB;simp only[B24]at hB;obtain⟨⟨⟨⟨⟨⟨b1,b2⟩,b3⟩,b4⟩,b5⟩,b6⟩,b7⟩:=hB
 have aj:∀i o,l[i]?=some o->o.guard=none/\(∀d,o.dst=some d->d<nt)/\(turns o.op=E8 E i)/\(turns o.op=true\/∃d,o.dst=some d)/\(∀u∈X7 o.op,∀j oj,l[j]?=some oj->oj.dst=some u->Bef l.toArray i j=true) /\
   (∀j,Bef l.toArray i j=true->j<i)/\(∀e∈o.after.toList,Region.binds .any e=true->e.on<i)/\(∀D∈M,nG l.toArray E i D=true->D=RZ E i\/(i,D)∈az):=by
  intro i o C;have ad:i<l.length:=(B28.1 C).1;have N:o∈l:=B43 C;have q1:=B27.1 b1 o N;have q2:=B27.1 b2 i (B44.2 ad);simp only[B45,C]at q2;simp only[B24]at q1 q2;obtain⟨q3,q4,q5,q6,q7⟩:=q2;obtain⟨q8,q9⟩:=q5;refine⟨by simpa using q1.1,?_,by simpa using q3,?_,?_,?_,?_,?_⟩
  ·intro d hd;have:=q1.2;rw[hd]at this;simpa using this
  ·rcases (B63 _ _).mp q4 with h | h
   ·exact .inl h
   ·exact .inr (Option.isSome_iff_exists.1 h)
  ·intro u hu j oj F hd;have bg:j<l.length:=(B28.1 F).1;have:=B27.1 (B27.1 q8 u hu) j (B44.2 bg);simp only[F,hd]at this;simpa using this
  ·intro j F;rcases Nat.lt_or_ge j l.length with L | L
   ·have:=B27.1 q9 j (B44.2 L);rw[F]at this;simpa using this
   ·-- an operation is behind none that there isn't
    exfalso;obtain⟨o1,bm,e1,cb,bw,hh⟩:=AB F;rw[B45,C]at bm;cases bm;have af:=B27.1 q6 e1 cb;have af:e1.on<i:=by rw[bw]at af;simpa using af
    have chain:∀m,m<l.length->∀j,Bef l.toArray m j=true->j<l.length:=by
     intro m;induction m using Nat.strongRecOn with
     | _ m ih =>
      intro co j' cj;obtain⟨o2,bn,e2,cc,bx,ch⟩:=AB cj;rw[B45]at bn;have r2:=B27.1 b2 m (B44.2 co);simp only[B45,bn]at r2;simp only[B24]at r2;have r6:=B27.1 r2.2.2.2.1 e2 cc;have r6:e2.on<m:=by rw[bx]at r6;simpa using r6
      rcases ch with e3 | ⟨A,B⟩
      ·omega
      ·exact ih e2.on r6 (by omega) j' B
    have:=chain i ad j F;omega
  ·intro e he bz;have:=B27.1 q6 e he;rw[bz]at this;simpa using this
  ·intro D hD hp;have:=B27.1 q7 D hD;rw[hp]at this;simp only[Bool.not_true,B83,B63]at this;rcases this with h | h
   ·exact .inl (fM h)
   ·obtain⟨p,cr,ax⟩:=List.any_eq_true.1 h;simp only[B24]at ax;have e1:=B49 ax.1;have e2:=fM ax.2;obtain⟨p1,p2⟩:=p;simp only at e1 e2;rw[<-e1,<-e2];exact .inr cr
 have cq:∀i o,l[i]?=some o->∀D∈M,nG l.toArray E i D=true->∃U,UIn l sv fr o U/\((turns o.op=false/\Neu P o U (qC W ob D) (fun s=>s=y6 sv i)) \/
   ∃new x,sT W i=some (new,x)/\SA P nt l.toArray o U new (qC W ob D) x (y6 sv i)):=by
  intro i o C D hD hp;have ad:i<l.length:=(B28.1 C).1;have:ObG P nt l sv W fr ob i D:=by
   rcases (aj i o C).2.2.2.2.2.2.2 D hD hp with rfl | h
   ·exact h1 i ad
   ·obtain⟨o',I,h⟩:=h2.get _ h;refine⟨o',_,I,fun t s ht=>⟨aJ ht,FZ cu (l9 ht)⟩,h⟩
  obtain⟨o',U,I,hU,h⟩:=this;rw[C]at I;cases I;exact⟨U,hU,h⟩
 have db:∀(j t:Nat),(l.toArray[j]?).bind (fun o=>o.dst)=some t->t<nt:=by
  intro j t ht;cases C:l[j]? with
  | none=>simp[C]at ht
  | some o=>simp[C]at ht;exact (aj j o C).2.1 t ht
 refine wp_region_any hm ?_;have cy:Below w.heap.size w { w with drawn:=w.drawn+1 }:=⟨rfl,rfl,rfl,B29 _,fun _ _=>rfl⟩
 have cs:SimF P S (C7 fr) ob G a { w with drawn:=w.drawn+1 }:=(simF_iff.2 hs).ext cy
 have key : ∀(J:Nat) (k:Array Bool) (φ:Fa) (G:Gh) (a:Act) (w:World),k.size=l.length->unl k l.length=J->Closed l.toArray k->(E.filter fun j=>k.getD j false)∈M->InvC l sv fr k φ->SimF P S φ (qC W ob (E.filter fun j=>k.getD j false)) G a w ->
   wpAny P .any l.toArray (PostOf P S Q) J k a w:=by
  intro J;induction J with
  | zero =>
   intro k φ G a w bq hu hc hM hI T;have K:∀j,j<l.length->k.getD j false=true:=by
    intro j F;unfold unl at hu;have:=(List.countP_eq_zero.1 hu) j (B44.2 F);simpa using this
   have ak:Region.ready .any l.toArray k=[]:=by
    cases hr:Region.ready .any l.toArray k with
    | nil=>rfl
    | cons i r =>
     exfalso;have hi:i∈Region.ready .any l.toArray k:=by rw[hr];exact B52 ..
     have A:=K4 hi;obtain⟨_,o,C,_⟩:=mem_ready.1 hi;rw[B45]at C;rw[K i (B28.1 C).1]at A;cases A
   refine⟨ak,?_⟩;have bt:(E.filter fun j=>k.getD j false)=E:=by
    rw[List.filter_eq_self];intro e he;exact K e (by simpa using B27.1 b5 e he)
   rw[bt]at T;refine⟨fr',qC W ob E,G,hQ,.inl (simF_iff.1 ⟨T.1,fun t s ht=>T.2 t s ?_⟩)⟩;rcases be t s ht with ⟨j,o,A,B,rfl⟩ | ⟨A,B⟩
   ·exact hI.put j o t A (K j (B28.1 A).1) B
   ·exact hI.old t s B A
  | succ J ih =>
   intro k φ G a w bq hu hc hM hI T;refine⟨fun h0=>?_,fun i hi=>?_⟩
   ·-- some operation is ready
    exfalso;have cd:∃j,j<l.length/\k.getD j false=false:=by
     refine B55 fun cp=>?_;have:unl k l.length=0:=by
      unfold unl;refine List.countP_eq_zero.2 fun j F=>?_;have F:=B44.1 F;cases hb:k.getD j false
      ·exact absurd ⟨j,F,hb⟩ cp
      ·simp
     omega
    have bi:∀n,(∃j,j<n/\j<l.length/\k.getD j false=false)->∃j,j<l.length/\k.getD j false=false/\∀p,p<j->k.getD p false=true:=by
     intro n;induction n with
     | zero=>rintro⟨j,F,_⟩;omega
     | succ n cz =>
      rintro⟨j,F,L,ai⟩;by_cases ap:∃j',j'<n/\j'<l.length/\k.getD j' false=false
      ·exact cz ap
      ·refine⟨j,L,ai,fun p hp=>?_⟩;cases hb:k.getD p false
       ·exact absurd ⟨p,by omega,by omega,hb⟩ ap
       ·rfl
    obtain⟨j,ck,cl⟩:=cd;obtain⟨j,L,ai,cn⟩:=bi (j+1) ⟨j,by omega,ck,cl⟩;have C:l[j]?=some l[j]:=B23 L;have bh:j∈Region.ready .any l.toArray k:=by
     refine mem_ready.2 ⟨?_,l[j],by rw[B45];exact C,fun e he hb=>?_⟩
     ·have ab:j<k.size:=by omega
      simp only[B35,Array.getElem?_eq_getElem ab]at ai ⊢;simpa using ai
     ·have:=(aj j _ C).2.2.2.2.2.2.1 e (Array.mem_toList_iff.2 he) hb;exact cn _ this
    rw[h0]at bh;cases bh
   ·have Y:=K4 hi;obtain⟨_,o,C,K⟩:=mem_ready.1 hi;rw[B45]at C;have ad:i<l.length:=(B28.1 C).1;obtain⟨g1,g2,g3,g4,g5,g6,g7,g8⟩:=aj i o C;obtain⟨D,hD⟩:∃D,D=E.filter fun j=>k.getD j false:=⟨_,rfl⟩
    rw[<-hD]at hM T;have ah:∀e,e∈D↔e∈E/\k.getD e false=true:=fun e=>by rw[hD,List.mem_filter]
    have ba:∀j,Bef l.toArray i j=true->k.getD j false=true:=fun j F=>T7 hc i F (fun o' I e he hb=>by
     rw[B45,C]at I;cases I
     exact K e (Array.mem_toList_iff.1 he) hb)
    have bp:nG l.toArray E i D=true:=by
     unfold nG;simp only[B24,B60,B27,B63];refine⟨?_,fun j F=>?_,fun j F=>?_⟩
     ·cases hb:E8 D i
      ·rfl
      ·have:=((ah i).1 (t8.1 hb)).2;rw[Y]at this;cases this
     ·cases hb:Bef l.toArray i j
      ·exact .inl rfl
      ·exact .inr (t8.2 ((ah j).2 ⟨F,ba j hb⟩))
     ·cases hb:Bef l.toArray j i
      ·rfl
      ·have L:=((ah j).1 F).2;have:k.getD i false=true:=T7 hc j hb (fun o' I e he aq=>hc j o' I L e he aq);rw[Y]at this;cases this
    have al:∀U,UIn l sv fr o U->Told U φ:=by
     intro U hU t s ht;obtain⟨cx,A⟩:=hU t s ht;rcases A with ⟨j,oj,A,B,rfl⟩ | ⟨A,B⟩
     ·exact hI.put j oj t A (ba j (g5 t cx j oj A B)) B
     ·exact hI.old t s B A
    have an:=L3 hc hi;have ab:(k.setIfInBounds i true).size=l.length:=by simpa using bq
    have br:unl (k.setIfInBounds i true) l.length=J:=by
     have:=JI (by omega) Y ad;omega
    have ao:∀φ',φ'=(match o.dst with | some d=>Z4 φ d (y6 sv i) | none=>φ)->InvC l sv fr (k.setIfInBounds i true) φ':=by
     intro φ' hφ;have R:∀j,(k.setIfInBounds i true).getD j false=true↔j=i\/k.getD j false=true:=by
      intro j;by_cases F:j=i
      ·subst F;simp only[true_or,iff_true];simp[show j<k.size by omega]
      ·rw[aL (Ne.symm F)];simp[F]
     cases X:o.dst with
     | none =>
      rw[X]at hφ;have hφ:φ'=φ:=hφ;subst hφ;refine⟨fun j oj d A B V=>?_,fun t s A=>?_,hI.old⟩
      ·rcases (R j).1 B with rfl | B
       ·rw[C]at A;cases A;rw[X]at V;cases V
       ·exact hI.put j oj d A B V
      ·rcases hI.from' t s A with ⟨j,oj,B,V,h6⟩ | B
       ·exact .inl ⟨j,oj,B,(R j).2 (.inr V),h6⟩
       ·exact .inr B
     | some d0 =>
      rw[X]at hφ;have hφ:φ'=Z4 φ d0 (y6 sv i):=hφ;subst hφ;refine⟨fun j oj d A B V=>?_,fun t s A=>?_,fun t s A B=>?_⟩
      ·unfold Z4;rcases (R j).1 B with rfl | B
       ·rw[C]at A;cases A;rw[X]at V;cases V;rw[A5 rfl]
       ·by_cases ac:d=d0
        ·subst ac;have:=rR b3 A C V X;subst this;rw[A5 rfl]
        ·rw[A6 ac];exact hI.put j oj d A B V
      ·unfold Z4 at A;by_cases ac:t=d0
       ·rw[A5 ac]at A;cases A;exact .inl ⟨i,o,C,(R i).2 (.inl rfl),by rw[ac];exact X,rfl⟩
       ·rw[A6 ac]at A;rcases hI.from' t s A with ⟨j,oj,B,V,h6⟩ | B
        ·exact .inl ⟨j,oj,B,(R j).2 (.inr V),h6⟩
        ·exact .inr B
      ·unfold Z4;have:t≠d0:=fun q=>B (by rw[q];exact jS C X);rw[A6 this];exact hI.old t s A B
    unfold wpOp;simp only[B45,C];rw[A5 (by simp[Region.wanted,g1])];obtain⟨U,hU,bo⟩:=cq i o C D hM bp;have ag:=al U hU;rcases bo with ⟨ht,bk⟩ | ⟨new,x,hx,hq⟩
    ·refine .inl (J4 (bk S G a w (T.sub fun t s ht=>ag t s ht)) ?_);rintro v w' ⟨bs,s,rfl,hv⟩;have bj:E8 E i=false:=by rw[<-g3];exact ht
     have ae:(E.filter fun j=>(k.setIfInBounds i true).getD j false)=D:=by
      rw[hD];apply List.filter_congr;intro j F;have:j≠i:=fun q=>by rw[<-q,t8.2 F]at bj;cases bj
      exact aL (Ne.symm this)
     obtain⟨d0,ar⟩:=g4.resolve_left (by rw[ht];simp);rw[ar];refine ih (k.setIfInBounds i true) (Z4 φ d0 (y6 sv i)) G _ w' ab br an (by rw[ae];exact hM) (ao _ (by rw[ar])) ?_;rw[ae];exact (T.ext bs).put (by rw[hn];exact g2 d0 ar) hv
    ·have bf:i∈E:=by rw[hE];exact B62.2 ⟨_,JH hx,rfl⟩
     have ae:(E.filter fun j=>(k.setIfInBounds i true).getD j false)=dP i D:=by
      rw[hD];exact rQ (by omega) Y b4 bf
     have bu:dP i D∈M:=by
      have:=B27.1 (B27.1 b7 D hM) i bf;rw[bp]at this;exact tG (by simpa using this)
     have cg:new=true->AF x.1 φ:=by
      intro bl;have hf:∀(xs:Xe),vT l.toArray sv fr xs=true->(i,new,x)∈xs->H7 x.1 (frBut l.toArray i sv fr)=true:=by
       intro xs;induction xs with
       | nil=>intro _ h;simp at h
       | cons y r da =>
        obtain⟨e',n',x'⟩:=y;intro Z N;simp only[vT,B24,B63]at Z;rcases B34.1 N with q | q
        ·cases q;rcases Z.1 with q | q
         ·rw[bl]at q;simp at q
         ·exact q
        ·exact da Z.2 q
      have bd:=hf W au (JH hx);unfold frBut at bd;have bv:∀(a b:Fr),H7 x.1 (a++b)=true->H7 x.1 a=true/\H7 x.1 b=true:=by
       intro a b;induction a with
       | nil=>intro h;exact⟨rfl,h⟩
       | cons y r am =>
        obtain⟨j,s⟩:=y;intro h;simp only[B66,H7,B24]at h ⊢;exact⟨⟨h.1,(am h.2).1⟩,(am h.2).2⟩
      obtain⟨ce,cf⟩:=bv _ _ bd;intro t s cv;rcases hI.from' t s cv with ⟨j,oj,B,V,h6,rfl⟩ | B
      ·have aw:∀(a:List Nat),H7 x.1 (a.map fun j=>(j,y6 sv j))=true->j∈a->(y6 sv j).free x.1=true:=by
        intro a;induction a with
        | nil=>intro _ h;simp at h
        | cons y r am =>
         intro Z N;simp only[B50,H7,B24]at Z;rcases B34.1 N with rfl | q
         ·exact Z.1
         ·exact am Z.2 q
       refine aw _ ce (List.mem_filter.2 ⟨B44.2 ?_,?_⟩)
       ·simpa using (B28.1 B).1
       ·have cm:j≠i:=fun q=>by rw[q,Y]at V;cases V
        have ca:Bef l.toArray j i=false:=by
         cases hb:Bef l.toArray j i
         ·rfl
         ·have:k.getD i false=true:=T7 hc j hb (fun o' I e he aq=>hc j o' I V e he aq);rw[Y]at this;cases this
        rw[P3 cm,ca];rfl
      ·exact MM cf t s B
     obtain⟨_,ay⟩:=hq φ ag cg;refine .inl (J4 (ay S G a w hn T) ?_);rintro v w' ⟨φ',dc,G',⟨hφ,rfl⟩,ct⟩;refine ih (k.setIfInBounds i true) φ' G' _ w' ab br an (by rw[ae];exact bu) (ao φ' hφ) ?_;rw[ae];refine ct.weakO (MP hx ?_);intro d hd ci y hy;have hk:=B27.1 (B27.1 (B27.1 av D hM) _ (JH hx)) d hd;simp only[B63,B60]at hk;rcases hk with (hk | hk) | hk
     ·have:=((ah i).1 (t8.1 hk)).2;rw[Y]at this;cases this
     ·have:Nat.blt i d=true:=by simpa using ci
      rw[this]at hk;cases hk
     ·rw[hy]at hk;intro q;simp only[B60]at hk;rw[q,Nat.beq_refl]at hk;cases hk
 have H:∀j,(Array.replicate l.length false).getD j false=false:=by
  intro j;simp only[B35];rcases Nat.lt_or_ge j l.length with h' | h'
  ·simp[h']
  ·simp[h']
 have bc:(E.filter fun j=>(Array.replicate l.length false).getD j false)=[]:=by
  rw[List.filter_eq_nil_iff];intro e _;rw[H];simp
 have cw:unl (Array.replicate l.length false) l.length=l.length:=by
  unfold unl;have:(List.range l.length).countP (fun i=>!(Array.replicate l.length false).getD i false)=(List.range l.length).length:=by
   rw[List.countP_eq_length];intro i _;rw[H];rfl
  rw[this,B93]
 have:=key l.length (Array.replicate l.length false) (C7 fr) G a _ (by simp) cw (fun j o C hl=>by rw[H]at hl;cases hl) (by rw[bc];exact tG b6) ⟨fun j o d _ B _=>(by rw[H]at B;cases B),fun t s A=>.inr A,fun t s A _=>A⟩ (by rw[bc];exact cs);simpa using this
def AK(P:Program)(nt:Nat)(ops:Array Oper)(K:Fr->Obs->List SV->Xe->Prop):Nat->List Oper->Fr->Obs->List SV->Xe->Prop
 | _,[],fr,ob,sv,xe=>K fr ob sv.reverse xe
 | i,o::l,fr,ob,sv,xe =>
  (turns o.op=false/\∃s d,o.dst=some d/\Neu P o (Q9 fr (X7 o.op)) ob (fun a=>a=s)/\AK P nt ops K (i+1) l ((d,s)::fr) ob (s::sv) xe) \/
  (∃new x s,SA P nt ops o (Q9 fr (X7 o.op)) new ob x s/\AK P nt ops K (i+1) l (match o.dst with | some d=>(d,s)::fr | none=>fr) (x::ob) (s::sv) ((i,new,x)::xe))
def dR:List Oper->List SV->Fr->Fr
 | o::l,s::sv,fr=>dR l sv (match o.dst with | some d=>(d,s)::fr | none=>fr)
 | _,_,fr=>fr
theorem vU:∀{l:List Oper} {sv:List SV} {fr:Fr} {t:Nat} {s:SV},sv.length=l.length->C7 (dR l sv fr) t=some s->(∃j o,l[j]?=some o/\o.dst=some t/\s=y6 sv j)\/(t∉r9 l/\C7 fr t=some s)
 | [],[],fr,t,s,_,h=>.inr ⟨by simp[r9],h⟩
 | [],_::_,_,_,_,hl,_=>by simp at hl
 | _::_,[],_,_,_,hl,_=>by simp at hl
 | o :: l,s0::sv,fr,t,s,hl,h=>by
  unfold dR at h;rcases vU (by simpa using hl) h with ⟨j,g,e,a,f⟩ | ⟨e,a⟩
  ·exact .inl ⟨j+1,g,by simpa using e,a,by rw[f];simp[y6]⟩
  ·cases c:o.dst with
   | none =>
    rw[c]at a;exact .inr ⟨by unfold r9;rw[c];exact e,a⟩
   | some d =>
    rw[c]at a;have a:C7 ((d,s0)::fr) t=some s:=a;by_cases b:d=t
    ·subst b;rw[C2]at a;cases a;exact .inl ⟨0,o,rfl,c,rfl⟩
    ·rw[B5 b]at a;refine .inr ⟨?_,a⟩;unfold r9;rw[c];intro q;rcases B34.1 q with q | q
     ·exact b q.symm
     ·exact e q
def At1(P:Program)(nt:Nat)(ops:Array Oper)(o:Oper)(i:Nat)(fr:Fr)(ob:Obs)(s:SV)(b:Xe):Prop :=
 (turns o.op=false/\Neu P o (Q9 fr (X7 o.op)) ob (fun a=>a=s))\/∃new x,sT b i=some (new,x)/\SA P nt ops o (Q9 fr (X7 o.op)) new ob x s
def MQ(ob:Obs):Xe->Obs
 | []=>ob
 | (_,_,x)::r=>x::MQ ob r
theorem WD{a b:Xe}{e:Nat}(h:∀p∈a,p.1≠e):sT (a++b) e=sT b e:=by
 induction a with
 | nil=>rfl
 | cons y r f =>
  obtain⟨i,y⟩:=y;have c:i≠e:=h (i,y) (B52 ..);show cond (Nat.beq i e) (some y) (sT (r++b) e)=_;rw[P3 c];exact f fun p d=>h p (B46 _ d)
theorem AM{ops:Array Oper}{K:Fr->Obs->List SV->Xe->Prop}{ob0:Obs}:∀{l:List Oper} {i:Nat} {fr:Fr} {ob:Obs} {sv:List SV} {u:Xe},AK P nt ops K i l fr ob sv u->ob=MQ ob0 u->(∀p∈u,p.1<i) ->
  ∃c g,c.length=l.length/\(∀p∈g,i<=p.1/\p.1<i+l.length)/\desc (g.map (·.1))=true/\K (dR l c fr) (MQ ob0 (g++u)) (sv.reverse++c) (g++u) /\
   ∀j o,l[j]?=some o->∃B w,g=B++w/\(∀p∈w,p.1<i+j)/\(∀p∈B,i+j<=p.1)/\At1 P nt ops o (i+j) (dR (l.take j) (c.take j) fr) (MQ ob0 (w++u)) (y6 c j) g
 | [],i,fr,ob,sv,u,h,hob,_=>by
  refine⟨[],[],rfl,by simp,rfl,?_,fun j o Y=>by simp at Y⟩;rw[B71,B74,<-hob];exact h
 | o :: l,i,fr,ob,sv,u,h,hob,E=>by
  rcases h with ⟨Z,s,d,W,X,R⟩ | ⟨new,x,s,hq,R⟩
  ·obtain⟨c,g,J,v,L,M,N⟩:=AM (ob0:=ob0) R hob (fun p f=>by have:=E p f;omega);have D:dR (o::l) (s::c) fr=dR l c ((d,s)::fr):=by
    show dR l c (match o.dst with | some d=>(d,s)::fr | none=>fr)=_;rw[W]
   refine⟨s::c,g,by simp[J],fun p f=>by have:=v p f;simp only[B31];omega,L,?_,?_⟩
   ·rw[D];simpa using M
   ·intro j U m;cases j with
    | zero =>
     simp at m;subst m;refine⟨g,[],by simp,by simp,fun p f=>by have:=v p f;omega,?_⟩;rw[B74,<-hob];exact .inl ⟨Z,X⟩
    | succ j =>
     obtain⟨B,w,F,G,H,C⟩:=N j U (by simpa using m);refine⟨B,w,F,fun p f=>by have:=G p f;omega,fun p f=>by have:=H p f;omega,?_⟩;have I:dR ((o::l).take (j+1)) ((s::c).take (j+1)) fr=dR (l.take j) (c.take j) ((d,s)::fr):=by
      show dR (l.take j) (c.take j) (match o.dst with | some d=>(d,s)::fr | none=>fr)=_;rw[W]
     rw[I,show i+(j+1)=i+1+j by omega,show y6 (s::c) (j+1)=y6 c j by simp[y6]];exact C
  ·obtain⟨c,g,J,v,L,M,N⟩:=AM (ob0:=ob0) R (by rw[hob];rfl) (fun p f=>by
    rcases B34.1 f with rfl | f
    ·exact Nat.lt_succ_self _
    ·have:=E p f;omega)
   refine⟨s::c,g++[(i,new,x)],by simp[J],?_,?_,?_,?_⟩
   ·intro p f;rcases B36.1 f with f | f
    ·have:=v p f;simp only[B31];omega
    ·simp at f;subst f;simp only[B31];omega
   ·have Q:∀(a:List Nat) (b:Nat),desc a=true->(∀x∈a,b<x)->desc (a++[b])=true:=by
     intro a b;induction a with
     | nil=>intro _ _;rfl
     | cons y r T =>
      intro O V;simp only[desc,B24]at O;simp only[B66,desc,B24];refine⟨B27.2 fun z A=>?_,T O.2 fun x E=>V x (B46 _ E)⟩;rcases B36.1 A with A | A
      ·exact B27.1 O.1 z A
      ·simp at A;subst A;simpa using V y (B52 ..)
    rw[B65];refine Q _ i L fun y hy=>?_;obtain⟨p,f,rfl⟩:=B62.1 hy;have:=v p f;omega
   ·have e:dR (o::l) (s::c) fr=dR l c (match o.dst with | some d=>(d,s)::fr | none=>fr):=rfl;rw[e];simpa using M
   ·intro j U m;cases j with
    | zero =>
     simp at m;subst m;refine⟨g++[(i,new,x)],[],by simp,by simp,?_,?_⟩
     ·intro p f;rcases B36.1 f with f | f
      ·have:=v p f;omega
      ·simp at f;subst f;simp
     ·rw[B74,<-hob];refine .inr ⟨new,x,?_,hq⟩;rw[WD (fun p f=>by have:=v p f;omega)];show cond (Nat.beq i (i+0)) _ _=_;rw[Nat.add_zero,Nat.beq_refl];rfl
    | succ j =>
     obtain⟨B,w,F,G,H,C⟩:=N j U (by simpa using m);refine⟨B,w++[(i,new,x)],by rw[F];simp,?_,fun p f=>by have:=H p f;omega,?_⟩
     ·intro p f;rcases B36.1 f with f | f
      ·have:=G p f;omega
      ·simp at f;subst f;simp
     ·have I:dR ((o::l).take (j+1)) ((s::c).take (j+1)) fr=dR (l.take j) (c.take j) (match o.dst with | some d=>(d,s)::fr | none=>fr):=rfl;rw[I,show i+(j+1)=i+1+j by omega,show y6 (s::c) (j+1)=y6 c j by simp[y6],B51];rcases C with C | ⟨n',x',e6,e7⟩
      ·exact .inl C
      ·refine .inr ⟨n',x',?_,e7⟩;have S:∀(a b:Xe) (e:Nat) y,sT a e=some y->sT (a++b) e=some y:=by
        intro a b e y;induction a with
        | nil=>intro h;cases h
        | cons z r T =>
         obtain⟨q,z⟩:=z;intro h;show cond (Nat.beq q e) (some z) (sT (r++b) e)=_;unfold sT at h;cases hb:Nat.beq q e
         ·rw[hb]at h;exact T h
         ·rw[hb]at h;exact h
       exact S _ _ _ _ e6
def Rest1(P:Program)(nt:Nat)(l:List Oper)(M:List (List Nat))(d:List (Nat×List Nat))(E:List Nat)(b:Fr)(ob0:Obs)(Q:Post)(fr:Fr)(ob:Obs)(sv:List SV)(c:Xe):Prop :=
 (dQ (c.map (·.1)) E&&(vT l.toArray sv b c&&SB c M))=true/\Ob1s P nt l sv c b ob0 d/\Q .normal fr ob
theorem MR{ob:Obs}:∀{a:Xe},desc (a.map fun p=>p.1)=true->qC a ob (a.map fun p=>p.1)=MQ ob a:=by
 have key:∀(b:Xe) (a:Xe),(∀p∈a,sT b p.1=some p.2)->qC b ob (a.map (·.1))=MQ ob a:=by
  intro b a;induction a with
  | nil=>intro _;rfl
  | cons y r f =>
   intro h;obtain⟨i,n,x⟩:=y;have e:=h (i,n,x) (B52 ..);have e:sT b i=some (n,x):=e;show (match sT b i with | some x=>x.2::qC b ob (r.map (fun p:Nat×Bool×(Nat×Ob)=>p.1)) | none=>qC b ob (r.map (fun p:Nat×Bool×(Nat×Ob)=>p.1)))=_;rw[e,f fun p c=>h p (B46 _ c)];rfl
 intro a h;refine key a a ?_;have d:∀(a:Xe),desc (a.map (·.1))=true->∀p∈a,sT a p.1=some p.2:=by
  intro a;induction a with
  | nil=>intro _ p c;simp at c
  | cons y r f =>
   intro h p c;obtain⟨i,y⟩:=y;simp only[B50,desc,B24]at h;rcases B34.1 c with rfl | c
   ·show cond (Nat.beq i i) (some y) _=_;rw[Nat.beq_refl];rfl
   ·have g:p.1<i:=by simpa using B27.1 h.1 p.1 (B62.2 ⟨p,c,rfl⟩)
    show cond (Nat.beq i p.1) (some y) (sT r p.1)=_;rw[P3 (by omega)];exact f h.2 p c
 exact d a h
theorem obD_low{ob:Obs}{d c:Xe}{j:Nat}(n:desc ((d++c).map (·.1))=true)(ha:∀p∈d,j<=p.1)(hb:∀p∈c,p.1<j):qC (d++c) ob (RZ ((d++c).map (·.1)) j)=MQ ob c:=by
 have e:RZ ((d++c).map (·.1)) j=c.map (·.1):=by
  unfold RZ;rw[B65,C04,List.filter_eq_nil_iff.2,B74,List.filter_eq_self.2]
  ·intro y k;obtain⟨p,f,rfl⟩:=B62.1 k;simpa using hb p f
  ·intro y k;obtain⟨p,f,rfl⟩:=B62.1 k;have:=ha p f;simp;omega
 rw[e];have g:desc (c.map (·.1))=true:=by
  have:∀(a b:List Nat),desc (a++b)=true->desc b=true:=by
   intro a b;induction a with
   | nil=>exact fun h=>h
   | cons y r l=>intro h;simp only[B66,desc,B24]at h;exact l h.2
  rw[B65]at n;exact this _ _ n
 rw[<-MR (ob:=ob) g];have t:∀(D:List Nat),(∀e∈D,e<j)->qC (d++c) ob D=qC c ob D:=by
  intro D;induction D with
  | nil=>intro _;rfl
  | cons e D l =>
   intro h;have q:sT (d++c) e=sT c e:=WD fun p f=>by
    have:=ha p f;have:=h e (B52 ..);omega
   show (match sT (d++c) e with | some x=>x.2::qC (d++c) ob D | none=>qC (d++c) ob D)=(match sT c e with | some x=>x.2::qC c ob D | none=>qC c ob D)
   rw[q,l fun o i=>h o (B46 _ i)]
 refine t _ fun e s=>?_;obtain⟨p,f,rfl⟩:=B62.1 s;exact hb p f
theorem tH{id:Nat}{l:List Oper}{fr:Fr}{ob:Obs}{Q:Post}(E:List Nat)(M:List (List Nat))(k:List (Nat×List Nat))(hm:P.follows .mixedOrders=true)
  (W:JG nt l E M k=true)(h:AK P nt l.toArray (Rest1 P nt l M k E fr ob Q) 0 l fr ob [] []):WpC P nt (.region id l.toArray true) fr ob Q:=by
 obtain⟨sv,R,q,z,G,U,h5⟩:=AM (ob0:=ob) h rfl (fun p hp=>by simp at hp);rw[B71,List.reverse_nil,B74]at U;obtain⟨A,w,hQ⟩:=U;simp only[B24]at A;have hE:=fM A.1;have f:=W;unfold JG at f;simp only[B24]at f;obtain⟨⟨⟨⟨⟨⟨b1,b2⟩,b3⟩,b4⟩,b5⟩,b6⟩,b7⟩:=f;refine ER sv R M k hm q (by rw[hE];exact W) ?_ A.2.1 A.2.2 w (fr':=dR l sv fr) (fun t s B=>vU q B) (by rw[MR G];exact hQ);intro i X;have K:l[i]?=some l[i]:=B23 X;obtain⟨xa,xb,e1,S,T,C⟩:=h5 i _ K;rw[B70]at S T C;rw[B71]at C;have L:qC R ob (RZ (R.map (·.1)) i)=MQ ob xb:=by
  rw[e1]at G ⊢;exact obD_low G T S
 have hU:UIn l sv fr l[i] (Q9 (dR (l.take i) (sv.take i) fr) (X7 l[i].op)):=by
  intro t s B;have y:=aJ B;refine⟨y,?_⟩;have N:=B27.1 b2 i (B44.2 X);simp only[B45,K]at N;simp only[B24]at N;obtain⟨q3,q4,q5,q6,q7⟩:=N;rcases vU (by rw[B42,B42];omega) (l9 B) with ⟨j,c,h6,h7,u⟩ | ⟨h6,h7⟩
  ·have Y:j<i:=by
    have:=(B28.1 h6).1;rw[B42]at this;omega
   rw[B78 Y]at h6;refine .inl ⟨j,c,h6,h7,?_⟩;rw[u];unfold y6;rw[B30,B30,B78 Y]
  ·refine .inr ⟨?_,h7⟩;intro J;have I:∀(m:List Oper) (t:Nat),t∈r9 m->∃(j:Nat) (c:Oper),m[j]?=some c/\c.dst=some t:=by
    intro m t;induction m with
    | nil=>intro h;simp[r9]at h
    | cons o m Z =>
     intro h;unfold r9 at h;cases H:o.dst with
     | none=>rw[H]at h;obtain⟨j,c,q,z⟩:=Z h;exact⟨j+1,c,by simpa using q,z⟩
     | some d =>
      rw[H]at h;rcases B34.1 h with rfl | h
      ·exact⟨0,o,rfl,H⟩
      ·obtain⟨j,c,q,z⟩:=Z h;exact⟨j+1,c,by simpa using q,z⟩
   obtain⟨j,c,u,V⟩:=I l t J;have v:j<l.length:=(B28.1 u).1;have a:=B27.1 (B27.1 q5.1 t y) j (B44.2 v);simp only[u,V]at a;have a:Bef l.toArray i j=true:=by simpa using a
   have b:=B27.1 q5.2 j (B44.2 v);rw[a]at b;have b:j<i:=by simpa using b
   exact h6 (jS (l:=l.take i) (j:=j) (by rw[B78 b];exact u) V)
 refine⟨l[i],_,K,hU,?_⟩;rw[L];rcases C with ⟨D,F⟩ | ⟨n,x,D,F⟩
 ·exact .inl ⟨D,F⟩
 ·exact .inr ⟨n,x,D,F⟩
theorem dS{ops:Array Oper}{K:Fr->Obs->List SV->Xe->Prop}{i d:Nat}{l:List Oper}{fr:Fr}{ob:Obs}{sv:List SV}{b:Xe}{a:Op}{ty:TypeId}{pos:String}{af:Array Edge}{gd:Option (Nat×Bool)}{s:SV}(c:turns a=false)
  (h:Neu P ⟨some d,a,ty,pos,af,gd⟩ (Q9 fr (X7 a)) ob (fun e=>e=s))(k:AK P nt ops K (i+1) l ((d,s)::fr) ob (s::sv) b):AK P nt ops K i (⟨some d,a,ty,pos,af,gd⟩::l) fr ob sv b :=
 .inl ⟨c,s,d,rfl,h,k⟩
theorem WE{ops:Array Oper}{K:Fr->Obs->List SV->Xe->Prop}{i d:Nat}{l:List Oper}{fr:Fr}{ob:Obs}{sv:List SV}{g:Xe}{ty:TypeId}{pos:String}{af:Array Edge}(k:Nat){e:TypeId}{z:Value}[hz:TyZero P e z](h:J2 k ob=true)(j:Nat.blt d nt=true)
  (m:AK P nt ops K (i+1) l ((d,.s (.one (.ref k 0)))::fr) ((k,.box (z.cells.toList.map fun c=>.p (.v c)))::ob) ((.s (.one (.ref k 0)))::sv) ((i,true,(k,.box (z.cells.toList.map fun c=>.p (.v c))))::g)) :
  AK P nt ops K i (⟨some d,.alloc e,ty,pos,af,none⟩::l) fr ob sv g :=
 .inr ⟨true,_,_,WC h j,m⟩
theorem zD{ops:Array Oper}{K:Fr->Obs->List SV->Xe->Prop}{i:Nat}{l:List Oper}{fr:Fr}{ob:Obs}{sv:List SV}{c:Xe}{b:Op}{ty:TypeId}{pos:String}{af:Array Edge}{x:Nat×Ob}(h:YB P ⟨none,b,ty,pos,af,none⟩ (Q9 fr (X7 b)) ob (x::ob))
  (d:AK P nt ops K (i+1) l fr (x::ob) (.any::sv) ((i,false,x)::c)):AK P nt ops K i (⟨none,b,ty,pos,af,none⟩::l) fr ob sv c :=
 .inr ⟨false,x,.any,q_store h,d⟩
theorem a_nil{ops:Array Oper}{l:List Oper}{M:List (List Nat)}{d:List (Nat×List Nat)}{E:List Nat}{b:Fr}{c:Obs}{Q:Post}{i:Nat}{fr:Fr}{ob:Obs}{sv:List SV}{e:Xe}
  (h:(dQ (e.map (·.1)) E&&(vT l.toArray sv.reverse b e&&SB e M))=true)(f:Ob1s P nt l sv.reverse e b c d)(g:Q .normal fr ob):AK P nt ops (Rest1 P nt l M d E b c Q) i [] fr ob sv e:=⟨h,f,g⟩
theorem o_nil{l:List Oper}{sv:List SV}{a:Xe}{fr:Fr}{ob:Obs}:Ob1s P nt l sv a fr ob []:=trivial
theorem Q4{l:List Oper}{sv:List SV}{a:Xe}{fr:Fr}{ob:Obs}{i:Nat}{D:List Nat}{r:List (Nat×List Nat)}{o:Oper}(b:l[i]?=some o)(c:turns o.op=false)(h:Neu P o (Q9 (tF l sv fr) (X7 o.op)) (qC a ob D) (fun d=>d=y6 sv i))
  (k:Ob1s P nt l sv a fr ob r):Ob1s P nt l sv a fr ob ((i,D)::r):=⟨⟨o,b,.inl ⟨c,h⟩⟩,k⟩
theorem WF{l:List Oper}{sv:List SV}{d:Xe}{fr:Fr}{ob:Obs}{i:Nat}{D:List Nat}{r:List (Nat×List Nat)}{g k:Nat}{e:TypeId}{z:Value}{ty:TypeId}{pos:String}{af:Array Edge}(m:l[i]?=some ⟨some g,.alloc e,ty,pos,af,none⟩)[hz:TyZero P e z]
  (t:sT d i=some (true,(k,.box (z.cells.toList.map fun c=>.p (.v c)))))(h:J2 k (qC d ob D)=true)(j:Nat.blt g nt=true)(q:y6 sv i=.s (.one (.ref k 0)))
  (u:Ob1s P nt l sv d fr ob r):Ob1s P nt l sv d fr ob ((i,D)::r):=⟨⟨_,m,.inr ⟨true,_,t,by rw[q];exact WC h j⟩⟩,u⟩
section
variable {P:Program}{dst:Option Tmp}{ty:TypeId}{pos:String}{af:Array Edge}{gd:Option (Nat×Bool)}{fr:Fr}{ob:Obs}
def nI(fr:Fr):List Operand->Option (List (Nat×Nat))
 | []=>some []
 | x::r=>match opv fr x with
  | some (.s (.one (.ref k o)))=>(nI fr r).map ((k,o)::·)
  | _=>none
theorem rS{S:Ctx}{G:Gh}{a:Act}{w:World}(h:Sim P S fr ob G a w):∀(c:List Operand) (ps:List (Nat×Nat)),nI fr c=some ps->All2 (eP G) ps (c.map a.eval)
 | [],ps,h1=>by simp[nI]at h1;subst h1;trivial
 | x::r,ps,h1=>by
  unfold nI at h1;split at h1
  ·rename_i k o d;cases b:nI fr r with
   | none=>rw[b]at h1;simp at h1
   | some qs =>
    rw[b]at h1;simp at h1;subst h1;exact⟨G9 h d,rS h r qs b⟩
  ·cases h1
theorem AN{f:FuncId}{first cap:List Operand}{nf nc:List (Nat×Nat)}(b:nI fr first=some nf)(d:nI fr cap=some nc) :
  Neu P ⟨dst,.makeFunc (.func f) first.toArray cap.toArray,ty,pos,af,gd⟩ fr ob (fun g=>g=.s (.one (.clo f nf nc))) :=
 E1 fun S G a w h=>by
  refine⟨.func (.func f) (first.map a.eval).toArray (cap.map a.eval).toArray,?_,_,_,rfl,rS h first nf b,rS h cap nc d⟩;simp[execOp,Instr.makeFunc]
abbrev AO(p:Nat×Nat):S1:=.one (.ref p.1 p.2)
theorem nJ{b:Rd}{G:Gh}:∀{l:List (Nat×Nat)} {a:List Value},All2 (eP G) l a->All2 (S1.rep b G) (l.map AO) a
 | [],[],_=>trivial
 | [],_::_,h=>h.elim
 | _::_,[],h=>h.elim
 | _::l,_::a,h=>⟨h.1,nJ h.2⟩
section
variable {nt:Nat}{ops:Array Oper}{rest:List Oper}{Q:Post}{d:Nat}
theorem iP{f:FuncId}{g:Operand}{q:List Operand}{J:Array TypeId}{ty:TypeId}{pos:String}{af:Array Edge}{Z Y:List (Nat×Nat)}{args:List S1}{N:List Nat}{m:List S1->Obs->Prop}
  (hf:Met P f (Z.map AO++args++Y.map AO) (dN fr) ob N m)(hg:opv fr g=some (.s (.one (.clo f Z Y))))(ha:r7 fr q=some args)(hc:q.all F9=true)(hd:Nat.blt d nt=true)
  (kk:∀rs ob',m rs ob'->WpL P nt ops rest ((d,kQ rs)::B2 N fr) ob' Q):WpL P nt ops (⟨some d,.call ⟨.value g,q.toArray,J⟩,ty,pos,af,none⟩::rest) fr ob Q:=by
 intro S G a w hn h;obtain⟨O,R,U,W,X⟩:=G9 h hg;have H:All2 (S1.rep (D9 (Mut S ob G) w) G) (Z.map AO++args++Y.map AO) (O++q.map a.eval++R):=((nJ W).append (j2 h q args ha hc)).append (nJ X);obtain⟨I,C⟩:∃I:Nat->Value,I=fun i=>S.sl a (i-1000000):=⟨_,rfl⟩
 let S':Ctx:={ S with gv:=I }
 have E:High (dN fr):=fun i s L=>(T8 fr i s L).1;have b:∀i s,C7 (dN fr) i=some s->s.rep (D9 (Mut S' ob G) w) G (S'.sl a i):=by
  intro i s L;obtain⟨D,T⟩:=T8 fr i s L;rw[Ctx.sl_ge D];show s.rep _ _ (I i);have e:=congrFun C i;rw[e];exact h.facts (i-1000000) s T
 have hs:Sim P S' (dN fr) ob G a w:={ h with facts:=b }
 have x:=hf.2 E S' G a w _ hs H;refine wpList_plain rfl fun K hK=>J4 (K:=fun v w'=>∃rs ob' G',m rs ob'/\bF (D9 (Mut S' ob' G') w') G' rs v/\Sim P S' (B2 N (dN fr)) ob' G' a w') ?_ ?_
 ·have he:(execOp a.eval ⟨some d,.call ⟨.value g,q.toArray,J⟩,ty,pos,af,none⟩).run P w=.ok (.enter f (O++q.map a.eval++R).toArray) w:=by
   have:=J9 (P:=P) (f:=f) (args:=(O++q.map a.eval++R).toArray) (w:=w) hf.1;simp only[execOp,resolve,U,Deferred.ofValue,Sem.run_bind,Sem.run_pure,Result.andThen_ok,invoke];rw[show O.toArray++Array.map a.eval q.toArray++R.toArray=(O++q.map a.eval++R).toArray by simp];exact this
  unfold Does;rw[he];refine x.mono ?_;rintro e w' ⟨v,rs,ob',G',rfl,F,j,B⟩;exact⟨v,rfl,rs,ob',G',F,j,B⟩
 ·rintro v w' ⟨rs,ob',G',hp,j,B⟩;have V:d<S.nt:=by rw[hn];simpa using hd
  have z:∀i s,C7 (B2 N fr) i=some s->s.rep (D9 (Mut S ob' G') w') G' (S.sl a i):=by
   intro i s L;have D:=B.facts (i+1000000) s (by rw[Z6];exact kP L);have T:1000000<=i+1000000:=Nat.le_add_left _ _;rw[Ctx.sl_ge T]at D;have D:s.rep (D9 (Mut S ob' G') w') G' (I (i+1000000)):=D;have e:=congrFun C (i+1000000);simp only[Nat.add_sub_cancel]at e;rw[e]at D;exact D
  have M:Sim P S (B2 N fr) ob' G' a w':={ B with facts:=z }
  exact hK _ _ (kk rs ob' hp S G' _ w' hn (M.put V j))
end
theorem nK{x F E:Operand}{t e:TypeId}{f g k:Nat}{α:Type}{c:α->Nat->Cell}{d:List α}{D C:IntKind}{i j:Int}[ht:TySl P t e g f](L:opv fr x=some (.s (.one (.mut k))))(J:B0 ob k=some (.arr α g c d))
  (z:opv fr F=some (H6 (.int D i)))(y:opv fr E=some (H6 (.int C j)))(H:0<=i)(I:i<=j)(N:j<=d.length) :
  Neu P ⟨dst,.slice t x (some F) (some E) none,ty,pos,af,gd⟩ fr ob (fun M=>M=.s (.one (.msl k g i.toNat (j.toNat-i.toNat)))) :=
 E1 fun S G a w h=>by
  obtain⟨B,_⟩:=G9 h L;obtain⟨b,Q,O,A,p,_⟩:=h.obs k _ J;rw[A]at B;refine⟨sliced (some ⟨b,0,none⟩) i.toNat j.toNat d.length g,?_,b,d.length,d.length,d.length-i.toNat,if d.length=i.toNat then 0 else i.toNat*g,A,by omega,?_,by omega,p,?_⟩
  ·simp only[execOp,B,E9 h z,E9 h y,Option.map_some,Option.map_none];refine K2 ?_;obtain⟨q,v⟩:=ht.elem;simp only[Instr.sliceAt,Sem.run_bind,run_underlying ht.out.1,Result.andThen_ok];rw[run_slice_lh w t (some ⟨b,0,none⟩) d.length d.length q D C i j H I (by omega),v,I7 ht.size];rfl
  ·unfold sliced;split<;>simp[*,Addr.add_lit]
  ·by_cases K:d.length=i.toNat
   ·left;omega
   ·right;rw[A6 K]
theorem V0{x y:Operand}{t e:TypeId}{g c k o n:Nat}{F:IntKind}{i:Int}[ht:TySl P t e g c](D:opv fr x=some (.s (.one (.msl k g o n))))
  (E:opv fr y=some (H6 (.int F i)))(v:0<=i)(z:i<n):Neu P ⟨dst,.indexAddr t x y,ty,pos,af,gd⟩ fr ob (fun I=>I=.s (.one (.mref k g (o+i.toNat) 0))) :=
 E1 fun S G a w h=>by
  obtain⟨b,m,j,u,H,B,J,C,_,_,q⟩:=G9 h D;have q:H=o*g:=q.resolve_left (by omega);subst q;refine⟨.pointer (some ⟨b,(o+i.toNat)*g,none⟩),?_,b,m,j,B,rfl⟩;simp only[execOp,C,E9 h E];refine K2 ?_;have hb:0<=i/\i<(n:Int):=⟨v,z⟩
  simp[Instr.indexAt,run_underlying ht.out.1,asIntOf,hb,I7 ht.size,Addr.add_lit,B73]
def M5{κ:Type}[DecidableEq κ]:List (κ×Cell)->κ->Option Cell
 | [],_=>none
 | (k,c)::r,a=>if k=a then some c else M5 r a
class TyMap (P:Program) (t:TypeId) (kt:outParam TypeId) (kd:outParam TypeDesc) (z:outParam Value):Prop where
 out:∃et,P.underlying t=some (.map kt et)/\P.underlying kt=some kd/\(P.info? et).bind (·.zero)=some z/\z.oneCell'=true
theorem vV(k:Nat)(κ:Type)(i:κ->Value){t:TypeId}(g:(H7 k fr&&J2 k ob)=true) :
  EffV P ⟨dst,.makeMap t none,ty,pos,af,gd⟩ fr ob (.s (.one (.mut k))) fr ((k,.map κ i [])::ob):=by
 simp only[B24]at g;obtain⟨j,q⟩:=g;obtain⟨r,x,z⟩:=F7 q;intro S G a w h;refine H4 (w':=w.alloc (.map #[] 0)) (v:=.map (some w.heap.size)) ?_ ?_
 ·simp only[execOp,Option.map_none];exact K2 rfl
 ·have d:Below w.heap.size w (w.alloc (.map #[] 0)):=(Below.refl _ _).alloc (B29 _) _;have A:∀b,blk (.map (some w.heap.size))=some b->w.heap.size<=b:=by intro b hb;simp[blk]at hb;omega
  have f:=h.new (o:=.map κ i []) z x d A ⟨w.heap.size,#[],0,rfl,heap_alloc_new w _,trivial⟩;rw[V4 j,r]at f;exact⟨upd G k (.map (some w.heap.size)),f,(H3 _ _ _).symm,rfl⟩
theorem vW{κ:Type}[DecidableEq κ]{q:κ->Value}{w:TypeDesc}(d:∀a,MapKept.IsKey w (q a))(o:∀a b,q a=q b->a=b){B:Rd}(a:κ):∀(f:List (κ×Cell)) (t:List MapEntry) (i:Nat),
  All2 (fun (A:κ×Cell) (e:MapEntry)=>e.key=q A.1/\A.2.rep B e.val) f t ->
  (M5 f a=none/\Instr.findNow w (q a) t i=some none)\/∃c j v,M5 f a=some c/\Instr.findNow w (q a) t i=some (some (j,v))/\c.rep B v
 | [],[],_,_=>.inl ⟨rfl,rfl⟩
 | [],_::_,_,h=>h.elim
 | _::_,[],_,h=>h.elim
 | (k,c)::f,e::t,i,h=>by
  obtain⟨⟨C,D⟩,E⟩:=h;obtain⟨r,F,g⟩:=MapKept.sameNow_of_keys (d a) (d k);have p:Instr.sameNow w (q a) e.key=some r:=by rw[C];exact F
  by_cases u:k=a
  ·subst u;have:r=true:=g.2 rfl;subst this;exact .inr ⟨c,i,e.val,by simp[M5],by simp[Instr.findNow,p],D⟩
  ·have:r=false:=by
    cases r
    ·rfl
    ·exact absurd (o _ _ (g.1 rfl)).symm u
   subst this;rcases vW d o a f t (i+1) E with ⟨x,z⟩ | ⟨c',j,v,x,z,h6⟩
   ·exact .inl ⟨by simp[M5,u,x],by simp[Instr.findNow,p,z]⟩
   ·exact .inr ⟨c',j,v,by simp[M5,u,x],by simp[Instr.findNow,p,z],h6⟩
theorem nL{x y:Operand}{t O:TypeId}{H:TypeDesc}{z:Value}{k:Nat}{κ:Type}[DecidableEq κ]{i:κ->Value}{f:List (κ×Cell)}(a0:κ){r:Option Cell}[ht:TyMap P t O H z](N:opv fr x=some (.s (.one (.mut k))))(L:B0 ob k=some (.map κ i f))
  (F:opv fr y=some (H6 (i a0)))(d:∀a,MapKept.IsKey H (i a))(g:∀a b,i a=i b->a=b)(M:M5 f a0=r) :
  Neu P ⟨dst,.lookup t x y true,ty,pos,af,gd⟩ fr ob (fun Q=>Q=.tup [.one (.p (r.getD (.v z))),.one (.p (.v (.bool r.isSome)))]) :=
 E1 fun S G a w h=>by
  obtain⟨U,I,q,R,T⟩:=ht.out;obtain⟨D,_⟩:=G9 h N;obtain⟨b,J,A,K,E,ha⟩:=h.obs k _ L;rw[K]at D;subst M;rcases vW d g a0 f J.toList 0 ha with ⟨B,C⟩ | ⟨c,j,v,B,C,h6⟩
  ·refine⟨.tuple #[z,.bool false],?_,[z,.bool false],rfl,?_⟩
   ·simp only[execOp,D,E9 h F];refine K2 ?_;simp only[Instr.lookup,Sem.run_bind,run_underlying I,Result.andThen_ok,MapKept.run_getObj_map E,Sem.run_pure,MapKept.run_checkKey q (d a0),MapKept.run_findKey q C,O4 R];rfl
   ·rw[B];exact⟨⟨rfl,T⟩,⟨rfl,rfl⟩,trivial⟩
  ·refine⟨.tuple #[v,.bool true],?_,[v,.bool true],rfl,?_⟩
   ·simp only[execOp,D,E9 h F];refine K2 ?_;simp only[Instr.lookup,Sem.run_bind,run_underlying I,Result.andThen_ok,MapKept.run_getObj_map E,Sem.run_pure,MapKept.run_checkKey q (d a0),MapKept.run_findKey q C];rfl
   ·rw[B];exact⟨h6,⟨rfl,rfl⟩,trivial⟩
theorem MS{x y v:Operand}{t kt:TypeId}{K:TypeDesc}{z:Value}{k:Nat}{κ:Type}[DecidableEq κ]{g:κ->Value}{l:List (κ×Cell)}(a0:κ){c:Cell}[ht:TyMap P t kt K z](Z:opv fr x=some (.s (.one (.mut k))))(L:B0 ob k=some (.map κ g l))
  (hy:opv fr y=some (H6 (g a0)))(Y:opv fr v=some (.s (.one (.p c))))(T:F9 v=true)(q:∀a,MapKept.IsKey K (g a))(B:∀a b,g a=g b->a=b)(X:M5 l a0=none) :
  Eff P ⟨none,.mapUpdate t x y v,ty,pos,af,gd⟩ fr ob fr ((k,.map κ g (l++[(a0,c)]))::ob):=by
 intro S G a w h;obtain⟨et,u1,N,u3,u4⟩:=ht.out;obtain⟨M,_⟩:=G9 h Z;obtain⟨b,D,f,F,H,ha⟩:=h.obs k _ L;rw[F]at M;have J:c.rep (D9 (Mut S ob G) w) (a.eval v):=U1 h Y T;obtain⟨E,R⟩:=MapKept.heap_set (o':=.map (D.push { key:=g a0,val:=a.eval v,born:=f }) (f+1)) H;have W:Instr.findNow K (g a0) D.toList 0=some none:=by
  rcases vW q B a0 l D.toList 0 ha with ⟨_,E⟩ | ⟨c,j,v,h4,_,_⟩
  ·exact E
  ·rw[X]at h4;cases h4
 have V:(execOp a.eval ⟨none,.mapUpdate t x y v,ty,pos,af,gd⟩).run P w=.ok .skip { w with heap:=w.heap.setIfInBounds b (.map (D.push { key:=g a0,val:=a.eval v,born:=f }) (f+1)) }:=by
  simp only[execOp,M,E9 h hy];simp only[Instr.mapUpdate,Sem.run_bind,run_underlying u1,Result.andThen_ok,MapKept.run_getObj_map H,MapKept.run_checkKey N (q a0),MapKept.run_findKey N W,MapKept.run_setObj_map _ H];rfl
 unfold Does;rw[V];have A:blk (G k)=some b:=by rw[F];rfl
 refine⟨G,h.write L A (fun i=>⟨A,trivial⟩) (fun i=>⟨A,trivial⟩) rfl rfl rfl (by simp) (fun j _ I=>R j I) ?_⟩;intro rd C;refine⟨b,_,_,F,E,?_⟩;rw[Array.toList_push];exact (ha.mono fun _ _ ⟨O,Q⟩=>⟨O,Cell.rep_mono C _ _ Q⟩).append ⟨⟨rfl,Cell.rep_mono C _ _ J⟩,trivial⟩
abbrev bI(s:List UInt8):Value:=.string ⟨s.toArray⟩
theorem dT(a:List UInt8):MapKept.IsKey .string (bI a):=trivial
theorem dU(a b:List UInt8)(h:bI a=bI b):a=b:=by
 simp only[bI,Value.string.injEq,ByteArray.mk.injEq]at h;simpa using congrArg Array.toList h
end
variable {dst:Option Tmp}{ty:TypeId}{pos:String}{af:Array Edge}{gd:Option (Nat×Bool)}{fr:Fr}{ob:Obs}
theorem SC{x W X:Operand}{t e:TypeId}{z A:Nat}{s:SV}{α:Type}{c:α->Nat->Cell}{B:List α}{N O:IntKind}{j m:Int}[ht:TySl P t e A z](hx:opv fr x=some s)(hl:IsList s α A c B)
  (K:opv fr W=some (H6 (.int N j)))(L:opv fr X=some (H6 (.int O m)))(R:0<=j)(h2:j<=B.length)(hm:m=j) :
  Neu P ⟨dst,.slice t x none (some W) (some X),ty,pos,af,gd⟩ fr ob (fun s'=>s'=.s (.one (.full α A c (B.take j.toNat)))) :=
 E1 fun S G a w h=>by
  subst hm;have J:=m6 h hx hl;obtain⟨v,q,V,U,_⟩:=X1 J;rw[V]at J;have I:=sX (lo:=0) (hi:=m.toNat) J (by omega) (by omega);rw[List.drop_zero,Nat.sub_zero]at I;have p:sliced v 0 m.toNat m.toNat A=.slice (if m.toNat=0 then v else v.map (·.add 0)) m.toNat m.toNat:=by simp[sliced]
  refine⟨sliced v 0 m.toNat m.toNat A,?_,?_,?_⟩
  ·simp only[execOp,V,E9 h K,E9 h L,Option.map_some,Option.map_none];refine K2 ?_;obtain⟨y,C⟩:=ht.elem;simp only[Instr.sliceAt,Sem.run_bind,run_underlying ht.out.1,Result.andThen_ok];rw[run_slice_any w t v B.length q y,C];have hb:(Instr.sliceBounds true B.length q none (some (.int N m)) (some (.int O m))).run P w=.ok (0,m.toNat,m.toNat) w:=by
    have e:(m.toNat:Int)=m:=by omega
    simp only[Instr.sliceBounds,Sem.run_bind,run_sliceBound,Sem.run_pure,Result.andThen_ok];rw[run_sliceBound w O m _ _ R (by omega)];simp only[Result.andThen_ok];rw[run_sliceBound w N m _ _ R (by omega)];simp
   rw[hb];simp only[Result.andThen_ok];rw[I7 ht.size];rfl
  ·-- the cells are those of the list's beginning
   simp only[Cell.rep]at I ⊢;obtain⟨Y,Q,F,⟨h3,D⟩,T,Z⟩:=I;have b:(B.take m.toNat).length=m.toNat:=by rw[B42];omega
   rw[b]at F;have H:sliced v 0 m.toNat q A=.slice (if q=0 then v else v.map (·.add (0*A))) m.toNat q:=by simp[sliced]
   rw[H]at F;injection F with y C he3
   by_cases M:m.toNat=0
   ·refine⟨if m.toNat=0 then v else v.map (·.add 0),m.toNat,by rw[b,p],⟨Nat.le_of_eq b,fun _=>M⟩,T,.inl (b.trans M)⟩
   ·have E:q≠0:=by omega
    rw[A6 E]at y;refine⟨Y,m.toNat,?_,⟨Nat.le_of_eq b,fun hn=>?_⟩,T,Z⟩
    ·rw[b,p,A6 M,<-y];simp
    ·have:=D hn;omega
  ·rw[p];refine⟨_,by rw[show (B.take m.toNat).length=m.toNat by rw[B42];omega]⟩
theorem ES(k:Nat){x y:Operand}{α:Type}{F E:Nat}{c:α->Nat->Cell}{xs ys:List α}{t e:TypeId}{s:SV}[ht:TySl P t e F E](hx:opv fr x=some (.s (.one (.full α F c xs))))
  (hy:opv fr y=some s)(hl:IsList s α F c ys)(am:xs.length+ys.length<=1073741824)(bn:0<ys.length)(hf:(H7 k fr&&J2 k ob)=true) :
  EffV P ⟨dst,.call ⟨.builtin .append,#[x,y],#[t,t]⟩,ty,pos,af,gd⟩ fr ob (.s (.one (.buf k α F c (xs++ys)))) fr ((k,.spare (xs++ys).length F e)::ob):=by
 simp only[B24]at hf;obtain⟨bc,bd⟩:=hf;obtain⟨h4,h5,hp⟩:=F7 bd;intro S G a w h;obtain⟨ah,H,ba,ax,I⟩:=ht.out;cases hi:P.info? e with
 | none=>simp[hi]at H
 | some i =>
 simp[hi]at H;obtain⟨U,A⟩:=H;cases hz:i.zero with
 | none=>simp[hi,hz]at I
 | some z =>
 simp[hi,hz]at I;obtain⟨bh,a0,au⟩:=G9 h hx;have bi:=m6 h hy hl;obtain⟨ad,bq,vx,Z,ay,br,q,bf,bk,aq⟩:=m7 bh;rw[au]at Z;injection Z with e1 e2 e3
 subst e1;obtain⟨bp,K,vy,bj,az,bs,D,bg,bl,ar⟩:=m7 bi;obtain⟨ac,oy,aj,Q⟩:=ar.resolve_left (by omega);have L:(xs.length+ys.length)*E<=140737488355328:=by
  have:(xs.length+ys.length)*E<=1073741824*4096:=Nat.mul_le_mul am ax;omega
 have ao:xs.length+ys.length<=maxLen:=by unfold maxLen;omega
 obtain⟨T,J⟩:∃T,T=grownCap w (xs.length+ys.length) xs.length e:=⟨_,rfl⟩
 have al:=grownCap_ge w (xs.length+ys.length) xs.length e;have ak:=grownCap_le_maxLen w (xs.length+ys.length) xs.length e ao;rw[<-J]at al ak;have X:(Builtin.append_ #[t,t] ty #[a.eval x,a.eval y]).run P w=.ok (.slice (some ⟨w.heap.size,0,none⟩) (xs.length+ys.length) T) (w.drew.alloc (.cells (vx.toArray++vy.toArray++Builtin.zeroCells z.cells (T-(xs.length+ys.length))) e)):=by
  rw[au,bj,aj];rcases aq with h0 | ⟨bx,ox,hax,hrx2⟩
  ·have bm:xs=[]:=B67 h0;subst bm;have av:vx=[]:=B67 (by rw[q];simp);subst av;cases a0 with
   | none =>
    have O:=run_append_nil (P:=P) w t ty e i z ah hi hz ⟨ac,oy,none⟩ ys.length K vy (by rw[U];exact D) (fun j v M=>by rw[Addr.add_lit];exact (Q j v M).1) bn (by omega) (by rw[A];simp at L;omega);simp only[List.length_nil,B70]at J ⊢;rw[J];simpa using O
   | some ab =>
    have O:=run_append_grow (P:=P) w t ty e i z ah hi hz ab 0 0 [] (by simp) (by simp) ⟨ac,oy,none⟩ ys.length K vy (by rw[U];exact D) (fun j v M=>by rw[Addr.add_lit];exact (Q j v M).1) (by omega) (by omega) (growslice_fits (by omega) (by rw[A];simpa using L));simp only[List.length_nil]at J ⊢;rw[J];simpa using O
  ·rw[hax];have O:=run_append_grow (P:=P) w t ty e i z ah hi hz ⟨bx,ox,none⟩ xs.length xs.length vx (by rw[U];exact q) (fun j v M=>by rw[Addr.add_lit];exact (hrx2 j v M).1) ⟨ac,oy,none⟩ ys.length K vy (by rw[U];exact D) (fun j v M=>by rw[Addr.add_lit];exact (Q j v M).1) (by omega) (by omega) (growslice_fits (by omega) (by rw[A];exact L));rw[J];exact O
 obtain⟨cells,C⟩:∃cells,cells=vx.toArray++vy.toArray++Builtin.zeroCells z.cells (T-(xs.length+ys.length)):=⟨_,rfl⟩
 rw[<-C]at X;have N:(vx++vy).length=(xs.length+ys.length)*F:=by rw[B25,q,D,B73]
 have W:(w.drew.alloc (.cells cells e)).ownsRow S.B e F (.slice (some ⟨w.heap.size,0,none⟩) (xs.length+ys.length) T) (xs++ys).length (vx++vy):=by
  rw[B25];refine⟨N,.inr ⟨w.heap.size,T,cells,rfl,h.size,heap_alloc_new w.drew _,al,ak,?_,?_⟩⟩
  ·rw[C];simp only[Array.size_append,List.size_toArray,size_zeroCells,I,q,D,<-B73]
   congr 1
   omega
  ·rw[C];simp only[Array.toList_append,B51];rw[<-B51,<-N];exact List.take_left
 refine H4 (w':=w.drew.alloc (.cells cells e)) (v:=.slice (some ⟨w.heap.size,0,none⟩) (xs.length+ys.length) T) (by simp[execOp,resolve,invoke,builtin,X]) ?_;have aw:Below w.heap.size w (w.drew.alloc (.cells cells e)):=⟨rfl,rfl,rfl,by simp,fun k hk=>heap_alloc_old w.drew _ hk⟩
 have hu:∀b,blk (.slice (some ⟨w.heap.size,0,none⟩) (xs.length+ys.length) T)=some b->w.heap.size<=b:=by intro b hb;simp[blk]at hb;omega
 have Y:=h.new hp h5 (o:=.spare (xs++ys).length F e) aw hu ⟨vx++vy,W⟩;rw[V4 bc,h4]at Y;refine⟨_,Y,(H3 _ _ _).symm,?_⟩;refine bB (c:=c) (xs:=xs++ys) W ba (by rw[B25];omega) ?_ ?_
 ·intro g hg j zz M ae;simp[blk]at hg;subst hg;refine⟨ae,fun hm=>?_⟩;rcases hm with hm | ⟨k',o',hk',hb1,hb2⟩
  ·have:=h.m0 _ j hm;have:=h.size;omega
  ·by_cases ag:k=k'
   ·subst ag;rw[B4]at hk';cases hk';simp only at hb2;omega
   ·rw[A7 ag]at hk';rw[cF G _ (Ne.symm ag)]at hb1;have:=(h.obs k' o' hk').blk_lt _ hb1;omega
 ·have ap:∀b i z,D9 (Mut S ob G) w b i z->D9 (Mut S ((k,.spare (xs++ys).length F e)::ob) (upd G k (.slice (some ⟨w.heap.size,0,none⟩) (xs.length+ys.length) T))) (w.drew.alloc (.cells cells e)) b i z:=by
   intro b i z hr;have:=h.rd_new (k:=k) (o:=.spare (xs++ys).length F e) aw hu hr
   rwa[h4]at this
  intro m hm j M;by_cases an:m<xs.length
  ·obtain⟨zz,V,ai⟩:=bk m an j M;refine⟨zz,?_,?_⟩
   ·rw[B59 (B28.1 V).1];exact V
   ·rw[B95 an];exact Cell.rep_mono ap _ _ ai
  ·have be:m-xs.length<ys.length:=by simp at hm;omega
   obtain⟨zz,V,ai⟩:=bl (m-xs.length) be j M;refine⟨zz,?_,?_⟩
   ·have bo:xs.length*F<=m*F:=B56 _ (by omega);rw[B61 (by rw[q];omega),q];have:m*F+j-xs.length*F=(m-xs.length)*F+j:=by rw[Nat.sub_mul];omega
    rw[this];exact V
   ·rw[B96 (by omega)];exact Cell.rep_mono ap _ _ ai
theorem GC{x:Operand}{t yt e:TypeId}{B d:Nat}{s:SV}{α:Type}{c:α->Nat->Cell}{j:List α}[ht:TySl P t e B d](H:opv fr x=some s)(F:IsList s α B c j) :
  Neu P ⟨dst,.binOp .eql t x (.const (.slice none 0 0)) yt,ty,pos,af,gd⟩ fr ob (fun I=>∃b,I=S6 b/\(b=true->j=[])):=by
 intro S G a w h;have y:=m6 h H F;obtain⟨g,f,E,C,_⟩:=X1 y;refine H4 (v:=.bool g.isNone) (w':=w) ?_ ⟨Below.refl _ _,S6 g.isNone,⟨_,rfl,fun hb=>?_⟩,rfl,rfl⟩
 ·have A:a.eval (.const (.slice none 0 0))=.slice none 0 0:=rfl;simp only[execOp,E,A];refine K2 ?_;simp only[Sem.run_bind];rw[show (eqGuard .eql t x (.const (.slice none 0 0)) (.slice g j.length f) (.slice none 0 0)).run P w=.ok () w from rfl];simp only[Result.andThen_ok];show (binOp .eql t (.slice g j.length f) (.slice none 0 0)).run P w=_;simp only[binOp,Sem.run_bind,run_equal_slice_nil w t e g j.length f ht.out.1,Result.andThen_ok];rfl
 ·cases g with
  | none =>
   simp only[Cell.rep]at y;obtain⟨J,z,D,⟨K,m⟩,L,M⟩:=y;rw[E]at D;injection D with e1 A e3
   subst e1;subst e3;have:=m rfl;exact B67 (by omega)
  | some _=>simp at hb
abbrev Mo:=List (List Nat×Obs)
def V7:Mo->List Nat->Option Obs
 | [],_=>none
 | (D',ob)::r,D=>cond (dQ D' D) (some ob) (V7 r D)
abbrev Sv:=List (Nat×SV)
def Q8:Sv->Nat->Option SV
 | [],_=>none
 | (i,s)::r,j=>cond (Nat.beq i j) (some s) (Q8 r j)
abbrev Ed:=List (Nat×(List Nat×List Nat))
def u0:Ed->Nat->List Nat×List Nat
 | [],_=>([],[])
 | (i,x)::r,e=>cond (Nat.beq i e) x (u0 r e)
def u5(ks:List Nat)(fr:Fr):Fr:=fr.filter fun p=>!(E8 ks p.1)
theorem SD{ks:List Nat}:∀{fr:Fr} {t:Nat} {s:SV},C7 (u5 ks fr) t=some s↔t∉ks/\C7 fr t=some s
 | [],t,s=>by simp[u5,C7]
 | (i,x)::r,t,s=>by
  have c:=SD (ks:=ks) (fr:=r) (t:=t) (s:=s);unfold u5 at c ⊢;cases b:E8 ks i
  ·rw[List.filter_cons_of_pos (by simp[b])];by_cases a:i=t
   ·subst a;rw[C2,C2];have:i∉ks:=fun q=>by rw[t8.2 q]at b;cases b
    simp[this]
   ·rw[B5 a,B5 a];exact c
  ·rw[List.filter_cons_of_neg (by simp[b])];rw[c];by_cases a:i=t
   ·subst a;have:i∈ks:=t8.1 b;simp[this]
   ·rw[B5 a]
def AP(U a:Fr):Prop:=∀t s,C7 U t=some s->C7 a t=some s
def AQ(P:Program)(nt:Nat)(o:Oper)(U:Fr)(e b:List Nat)(ob ob':Obs)(s:SV):Prop :=
 ∀c,AP U c->(∀k∈e,∀t x,C7 c t=some x->t∉b->x.free k=true)->∀S G a w,S.nt=nt->Sim P S c ob G a w ->
  Does P o a w (fun v w'=>∃G',Sim P S (u5 b c) ob' G' a w'/\∀d,o.dst=some d->s.rep (D9 (Mut S ob' G') w') G' v)
def mR(l:List Oper):Sv->Fr->Fr
 | [],fr=>fr
 | (i,s)::r,fr=>match (l[i]?).bind (·.dst) with
  | some d=>(d,s)::mR l r fr
  | none=>mR l r fr
def dV(l:List Oper)(c:Sv)(o:Oper):Bool :=
 (X7 o.op).all fun u=>(List.range l.length).all fun j=>match (l[j]?).bind (·.dst) with
  | some d=>!(Nat.beq d u)||(Q8 c j).isSome
  | none=>true
def UIn2(l:List Oper)(a:Sv)(fr:Fr)(o:Oper)(U:Fr):Prop :=
 ∀t s,C7 U t=some s->t∈X7 o.op/\((∃j b,l[j]?=some b/\b.dst=some t/\Q8 a j=some s)\/(t∉r9 l/\C7 fr t=some s))
def MT(a ob:Obs):Prop:=∀k o,B0 a k=some o->B0 ob k=some o
theorem AR{l:List Oper}{fr:Fr}:∀{m:Sv} {t:Nat} {s:SV},C7 (mR l m fr) t=some s->(∃j o,Q8 m j=some s/\l[j]?=some o/\o.dst=some t)\/(C7 fr t=some s/\∀j o,Q8 m j≠none->l[j]?=some o->o.dst≠some t)
 | [],t,s,h=>.inr ⟨h,fun j o p=>absurd rfl p⟩
 | (i,x)::r,t,s,h=>by
  unfold mR at h;have f:(∀d,(l[i]?).bind (·.dst)=some d->d≠t)->C7 (mR l r fr) t=some s->(∃j o,Q8 ((i,x)::r) j=some s/\l[j]?=some o/\o.dst=some t)\/(C7 fr t=some s/\∀j o,Q8 ((i,x)::r) j≠none->l[j]?=some o->o.dst≠some t):=by
   intro a h;rcases AR h with ⟨j,o,w,v,y⟩ | ⟨w,v⟩
   ·left;refine⟨j,o,?_,v,y⟩;have g:i≠j:=fun e=>by
     subst e;rw[v]at a;exact a t (by simpa using y) rfl
    show cond (Nat.beq i j) _ _=_;rw[P3 g];exact w
   ·right;refine⟨w,fun j o p q u=>?_⟩;by_cases g:i=j
    ·subst g;rw[q]at a;exact a t (by simpa using u) rfl
    ·have p:cond (Nat.beq i j) (some x) (Q8 r j)≠none:=p;rw[P3 g]at p;exact v j o p q u
  split at h
  ·rename_i d a;by_cases k:d=t
   ·subst k;rw[C2]at h;cases h;cases q:l[i]? with
    | none=>rw[q]at a;cases a
    | some o =>
     rw[q]at a;exact .inl ⟨i,o,by show cond (Nat.beq i i) _ _=_;rw[Nat.beq_refl];rfl,q,by simpa using a⟩
   ·rw[B5 k]at h;exact f (fun z c=>by rw[a]at c;cases c;exact k) h
  ·rename_i a;exact f (fun z c=>by rw[a]at c;cases c) h
theorem tJ:∀{l:List Oper} {t:Nat},t∈r9 l->∃(j:Nat) (o:Oper),l[j]?=some o/\o.dst=some t
 | [],t,h=>by simp[r9]at h
 | o::l,t,h=>by
  unfold r9 at h;cases c:o.dst with
  | none=>rw[c]at h;obtain⟨j,e,a,b⟩:=tJ h;exact⟨j+1,e,by simpa using a,b⟩
  | some d =>
   rw[c]at h;rcases B34.1 h with rfl | h
   ·exact⟨0,o,rfl,c⟩
   ·obtain⟨j,e,a,b⟩:=tJ h;exact⟨j+1,e,by simpa using a,b⟩
theorem zE{l:List Oper}{a:Sv}{fr:Fr}{o:Oper}(h:dV l a o=true):UIn2 l a fr o (Q9 (mR l a fr) (X7 o.op)):=by
 intro t s p;have c:=aJ p;refine⟨c,?_⟩;rcases AR (l9 p) with ⟨j,k,d,f,b⟩ | ⟨d,f⟩
 ·exact .inl ⟨j,k,f,b,d⟩
 ·refine .inr ⟨fun g=>?_,d⟩;obtain⟨j,k,b,m⟩:=tJ g;have:=B27.1 (B27.1 h t c) j (B44.2 (B28.1 b).1);rw[b]at this;simp only[Option.bind_some,m,Nat.beq_refl,Bool.not_true,B83]at this;exact f j k (fun e=>by rw[e]at this;cases this) b m
def Task(P:Program)(nt:Nat)(l:List Oper)(fr:Fr)(a:Sv)(E:List Nat)(b:Ed)(i:Nat)(ob:Obs)(s:SV)(T:Obs->Prop):Prop :=
 ∃o U,l[i]?=some o/\UIn2 l a fr o U/\((E8 E i=false/\Neu P o U ob (fun c=>c=s))\/(E8 E i=true/\∃ob',AQ P nt o U (u0 b i).1 (u0 b i).2 ob ob' s/\T ob'))
def conf2(nt:Nat)(l:List Oper)(E:List Nat)(Ms:List (List Nat))(c:Ed)(b:List (Nat×List Nat)):Bool :=
 let ops:=l.toArray;let n:=l.length
 (l.all fun o=>o.guard.isNone&&match o.dst with | some d=>Nat.blt d nt | none=>true) &&
 ((List.range n).all fun i=>match ops[i]? with
  | some o=>(E8 E i||o.dst.isSome)&&(((X7 o.op).all fun u=>((List.range n).all fun j=>match ops[j]? with
    | some f=>(match f.dst with | some d=>!(Nat.beq d u)||Bef ops i j | none=>true)
    | none=>true)&&E.all fun e=>Nat.beq e i||!(E8 (u0 c e).2 u)||Bef ops e i) &&
   ((o.after.toList.all fun e=>!(Region.binds .any e)||Nat.blt e.on i)&&(Ms.all fun D=>!(nG ops E i D)||b.any fun p=>Nat.beq p.1 i&&dQ p.2 D)))
  | none=>false) &&
 nH (r9 l)&&desc E&&(E.all fun e=>Nat.blt e n)&&memM Ms []&&(Ms.all fun D=>E.all fun e=>!(nG ops E e D)||memM Ms (dP e D))
structure InvK (l:List Oper) (E:List Nat) (svs:Sv) (ed:Ed) (fr:Fr) (listed:Array Bool) (frc:Fr):Prop where
 put:∀j o d s,l[j]?=some o->listed.getD j false=true->o.dst=some d->Q8 svs j=some s->(∀e∈E,listed.getD e false=true->d∉(u0 ed e).2)->C7 frc d=some s
 from':∀t s,C7 frc t=some s->(∃j o,l[j]?=some o/\listed.getD j false=true/\o.dst=some t/\Q8 svs j=some s)\/C7 fr t=some s
 old:∀t s,C7 fr t=some s->t∉r9 l->(∀e∈E,listed.getD e false=true->t∉(u0 ed e).2)->C7 frc t=some s
def qN(l:List Oper)(ops:Array Oper)(c:Sv)(fr:Fr):Ed->Bool
 | []=>true
 | (e,ks,kills)::r=>(ks.all fun k=>((List.range ops.size).all fun j=>Nat.beq j e||Bef ops j e||match (l[j]?).bind (·.dst),Q8 c j with
   | some d,some s=>E8 kills d||s.free k
   | _,_=>true)&&fr.all fun p=>E8 kills p.1||p.2.free k)&&qN l ops c fr r
theorem c_core{id:Nat}{l:List Oper}{fr:Fr}{bl:Obs}{Q:Post}(E:List Nat)(Ms:List (List Nat))(T:Ed)(ae:List (Nat×List Nat))(X:Sv)(M:Mo)(hm:P.follows .mixedOrders=true)
  (hB:conf2 nt l E Ms T ae=true)(co:∀e∈E,∃x,(e,x)∈T/\u0 T e=x)(bc:qN l l.toArray X fr T=true)(h0:V7 M []=some bl)
  (ht:∀p∈ae,∃ob s,V7 M p.2=some ob/\Q8 X p.1=some s/\Task P nt l fr X E T p.1 ob s (fun ob'=>∃au,V7 M (dP p.1 p.2)=some au/\MT au ob'))
  {fr':Fr}{bm:Obs}(bz:V7 M E=some bm)(bq:∀t s,C7 fr' t=some s->(∀e∈E,t∉(u0 T e).2)/\((∃j o',l[j]?=some o'/\o'.dst=some t/\Q8 X j=some s)\/(t∉r9 l/\C7 fr t=some s)))
  (hQ:Q .normal fr' bm):WpC P nt (.region id l.toArray true) fr bl Q:=by
 intro S G a w hn hs;unfold conf2 at hB;simp only[B24]at hB;obtain⟨⟨⟨⟨⟨⟨b1,b2⟩,b3⟩,b4⟩,b5⟩,b6⟩,b7⟩:=hB
 have bi:∀i o,l[i]?=some o->o.guard=none/\(∀d,o.dst=some d->d<nt)/\(E8 E i=true\/∃d,o.dst=some d)/\(∀u∈X7 o.op,∀j oj,l[j]?=some oj->oj.dst=some u->Bef l.toArray i j=true) /\
   (∀u∈X7 o.op,∀e∈E,e≠i->u∈(u0 T e).2->Bef l.toArray e i=true)/\(∀e∈o.after.toList,Region.binds .any e=true->e.on<i)/\(∀D∈Ms,nG l.toArray E i D=true->(i,D)∈ae):=by
  intro i o J;have bg:i<l.length:=(B28.1 J).1;have ac:o∈l:=B43 J;have q1:=B27.1 b1 o ac;have q2:=B27.1 b2 i (B44.2 bg);simp only[B45,J]at q2;simp only[B24]at q1 q2;obtain⟨q4,q5,q6,q7⟩:=q2;refine⟨by simpa using q1.1,?_,?_,?_,?_,?_,?_⟩
  ·intro d hd;have:=q1.2;rw[hd]at this;simpa using this
  ·rcases (B63 _ _).mp q4 with h | h
   ·exact .inl h
   ·exact .inr (Option.isSome_iff_exists.1 h)
  ·intro u hu j oj K hd;have bs:j<l.length:=(B28.1 K).1;have I:=B27.1 q5 u hu;simp only[B24]at I;have:=B27.1 I.1 j (B44.2 bs);simp only[K,hd]at this;simpa using this
  ·intro u hu e V ao hk;have I:=B27.1 q5 u hu;simp only[B24]at I;have:=B27.1 I.2 e V;rw[P3 ao,t8.2 hk]at this;simpa using this
  ·intro e V cl;have:=B27.1 q6 e V;rw[cl]at this;simpa using this
  ·intro D hD hp;have:=B27.1 q7 D hD;rw[hp]at this;simp only[Bool.not_true,B83]at this;obtain⟨p,cx,bj⟩:=List.any_eq_true.1 this;simp only[B24]at bj;have e1:=B49 bj.1;have e2:=fM bj.2;obtain⟨p1,p2⟩:=p;simp only at e1 e2;rw[<-e1,<-e2];exact cx
 have dh:∀(j t:Nat),(l.toArray[j]?).bind (fun o=>o.dst)=some t->t<nt:=by
  intro j t ht;cases J:l[j]? with
  | none=>simp[J]at ht
  | some o=>simp[J]at ht;exact (bi j o J).2.1 t ht
 refine wp_region_any hm ?_;have dd:Below w.heap.size w { w with drawn:=w.drawn+1 }:=⟨rfl,rfl,rfl,B29 _,fun _ _=>rfl⟩
 have key : ∀(R:Nat) (A:Array Bool) (H:Fr) (ob:Obs) (G:Gh) (a:Act) (w:World),A.size=l.length->unl A l.length=R->Closed l.toArray A->(E.filter fun j=>A.getD j false)∈Ms->V7 M (E.filter fun j=>A.getD j false)=some ob->InvK l E X T fr A H->Sim P S H ob G a w ->
   wpAny P .any l.toArray (PostOf P S Q) R A a w:=by
  intro R;induction R with
  | zero =>
   intro A H ob G a w ce hu hc hM ai hI am;have Y:∀j,j<l.length->A.getD j false=true:=by
    intro j K;unfold unl at hu;have:=(List.countP_eq_zero.1 hu) j (B44.2 K);simpa using this
   have ar:Region.ready .any l.toArray A=[]:=by
    cases hr:Region.ready .any l.toArray A with
    | nil=>rfl
    | cons i r =>
     exfalso;have hi:i∈Region.ready .any l.toArray A:=by rw[hr];exact B52 ..
     have B:=K4 hi;obtain⟨_,o,J,_⟩:=mem_ready.1 hi;rw[B45]at J;rw[Y i (B28.1 J).1]at B;cases B
   refine⟨ar,?_⟩;have ci:(E.filter fun j=>A.getD j false)=E:=by
    rw[List.filter_eq_self];intro e V;exact Y e (by simpa using B27.1 b5 e V)
   rw[ci,bz]at ai;cases ai;refine⟨fr',bm,G,hQ,.inl (am.weaken fun t s ht=>?_)⟩;obtain⟨hk,B⟩:=bq t s ht;rcases B with ⟨j,o,B,F,I⟩ | ⟨B,F⟩
   ·exact hI.put j o t s B (Y j (B28.1 B).1) F I (fun e V _=>hk e V)
   ·exact hI.old t s F B (fun e V _=>hk e V)
  | succ R ih =>
   intro A H ob G a w ce hu hc hM ai hI am;refine⟨fun h0=>?_,fun i hi=>?_⟩
   ·exfalso;have cp:∃j,j<l.length/\A.getD j false=false:=by
     refine B55 fun cw=>?_;have:unl A l.length=0:=by
      unfold unl;refine List.countP_eq_zero.2 fun j K=>?_;have K:=B44.1 K;cases hb:A.getD j false
      ·exact absurd ⟨j,K,hb⟩ cw
      ·simp
     omega
    have bu:∀n,(∃j,j<n/\j<l.length/\A.getD j false=false)->∃j,j<l.length/\A.getD j false=false/\∀p,p<j->A.getD p false=true:=by
     intro n;induction n with
     | zero=>rintro⟨j,K,_⟩;omega
     | succ n df =>
      rintro⟨j,K,be,ap⟩;by_cases ay:∃j',j'<n/\j'<l.length/\A.getD j' false=false
      ·exact df ay
      ·refine⟨j,be,ap,fun p hp=>?_⟩;cases hb:A.getD p false
       ·exact absurd ⟨p,by omega,by omega,hb⟩ ay
       ·rfl
    obtain⟨j,cq,cr⟩:=cp;obtain⟨j,be,ap,ct⟩:=bu (j+1) ⟨j,by omega,cq,cr⟩;have J:l[j]?=some l[j]:=B23 be;have bt:j∈Region.ready .any l.toArray A:=by
     refine mem_ready.2 ⟨?_,l[j],by rw[B45];exact J,fun e V hb=>?_⟩
     ·have af:j<A.size:=by omega
      simp only[B35,Array.getElem?_eq_getElem af]at ap ⊢;simpa using ap
     ·have:=(bi j _ J).2.2.2.2.2.1 e (Array.mem_toList_iff.2 V) hb;exact ct _ this
    rw[h0]at bt;cases bt
   ·have ah:=K4 hi;obtain⟨_,o,J,Y⟩:=mem_ready.1 hi;rw[B45]at J;have bg:i<l.length:=(B28.1 J).1;obtain⟨g1,g2,g4,g5,g6,g7,g8⟩:=bi i o J;obtain⟨D,hD⟩:∃D,D=E.filter fun j=>A.getD j false:=⟨_,rfl⟩
    rw[<-hD]at hM ai;have ba:∀e,e∈D↔e∈E/\A.getD e false=true:=fun e=>by rw[hD,List.mem_filter]
    have bn:∀j,Bef l.toArray i j=true->A.getD j false=true:=fun j K=>T7 hc i K (fun o' aq e V hb=>by
     rw[B45,J]at aq;cases aq
     exact Y e (Array.mem_toList_iff.1 V) hb)
    have bf:∀j,A.getD j false=true->Bef l.toArray j i=true->False:=fun j K hb=>by
     have:A.getD i false=true:=T7 hc j hb (fun o' aq e V ck=>hc j o' aq K e V ck);rw[ah]at this;cases this
    have ca:nG l.toArray E i D=true:=by
     unfold nG;simp only[B24,B60,B27,B63];refine⟨?_,fun j K=>?_,fun j K=>?_⟩
     ·cases hb:E8 D i
      ·rfl
      ·have:=((ba i).1 (t8.1 hb)).2;rw[ah]at this;cases this
     ·cases hb:Bef l.toArray i j
      ·exact .inl rfl
      ·exact .inr (t8.2 ((ba j).2 ⟨K,bn j hb⟩))
     ·cases hb:Bef l.toArray j i
      ·rfl
      ·exact (bf j ((ba j).1 K).2 hb).elim
    obtain⟨dk,s,az,cd,o1,U,bx,hU,bk⟩:=ht (i,D) (g8 D hM ca);rw[ai]at az;cases az;rw[J]at bx;cases bx;have aw:AP U H:=by
     intro t x hx;obtain⟨cg,B⟩:=hU t x hx;have al:∀e∈E,A.getD e false=true->t∉(u0 T e).2:=fun e V ak hk=>by
      by_cases ao:e=i
      ·rw[ao,ah]at ak;cases ak
      ·exact bf e ak (g6 t cg e V ao hk)
     rcases B with ⟨j,oj,B,F,I⟩ | ⟨B,F⟩
     ·exact hI.put j oj t x B (bn j (g5 t cg j oj B F)) F I al
     ·exact hI.old t x F B al
    have av:=L3 hc hi;have af:(A.setIfInBounds i true).size=l.length:=by simpa using ce
    have cf:unl (A.setIfInBounds i true) l.length=R:=by
     have:=JI (by omega) ah bg;omega
    have N:∀j,(A.setIfInBounds i true).getD j false=true↔j=i\/A.getD j false=true:=by
     intro j;by_cases K:j=i
     ·subst K;simp only[true_or,iff_true];simp[show j<A.size by omega]
     ·rw[aL (Ne.symm K)];simp[K]
    have ax:∀C,(i∈E->C=(u0 T i).2)->(i∉E->C=[])->InvK l E X T fr (A.setIfInBounds i true) (match o.dst with | some d=>(d,s)::u5 C H | none=>u5 C H):=by
     intro C cu cv;have hk:∀t,(∀e∈E,(A.setIfInBounds i true).getD e false=true->t∉(u0 T e).2)->t∉C:=by
      intro t h;by_cases ab:i∈E
      ·rw[cu ab];exact h i ab ((N i).2 (.inl rfl))
      ·rw[cv ab];simp
     have W:∀t,(∀e∈E,(A.setIfInBounds i true).getD e false=true->t∉(u0 T e).2)->∀e∈E,A.getD e false=true->t∉(u0 T e).2:=fun t h e V ak=>h e V ((N e).2 (.inr ak));cases Z:o.dst with
     | none =>
      refine⟨fun j oj d x B F I h6 h7=>?_,fun t x B=>?_,fun t x B F I=>?_⟩
      ·rcases (N j).1 F with rfl | F
       ·rw[J]at B;cases B;rw[Z]at I;cases I
       ·exact SD.2 ⟨hk d h7,hI.put j oj d x B F I h6 (W d h7)⟩
      ·rcases hI.from' t x (SD.1 B).2 with ⟨j,oj,F,I,h6⟩ | F
       ·exact .inl ⟨j,oj,F,(N j).2 (.inr I),h6⟩
       ·exact .inr F
      ·exact SD.2 ⟨hk t I,hI.old t x B F (W t I)⟩
     | some d0 =>
      refine⟨fun j oj d x B F I h6 h7=>?_,fun t x B=>?_,fun t x B F I=>?_⟩
      ·show C7 ((d0,s)::u5 C H) d=some x;by_cases bd:j=i
       ·subst bd;rw[J]at B;cases B;rw[Z]at I;cases I;rw[C2];rw[cd]at h6;exact h6
       ·have F:=((N j).1 F).resolve_left bd;have ag:d0≠d:=fun q=>by
         subst q;exact bd (rR b3 B J I Z)
        rw[B5 ag];exact SD.2 ⟨hk d h7,hI.put j oj d x B F I h6 (W d h7)⟩
      ·have B:C7 ((d0,s)::u5 C H) t=some x:=B;by_cases ag:d0=t
       ·subst ag;rw[C2]at B;cases B;exact .inl ⟨i,o,J,(N i).2 (.inl rfl),Z,cd⟩
       ·rw[B5 ag]at B;rcases hI.from' t x (SD.1 B).2 with ⟨j,oj,F,I,h6⟩ | F
        ·exact .inl ⟨j,oj,F,(N j).2 (.inr I),h6⟩
        ·exact .inr F
      ·show C7 ((d0,s)::u5 C H) t=some x;have ag:d0≠t:=fun q=>F (by rw[<-q];exact jS J Z);rw[B5 ag];exact SD.2 ⟨hk t I,hI.old t x B F (W t I)⟩
    unfold wpOp;simp only[B45,J];rw[A5 (by simp[Region.wanted,g1])];rcases bk with ⟨an,bw⟩ | ⟨an,ob',heff,au,hobT,hle⟩
    ·have bv:i∉E:=fun q=>by rw[t8.2 q]at an;cases an
     refine .inl (J4 (bw S G a w (am.weaken fun t x hx=>aw t x hx)) ?_);rintro v w' ⟨ch,s',rfl,hv⟩;have aj:(E.filter fun j=>(A.setIfInBounds i true).getD j false)=D:=by
      rw[hD];apply List.filter_congr;intro j K;have:j≠i:=fun q=>bv (q ▸ K);exact aL (Ne.symm this)
     obtain⟨d0,bo⟩:=g4.resolve_left (by rw[an];simp);have ad:=ax [] (fun q=>absurd q bv) (fun _=>rfl);rw[bo]at ad ⊢;have ad:InvK l E X T fr (A.setIfInBounds i true) ((d0,s')::u5 [] H):=ad;have cn:u5 [] H=H:=by unfold u5;exact List.filter_eq_self.2 fun p _=>rfl
     rw[cn]at ad;exact ih (A.setIfInBounds i true) ((d0,s')::H) ob G _ w' af cf av (by rw[aj];exact hM) (by rw[aj];exact ai) ad ((am.ext ch).put (by rw[hn];exact g2 d0 bo) hv)
    ·have ab:i∈E:=t8.1 an;have aj:(E.filter fun j=>(A.setIfInBounds i true).getD j false)=dP i D:=by
      rw[hD];exact rQ (by omega) ah b4 ab
     have cj:dP i D∈Ms:=by
      have:=B27.1 (B27.1 b7 D hM) i ab;rw[ca]at this;exact tG (by simpa using this)
     have br:∀k∈(u0 T i).1,∀t x,C7 H t=some x->t∉(u0 T i).2->x.free k=true:=by
      obtain⟨x0,db,dc⟩:=co i ab;rw[dc]
      have hf:∀(xs:Ed),qN l l.toArray X fr xs=true->(i,x0)∈xs->∀k∈x0.1,((List.range l.toArray.size).all fun j=>Nat.beq j i||Bef l.toArray j i||match (l[j]?).bind (·.dst),Q8 X j with
        | some d,some s=>E8 x0.2 d||s.free k
        | _,_=>true)=true/\(fr.all fun p=>E8 x0.2 p.1||p.2.free k)=true:=by
       intro xs;induction xs with
       | nil=>intro _ h;simp at h
       | cons y r dg =>
        obtain⟨e',dj,di⟩:=y;intro bh ac;simp only[qN,B24]at bh;rcases B34.1 ac with q | q
        ·cases q;intro k hk;have:=B27.1 bh.1 k hk;simpa only[B24] using this
        ·exact dg bh.2 q
      intro k hk t x hx al;obtain⟨f1,f2⟩:=hf T bc db k hk;rcases hI.from' t x hx with ⟨j,oj,F,I,h6,h7⟩ | F
      ·have:=B27.1 f1 j (B44.2 (by simpa using (B28.1 F).1));have cs:j≠i:=fun q=>by rw[q,ah]at I;cases I
       have cm:Bef l.toArray j i=false:=by
        cases hb:Bef l.toArray j i
        ·rfl
        ·exact (bf j I hb).elim
       rw[P3 cs,cm,F]at this;simp only[Option.bind_some,h6,h7,B83,B63]at this;rcases this with q | q
       ·exact absurd (t8.1 q) al
       ·exact q
      ·have ac:(t,x)∈fr:=by
        have:∀(fr:Fr),C7 fr t=some x->(t,x)∈fr:=by
         intro fr;induction fr with
         | nil=>intro h;simp[C7]at h
         | cons y r de =>
          obtain⟨q,z⟩:=y;intro h;by_cases hq:q=t
          ·subst hq;rw[C2]at h;cases h;exact B52 ..
          ·rw[B5 hq]at h;exact B46 _ (de h)
        exact this fr F
       have:=B27.1 f2 (t,x) ac;simp only[B63]at this;rcases this with q | q
       ·exact absurd (t8.1 q) al
       ·exact q
     refine .inl (J4 (heff H aw br S G a w hn am) ?_);rintro v w' ⟨G',cc,hv⟩;have ad:=ax (u0 T i).2 (fun _=>rfl) (fun q=>absurd ab q);have cy:=cc.weakenO hle;refine ih (A.setIfInBounds i true) _ au G' _ w' af cf av (by rw[aj];exact cj) (by rw[aj];exact hobT) ad ?_;cases Z:o.dst with
     | none=>exact cy
     | some d0 =>
      have da:=hv d0 Z;have cb:=cc.put (d:=d0) (by rw[hn];exact g2 d0 Z) da;exact cb.weakenO hle
 have L:∀j,(Array.replicate l.length false).getD j false=false:=by
  intro j;simp only[B35];rcases Nat.lt_or_ge j l.length with h' | h'
  ·simp[h']
  ·simp[h']
 have bp:(E.filter fun j=>(Array.replicate l.length false).getD j false)=[]:=by
  rw[List.filter_eq_nil_iff];intro e _;rw[L];simp
 have cz:unl (Array.replicate l.length false) l.length=l.length:=by
  unfold unl;have:(List.range l.length).countP (fun i=>!(Array.replicate l.length false).getD i false)=(List.range l.length).length:=by
   rw[List.countP_eq_length];intro i _;rw[L];rfl
  rw[this,B93]
 have:=key l.length (Array.replicate l.length false) fr bl G a _ (by simp) cz (fun j o J hl=>by rw[L]at hl;cases hl) (by rw[bp];exact tG b6) (by rw[bp];exact h0) ⟨fun j o d s _ F _=>(by rw[L]at F;cases F),fun t s B=>.inr B,fun t s B _ _=>B⟩ (hs.ext dd);simpa using this
def mJ(P:Program)(nt:Nat)(l:List Oper)(fr:Fr)(E:List Nat)(a:Ed)(K:Sv->Mo->Prop):List (Nat×List Nat)->Sv->Mo->Prop
 | [],svs,M=>K svs M
 | (i,D)::ts,svs,M=>∃o ob s,l[i]?=some o/\V7 M D=some ob/\dV l svs o=true/\(Q8 svs i=none\/Q8 svs i=some s) /\
   ((E8 E i=false/\Neu P o (Q9 (mR l svs fr) (X7 o.op)) ob (fun b=>b=s)/\mJ P nt l fr E a K ts ((i,s)::svs) M) \/
    (E8 E i=true/\∃ob',AQ P nt o (Q9 (mR l svs fr) (X7 o.op)) (u0 a i).1 (u0 a i).2 ob ob' s/\V7 M (dP i D)=none/\mJ P nt l fr E a K ts ((i,s)::svs) ((dP i D,ob')::M)))
def iQ(P:Program)(nt:Nat)(l:List Oper)(fr:Fr)(E:List Nat)(c:Ed)(a:Sv)(M:Mo):List (Nat×List Nat)->Prop
 | []=>True
 | (i,D)::ts=>(∃o ob s,l[i]?=some o/\V7 M D=some ob/\dV l a o=true/\Q8 a i=some s /\
   ((E8 E i=false/\Neu P o (Q9 (mR l a fr) (X7 o.op)) ob (fun d=>d=s)) \/
    (E8 E i=true/\∃ob' b,AQ P nt o (Q9 (mR l a fr) (X7 o.op)) (u0 c i).1 (u0 c i).2 ob ob' s/\V7 M (dP i D)=some b/\MT b ob')))/\iQ P nt l fr E c a M ts
def TaskOk(P:Program)(nt:Nat)(l:List Oper)(fr:Fr)(E:List Nat)(c:Ed)(b:Sv)(M:Mo)(p:Nat×List Nat):Prop :=
 ∃ob s,V7 M p.2=some ob/\Q8 b p.1=some s/\Task P nt l fr b E c p.1 ob s (fun ob'=>∃a,V7 M (dP p.1 p.2)=some a/\MT a ob')
theorem pH{a:Sv}{i:Nat}{s:SV}(h:Q8 a i=none\/Q8 a i=some s){j:Nat}{x:SV}(c:Q8 a j=some x):Q8 ((i,s)::a) j=some x:=by
 show cond (Nat.beq i j) _ _=_;by_cases b:i=j
 ·subst b;rw[Nat.beq_refl];rcases h with h | h
  ·rw[h]at c;cases c
  ·rw[h]at c;exact c
 ·rw[P3 b];exact c
theorem AT:∀(l:List Nat),dQ l l=true
 | []=>rfl
 | a::l=>by simp[dQ,Nat.beq_refl,AT l]
theorem GD{M:Mo}{D0:List Nat}{c:Obs}(h:V7 M D0=none){D:List Nat}{ob:Obs}(a:V7 M D=some ob):V7 ((D0,c)::M) D=some ob:=by
 show cond (dQ D0 D) _ _=_;cases b:dQ D0 D
 ·exact a
 ·rw[fM b]at h;rw[h]at a;cases a
theorem UIn2.mono{l:List Oper}{b a:Sv}{fr:Fr}{o:Oper}{U:Fr}(h:UIn2 l b fr o U)(k:∀j x,Q8 b j=some x->Q8 a j=some x):UIn2 l a fr o U:=fun t s m=>by
 obtain⟨d,c⟩:=h t s m;refine⟨d,?_⟩;rcases c with ⟨j,o',e,f,g⟩ | c
 ·exact .inl ⟨j,o',e,f,k j s g⟩
 ·exact .inr c
theorem AU{l:List Oper}{fr:Fr}{E:List Nat}{y:Ed}{K:Sv->Mo->Prop}:∀{w:List (Nat×List Nat)} {b:Sv} {M:Mo},mJ P nt l fr E y K w b M ->
  ∃a M',(∀j x,Q8 b j=some x->Q8 a j=some x)/\(∀D ob,V7 M D=some ob->V7 M' D=some ob)/\K a M'/\∀p∈w,TaskOk P nt l fr E y a M' p
 | [],b,M,h=>⟨b,M,fun _ _ h=>h,fun _ _ h=>h,h,fun p d=>by simp at d⟩
 | (i,D)::w,b,M,h=>by
  obtain⟨o,ob,s,z,A,B,g,C⟩:=h;have c:Q8 ((i,s)::b) i=some s:=by show cond (Nat.beq i i) _ _=_;rw[Nat.beq_refl];rfl
  rcases C with ⟨t,u,v⟩ | ⟨t,ob',u,h9,v⟩
  ·obtain⟨a,M',g1,f,k,q⟩:=AU v;refine⟨a,M',fun j x e=>g1 j x (pH g e),f,k,fun p d=>?_⟩;rcases B34.1 d with rfl | d
   ·exact⟨ob,s,f _ _ A,g1 _ _ c,o,_,z,(zE B).mono (fun j x e=>g1 j x (pH g e)),.inl ⟨t,u⟩⟩
   ·exact q p d
  ·obtain⟨a,M',g1,f,k,q⟩:=AU v;have G:V7 ((dP i D,ob')::M) (dP i D)=some ob':=by show cond (dQ _ _) _ _=_;rw[AT];rfl
   refine⟨a,M',fun j x e=>g1 j x (pH g e),fun D' H F=>f _ _ (GD h9 F),k,fun p d=>?_⟩;rcases B34.1 d with rfl | d
   ·exact⟨ob,s,f _ _ (GD h9 A),g1 _ _ c,o,_,z,(zE B).mono (fun j x e=>g1 j x (pH g e)),.inr ⟨t,ob',u,ob',f _ _ G,fun _ _ h=>h⟩⟩
   ·exact q p d
theorem GH{l:List Oper}{fr:Fr}{E:List Nat}{d:Ed}{a:Sv}{M:Mo}:∀{c:List (Nat×List Nat)},iQ P nt l fr E d a M c->∀p∈c,TaskOk P nt l fr E d a M p
 | [],_,p,hp=>by simp at hp
 | (i,D)::c,h,p,hp=>by
  obtain⟨⟨o,ob,s,e,f,g,j,k⟩,m⟩:=h;rcases B34.1 hp with rfl | hp
  ·rcases k with ⟨g1,b⟩ | ⟨g1,ob',obT,b,g3,g4⟩
   ·exact⟨ob,s,f,j,o,_,e,zE g,.inl ⟨g1,b⟩⟩
   ·exact⟨ob,s,f,j,o,_,e,zE g,.inr ⟨g1,ob',b,obT,g3,g4⟩⟩
  ·exact GH m p hp
def JJ(a:Ed):List Nat:=a.flatMap fun p=>p.2.2
def edOk(E:List Nat)(a:Ed):Bool:=E.all fun e=>a.any fun p=>Nat.beq p.1 e
theorem AV:∀{b:Ed} {e:Nat},(b.any fun p=>Nat.beq p.1 e)=true->(e,u0 b e)∈b
 | [],_,h=>by simp at h
 | (i,x)::r,e,h=>by
  by_cases a:i=e
  ·subst a;have:u0 ((i,x)::r) i=x:=by show cond (Nat.beq i i) _ _=_;rw[Nat.beq_refl];rfl
   rw[this];exact B52 ..
  ·have c:u0 ((i,x)::r) e=u0 r e:=by show cond (Nat.beq i e) _ _=_;rw[P3 a];rfl
   rw[c];simp only[List.any_cons,P3 a,B83]at h;exact B46 _ (AV h)
def Fin2(P:Program)(nt:Nat)(l:List Oper)(fr:Fr)(E:List Nat)(d:Ed)(T2:List (Nat×List Nat))(Q:Post)(b:Sv)(M:Mo):Prop :=
 (qN l l.toArray b fr d&&(List.range l.length).all fun j=>(Q8 b j).isSome)=true/\iQ P nt l fr E d b M T2/\∃c,V7 M E=some c/\Q .normal (u5 (JJ d) (mR l b fr)) c
theorem L8{id:Nat}{l:List Oper}{fr:Fr}{b:Obs}{Q:Post}(E:List Nat)(Ms:List (List Nat))(c:Ed)(T1 T2:List (Nat×List Nat))(I:P.follows .mixedOrders=true)
  (q:(conf2 nt l E Ms c (T1++T2)&&edOk E c)=true)(h:mJ P nt l fr E c (Fin2 P nt l fr E c T2 Q) T1 [] [([],b)]):WpC P nt (.region id l.toArray true) fr b Q:=by
 simp only[B24]at q;obtain⟨y,M,L,A,⟨v,B,K,C,D⟩,F⟩:=AU h;simp only[B24]at v;refine c_core E Ms c (T1++T2) y M I q.1 (fun e w=>⟨u0 c e,AV (B27.1 q.2 e w),rfl⟩) v.1 (A [] b rfl) (fun p f=>?_) C (fun t s J=>?_) D
 ·rcases B36.1 f with f | f
  ·exact F p f
  ·exact GH B p f
 ·obtain⟨H,G⟩:=SD.1 J;refine⟨fun e w a=>H ?_,?_⟩
  ·have:=AV (B27.1 q.2 e w);exact List.mem_flatMap.2 ⟨_,this,a⟩
  ·rcases AR G with ⟨j,o,g1,u,k⟩ | ⟨g1,u⟩
   ·exact .inl ⟨j,o,u,k,g1⟩
   ·refine .inr ⟨fun a=>?_,g1⟩;obtain⟨j,o,k,z⟩:=tJ a;have:=B27.1 v.2 j (B44.2 (B28.1 k).1);exact u j o (fun e=>by rw[e]at this;cases this) k z
theorem C8{l:List Oper}{fr:Fr}{E:List Nat}{b:Ed}{K:Sv->Mo->Prop}{i:Nat}{D:List Nat}{c:List (Nat×List Nat)}{a:Sv}{M:Mo}{o:Oper}{ob:Obs}{s:SV}(e:l[i]?=some o)(d:V7 M D=some ob)(g:dV l a o=true)
  (j:Q8 a i=none)(f:E8 E i=false)(h:Neu P o (Q9 (mR l a fr) (X7 o.op)) ob (fun m=>m=s))(k:mJ P nt l fr E b K c ((i,s)::a) M):mJ P nt l fr E b K ((i,D)::c) a M :=
 ⟨o,ob,s,e,d,g,.inl j,.inl ⟨f,h,k⟩⟩
theorem Y4{l:List Oper}{fr:Fr}{E:List Nat}{b:Ed}{K:Sv->Mo->Prop}{i:Nat}{D:List Nat}{c:List (Nat×List Nat)}{a:Sv}{M:Mo}{o:Oper}{ob ob':Obs}{s:SV}(f:l[i]?=some o)(d:V7 M D=some ob)(j:dV l a o=true)
  (m:Q8 a i=none)(g:E8 E i=true)(h:AQ P nt o (Q9 (mR l a fr) (X7 o.op)) (u0 b i).1 (u0 b i).2 ob ob' s)(e:V7 M (dP i D)=none)(k:mJ P nt l fr E b K c ((i,s)::a) ((dP i D,ob')::M)):mJ P nt l fr E b K ((i,D)::c) a M :=
 ⟨o,ob,s,f,d,j,.inl m,.inr ⟨g,ob',h,e,k⟩⟩
theorem w_again{l:List Oper}{fr:Fr}{E:List Nat}{b:Ed}{K:Sv->Mo->Prop}{i:Nat}{D:List Nat}{c:List (Nat×List Nat)}{a:Sv}{M:Mo}{o:Oper}{ob ob':Obs}{s:SV}(f:l[i]?=some o)(d:V7 M D=some ob)(j:dV l a o=true)
  (m:Q8 a i=some s)(g:E8 E i=true)(h:AQ P nt o (Q9 (mR l a fr) (X7 o.op)) (u0 b i).1 (u0 b i).2 ob ob' s)(e:V7 M (dP i D)=none)(k:mJ P nt l fr E b K c ((i,s)::a) ((dP i D,ob')::M)):mJ P nt l fr E b K ((i,D)::c) a M :=
 ⟨o,ob,s,f,d,j,.inr m,.inr ⟨g,ob',h,e,k⟩⟩
theorem xB{l:List Oper}{fr:Fr}{E:List Nat}{d:Ed}{T2:List (Nat×List Nat)}{Q:Post}{b:Sv}{M:Mo}{c:Obs}(f:(qN l l.toArray b fr d&&(List.range l.length).all fun j=>(Q8 b j).isSome)=true)(g:V7 M E=some c)
  (h:iQ P nt l fr E d b M T2)(k:Q .normal (u5 (JJ d) (mR l b fr)) c):mJ P nt l fr E d (Fin2 P nt l fr E d T2 Q) [] b M:=⟨f,h,c,g,k⟩
theorem J1{l:List Oper}{fr:Fr}{E:List Nat}{b:Ed}{i:Nat}{D:List Nat}{c:List (Nat×List Nat)}{a:Sv}{M:Mo}{o:Oper}{ob:Obs}{s:SV}(e:l[i]?=some o)(d:V7 M D=some ob)(g:dV l a o=true)
  (j:Q8 a i=some s)(f:E8 E i=false)(h:Neu P o (Q9 (mR l a fr) (X7 o.op)) ob (fun m=>m=s))(k:iQ P nt l fr E b a M c):iQ P nt l fr E b a M ((i,D)::c) :=
 ⟨⟨o,ob,s,e,d,g,j,.inl ⟨f,h⟩⟩,k⟩
theorem x_eff{l:List Oper}{fr:Fr}{E:List Nat}{c:Ed}{i:Nat}{D:List Nat}{e:List (Nat×List Nat)}{a:Sv}{M:Mo}{o:Oper}{ob ob' b:Obs}{s:SV}(j:l[i]?=some o)(f:V7 M D=some ob)(p:dV l a o=true)
  (q:Q8 a i=some s)(m:E8 E i=true)(h:AQ P nt o (Q9 (mR l a fr) (X7 o.op)) (u0 c i).1 (u0 c i).2 ob ob' s)(g:V7 M (dP i D)=some b)(d:MT b ob')(k:iQ P nt l fr E c a M e):iQ P nt l fr E c a M ((i,D)::e) :=
 ⟨⟨o,ob,s,j,f,p,q,.inr ⟨m,ob',b,h,g,d⟩⟩,k⟩
theorem jT{l:List Oper}{fr:Fr}{E:List Nat}{b:Ed}{a:Sv}{M:Mo}:iQ P nt l fr E b a M []:=trivial
def WG(ob:Obs):List Nat->Obs->Prop
 | _,[]=>True
 | seen,(k,o)::r=>(E8 seen k=true\/B0 ob k=some o)/\WG ob (k::seen) r
theorem AW{ob:Obs}:∀{c:Obs} {a:List Nat},WG ob a c->∀k o,k∉a->B0 c k=some o->B0 ob k=some o
 | [],_,_,k,o,_,hk=>by simp[B0]at hk
 | (k',o')::r,a,⟨b,h2⟩,k,o,hs,hk=>by
  by_cases d:k'=k
  ·subst d;rw[B4]at hk;cases hk;rcases b with b | b
   ·exact absurd (t8.1 b) hs
   ·exact b
  ·rw[A7 d]at hk
   exact AW h2 k o (fun q=>by
    rcases B34.1 q with q | q
    ·exact d q.symm
    ·exact hs q) hk
theorem A40{a ob:Obs}(h:WG ob [] a):MT a ob:=fun k o b=>AW h k o (by simp) b
theorem T4{U a:Fr}(d:AP U a){x:Operand}{s:SV}(h:opv U x=some s):opv a x=some s:=by
 cases x with
 | tmp t =>
  have h:Z3 U t=some s:=h;obtain⟨b,c⟩:=FR h;show Z3 a t=some s;unfold Z3;have:Nat.blt t 1000000=true:=by simpa using b
  rw[this];exact d t s c
 | _=>exact h
theorem argsU{U a:Fr}(d:AP U a):∀{e:List Operand} {ps:List S1},r7 U e=some ps->r7 a e=some ps
 | [],ps,h=>h
 | x :: r,ps,h=>by
  unfold r7 at h ⊢;cases c:opv U x with
  | none=>rw[c]at h;cases h
  | some sv =>
   rw[c]at h;cases sv with
   | s s0 =>
    simp only at h;cases b:r7 U r with
    | none=>rw[b]at h;cases h
    | some qs =>
     rw[b]at h;rw[T4 d c];simp only;rw[argsU d b];exact h
   | _=>cases h
theorem r_alloc{U:Fr}{k:Nat}{e:TypeId}{z:Value}[hz:TyZero P e z]{ty:TypeId}{pos:String}{af:Array Edge}{q:Nat}{ob:Obs}(y:J2 k ob=true) :
  AQ P nt ⟨some q,.alloc e,ty,pos,af,none⟩ U [k] [] ob ((k,.box (z.cells.toList.map fun c=>.p (.v c)))::ob) (.s (.one (.ref k 0))):=by
 intro u F g S G a w H D;obtain⟨A,B,C⟩:=F7 y;refine H4 (w':=w.alloc (.cells z.cells e)) (v:=.pointer (some ⟨w.heap.size,0,none⟩)) ?_ ?_
 ·simp[execOp,Instr.alloc,newVar,newRow,O4 hz.out.1]
 ·have j:Below w.heap.size w (w.alloc (.cells z.cells e)):=(Below.refl _ _).alloc (B29 _) _;have E:∀b,blk (.pointer (some ⟨w.heap.size,0,none⟩))=some b->w.heap.size<=b:=by intro b hb;simp[blk]at hb;omega
  have m:=D.new (o:=.box (z.cells.toList.map fun c=>.p (.v c))) C B j E ⟨w.heap.size,z.cells.toList,e,rfl,by rw[Array.toArray_toList];exact heap_alloc_new w _,Z5 _ hz.out.2⟩;rw[A]at m;refine⟨_,m.weaken (fun t x h=>?_),fun d _=>⟨w.heap.size,H3 _ _ _,rfl⟩⟩;obtain⟨_,h⟩:=SD.1 h;rw[K5,h];simp[SV.forget_free (g k (by simp) t x h (by simp))]
theorem gS{U:Fr}{j:Op}{ty:TypeId}{pos:String}{af:Array Edge}{ob ob':Obs}(h:∀b,AP U b->Eff P ⟨none,j,ty,pos,af,none⟩ b ob b ob'):AQ P nt ⟨none,j,ty,pos,af,none⟩ U [] [] ob ob' .any:=by
 intro b k _ S G a w s o;have:=h b k S G a w o;have g:u5 [] b=b:=by unfold u5;exact List.filter_eq_self.2 fun p _=>rfl
 have c:∀(v:Value) (w':World),(∃G',Sim P S b ob' G' a w')->∃G',Sim P S (u5 [] b) ob' G' a w'/\∀d,(none:Option Tmp)=some d->SV.rep (D9 (Mut S ob' G') w') G' .any v:=fun v w' ⟨G',h⟩=>⟨G',by rw[g];exact h,fun d l=>by cases l⟩
 unfold Does at this ⊢;generalize (execOp a.eval _).run P w=r at *;cases r with
 | ok n w' =>
  cases n<;>simp only at this ⊢<;>try exact this.elim
  case value v=>exact c v w' this
  case skip=>exact c undef w' this
  case enter f args=>exact this.mono fun e i ⟨v,m,q⟩=>⟨v,m,c v i q⟩
 | halt x w'=>exact this
theorem vX{U:Fr}{k:Nat}{c:List Nat}{o:Oper}{ob ob':Obs}{s:SV}(h:∀b,AP U b->EffV P o b ob s (Fr.forget k b) ob'):AQ P nt o U [k] c ob ob' s:=by
 intro b m g S G a w B z;have:=h b m S G a w z
 have i:∀(v:Value) (w':World),(∃G',Sim P S (Fr.forget k b) ob' G' a w'/\s.rep (D9 (Mut S ob' G') w') G' v)->∃G',Sim P S (u5 c b) ob' G' a w'/\∀d,o.dst=some d->s.rep (D9 (Mut S ob' G') w') G' v:=fun v w' ⟨G',h,y⟩=>⟨G',h.weaken (fun t x j=>by
  obtain⟨q,j⟩:=SD.1 j;rw[K5,j]
  simp[SV.forget_free (g k (by simp) t x j q)]),fun _ _=>y⟩
 unfold Does at this ⊢;generalize (execOp a.eval _).run P w=r at *;cases r with
 | ok n w' =>
  cases n<;>simp only at this ⊢<;>try exact this.elim
  case value v=>exact i v w' this
  case skip=>exact i undef w' this
  case enter f args=>exact this.mono fun e l ⟨v,p,A⟩=>⟨v,p,i v l A⟩
 | halt x w'=>exact this
theorem qO:∀{a:List Nat} {fr:Fr} {t:Nat} {x:SV},C7 fr t=some x->(∀k∈a,x.free k=true)->C7 (B2 a fr) t=some x
 | [],_,_,_,h,_=>h
 | k::a,fr,t,x,h,hf=>by
  show C7 (B2 a (Fr.forget k fr)) t=some x;refine qO ?_ (fun c b=>hf c (B46 _ b));rw[K5,h];simp[SV.forget_free (hf k (B52 ..))]
theorem WH{f:FuncId}{m:List Operand}{H:Array TypeId}{d:Nat}{ty:TypeId}{pos:String}{af:Array Edge}{U:Fr}{args:List S1}{Q E:List Nat}{ob ob':Obs}{W:List S1}
  (V:∀gf,Met P f args gf ob Q (fun N g=>N=W/\g=ob'))(ha:r7 U m=some args)(Y:m.all F9=true):AQ P nt ⟨some d,.call ⟨.value (.func f),m.toArray,H⟩,ty,pos,af,none⟩ U Q E ob ob' (kQ W):=by
 intro b X B S G a w hn h;have D:=j2 h m args (argsU X ha) Y;obtain⟨F,I⟩:∃F:Nat->Value,F=fun i=>S.sl a (i-1000000):=⟨_,rfl⟩
 let S':Ctx:={ S with gv:=F }
 have C:High (dN b):=fun i s J=>(T8 b i s J).1;have j:∀i s,C7 (dN b) i=some s->s.rep (D9 (Mut S' ob G) w) G (S'.sl a i):=by
  intro i s J;obtain⟨z,R⟩:=T8 b i s J;rw[Ctx.sl_ge z];show s.rep _ _ (F i);have e:=congrFun I i;rw[e];exact h.facts (i-1000000) s R
 have hs:Sim P S' (dN b) ob G a w:={ h with facts:=j }
 have p:=(V (dN b)).2 C S' G a w _ hs D;have Z:(execOp a.eval ⟨some d,.call ⟨.value (.func f),m.toArray,H⟩,ty,pos,af,none⟩).run P w=.ok (.enter f (m.map a.eval).toArray) w:=by
  have:=J9 (P:=P) (f:=f) (args:=(m.map a.eval).toArray) (w:=w) (V []).1;have hm:m.toArray.map a.eval=(m.map a.eval).toArray:=by simp
  simp only[execOp,resolve,Act.eval,Deferred.ofValue,Sem.run_bind,Sem.run_pure,Result.andThen_ok,invoke];rw[show (#[]:Array Value)++Array.map a.eval m.toArray++#[]=(m.map a.eval).toArray by rw[<-hm];simp];exact this
 unfold Does;rw[Z];refine p.mono ?_;rintro e w' ⟨v,N,g,G',rfl,⟨rfl,rfl⟩,K,L⟩;have q:∀i s,C7 (B2 Q b) i=some s->s.rep (D9 (Mut S g G') w') G' (S.sl a i):=by
  intro i s J;have z:=L.facts (i+1000000) s (by rw[Z6];exact kP J);have R:1000000<=i+1000000:=Nat.le_add_left _ _;rw[Ctx.sl_ge R]at z;have z:s.rep (D9 (Mut S g G') w') G' (F (i+1000000)):=z;have e:=congrFun I (i+1000000);simp only[Nat.add_sub_cancel]at e;rw[e]at z;exact z
 have M:Sim P S (B2 Q b) g G' a w':={ L with facts:=q }
 refine⟨v,rfl,G',M.weaken (fun t x O=>?_),fun _ _=>K⟩;obtain⟨hk,O⟩:=SD.1 O;exact qO O (fun k T=>B k T t x O hk)
theorem B17(k:Nat)(α:Type)(j:Nat)(c:α->Nat->Cell)(e:TypeId){kb o n m:Nat}{B:List TC}(hb:B0 ob kb=some (.tarr n m B))(J:B[o]?=some (.p (.v (.slice none 0 0))))(M:(H7 k fr&&J2 k ob)=true) :
  Sees P nt fr ob fr ((kb,.tarr n m (B.set o (.buf k α j c [])))::(k,.spare 0 j e)::ob):=by
 simp only[B24]at M;obtain⟨Q,R⟩:=M;obtain⟨T,C,W⟩:=F7 R;intro S G a w hn h;have D:=h.new W (o:=.spare 0 j e) (u:=.slice none 0 0) (w1:=w) C (Below.refl _ _) (fun b hb=>by simp[blk]at hb) ⟨[],World.ownsRow_nil w _ _ _⟩;rw[V4 Q,T]at D;have H:k≠kb:=fun U=>by rw[U,hb]at C;cases C
 have x:B0 ((k,Ob.spare 0 j e)::ob) kb=some (.tarr n m B):=by rw[A7 H];exact hb
 obtain⟨b,vs,t,V,hl,Z,N,ha⟩:=D.obs kb _ x;have d:blk (upd G k (.slice none 0 0) kb)=some b:=by rw[V];rfl
 refine⟨_,D.retell x d (fun i=>⟨d,trivial⟩) (fun i=>⟨d,trivial⟩) ?_⟩;rintro rd ⟨O,L,Y,E,I,F,g,q⟩;refine⟨O,L,Y,E,I,F,by simpa using g,A97 o (fun z X=>?_) q⟩;obtain⟨z',A,K⟩:=q.get o _ J;rw[X]at A;cases A;rw[K.1];exact⟨(H3 _ _ _).symm,X9 α j c⟩
def WI(L:Obs):List Nat:=L.map (·.1)
theorem D4{L c rest:Obs}(h:ObIn c L)(f:∀j x,E8 (WI L) j=false->B0 rest j=some x->B0 c j=some x):∀j x,B0 (L++rest) j=some x->B0 c j=some x:=by
 have key:∀(L:Obs) (j:Nat) (x:Ob),B0 (L++rest) j=some x->(B0 L j=some x)\/(E8 (WI L) j=false/\B0 rest j=some x):=by
  intro L;induction L with
  | nil=>intro j x a;exact .inr ⟨rfl,a⟩
  | cons p r g =>
   obtain⟨k,o⟩:=p;intro j x a;have a:B0 ((k,o)::(r++rest)) j=some x:=a;by_cases d:k=j
   ·subst d;rw[B4]at a;left;rw[B4];exact a
   ·rw[A7 d]at a;rcases g j x a with b | ⟨b,h2⟩
    ·left;rw[A7 d];exact b
    ·right;refine⟨?_,h2⟩;cases e:E8 (WI ((k,o)::r)) j
     ·rfl
     ·rcases B34.1 (t8.1 e) with q | q
      ·exact absurd q.symm d
      ·rw[show E8 (WI r) j=true from t8.2 q]at b;cases b
 intro j x a;rcases key L j x a with b | ⟨b,h2⟩
 ·exact h.spec j x b
 ·exact f j x b h2
theorem N7{K:List Nat}{rest:Obs}:∀j x,E8 K j=false->B0 rest j=some x->B0 rest j=some x:=fun _ _ _ h=>h
theorem R8{K:List Nat}{T rest:Obs}{k:Nat}{o:Ob}(b:E8 K k=true)(h:∀j x,E8 K j=false->B0 rest j=some x->B0 T j=some x):∀j x,E8 K j=false->B0 rest j=some x->B0 ((k,o)::T) j=some x:=by
 intro j x a c;have:k≠j:=fun e=>by rw[e,a]at b;cases b
 rw[A7 this];exact h j x a c
theorem obs_fgt{K:List Nat}{T ob:Obs}(k:Nat)(h:∀j x,E8 K j=false->B0 (Obs.forget k ob) j=some x->B0 T j=some x):∀j x,E8 K j=false->B0 (Obs.forget k ob) j=some x->B0 (Obs.forget k T) j=some x:=by
 intro j x d a;have c:=h j x d a;rw[I8,c];have b:=a;rw[<-Obs.forget_idem,I8,a]at b;exact b
theorem MU{rest:Obs}:∀{L:Obs} {j:Nat} {x:Ob},B0 (L++rest) j=some x->B0 L j=some x\/B0 rest j=some x
 | [],j,x,a=>.inr a
 | (k,o)::r,j,x,a=>by
  have a:B0 ((k,o)::(r++rest)) j=some x:=a;by_cases c:k=j
  ·subst c;rw[B4]at a;left;rw[B4];exact a
  ·rw[A7 c]at a;rcases MU a with b | b
   ·left;rw[A7 c];exact b
   ·exact .inr b
section
variable {P:Program}{nt:Nat}{fr gf:Fr}{ob:Obs}
theorem A92(k:Nat){l:Fr}{L:Obs}(M:FrLe fr l)(J:High gf)(N:Tail gf fr)(K:ObIn ob L):Sees P nt fr ob (l++Fr.forget k gf) (L++Obs.forget k ob):=by
 intro S G a w R h;have c:∀d m,B0 (L++Obs.forget k ob) d=some m->∃u,B0 ob d=some u/\(m=u\/m=u.forget k):=by
  intro d m j;rcases MU j with q | q
  ·exact⟨m,K.spec d m q,.inl rfl⟩
  ·rw[I8]at q;cases B:B0 ob d with
   | none=>rw[B]at q;cases q
   | some u=>rw[B]at q;cases q;exact⟨u,rfl,.inr rfl⟩
 have y:∀b i z,D9 (Mut S ob G) w b i z->D9 (Mut S (L++Obs.forget k ob) G) w b i z:=by
  intro b i z I;refine⟨I.1,fun H=>I.2 ?_⟩;rcases H with H | ⟨d,m,j,hb⟩
  ·exact .inl H
  ·obtain⟨u,A,rfl | rfl⟩:=c d m j
   ·exact .inr ⟨d,_,A,hb⟩
   ·exact .inr ⟨d,u,A,Own_forget.1 hb⟩
 refine⟨G,{ h with old:=?_,dis:=?_,obs:=?_,facts:=?_ }⟩
 ·intro d m b j hb;obtain⟨u,A,_⟩:=c d m j;exact h.old d u b A hb
 ·intro k1 k2 m O b q C E F;obtain⟨Q,ha,_⟩:=c k1 m q;obtain⟨ob',D,_⟩:=c k2 O C;exact h.dis k1 k2 Q ob' b ha D E F
 ·intro d m j;obtain⟨u,A,rfl | rfl⟩:=c d m j
  ·exact (h.obs d _ A).ext y (Below.refl _ _)
  ·exact ((h.obs d u A).ext y (Below.refl _ _)).forget (fun _ _=>rfl)
 ·intro i s p;rw[V6]at p;cases B:C7 l i with
  | some s0 =>
   rw[B]at p;have p:some s0=some s:=p;cases p;obtain⟨s1,q,C⟩:=M.spec i _ B;exact C.rep (SV.rep_mono y (h.facts i s1 q))
  | none =>
   rw[B]at p;have p:C7 (Fr.forget k gf) i=some s:=p;rw[K5]at p;cases v:C7 gf i with
   | none=>rw[v]at p;cases p
   | some s0 =>
    rw[v]at p;cases p;exact SV.rep_forget (fun _ _=>rfl) (SV.rep_mono y (h.facts i s0 (N i s0 (J i s0 v) v)))
end
theorem Sim.retold{S:Ctx}{G:Gh}{a:Act}{w:World}(h:Sim P S fr ob G a w){k:Nat}{o o':Ob}(E:B0 ob k=some o)(q:∀b i,Own (G k) o' b i->Own (G k) o b i)
  (D:∀H:Rd,ObOk S H G w (G k) o->ObOk S H G w (G k) o'):Sim P S fr ((k,o')::ob) G a w:=by
 have f:∀d j,B0 ((k,o')::ob) d=some j->∃p,B0 ob d=some p/\∀b i,Own (G d) j b i->Own (G d) p b i:=by
  intro d j c;by_cases g:d=k
  ·subst g;rw[B4]at c;cases c;exact⟨_,E,q⟩
  ·rw[A7 (Ne.symm g)]at c;exact⟨_,c,fun _ _ D=>D⟩
 have m:∀b i z,D9 (Mut S ob G) w b i z->D9 (Mut S ((k,o')::ob) G) w b i z:=by
  intro b i z F;refine⟨F.1,fun C=>F.2 ?_⟩;rcases C with C | ⟨d,j,c,hb⟩
  ·exact .inl C
  ·obtain⟨p,u,B⟩:=f d j c;exact .inr ⟨d,p,u,B _ _ hb⟩
 refine { h with old:=?_,dis:=?_,obs:=?_,facts:=?_ }
 ·intro d j b c hb;obtain⟨p,u,_⟩:=f d j c;exact h.old d p b u hb
 ·intro k1 k2 j K b I J y A;obtain⟨L,ha,_⟩:=f k1 j I;obtain⟨ob',v,_⟩:=f k2 K J;exact h.dis k1 k2 L ob' b ha v y A
 ·intro d j c;by_cases g:d=k
  ·subst g;rw[B4]at c;cases c;exact D _ ((h.obs d _ E).ext m (Below.refl _ _))
  ·rw[A7 (Ne.symm g)]at c;exact (h.obs d j c).ext m (Below.refl _ _)
 ·intro i s B;exact SV.rep_mono m (h.facts i s B)
theorem Sim.grow_cell{S:Ctx}{G:Gh}{a:Act}{w:World}(h:Sim P S fr ob G a w){k b n j i o f:Nat}{e:TypeId}{α:Type}{c:α->Nat->Cell}{m:List α}{v:α}(A:B0 ob k=some (.grow e α f c m))(x:G k=.slice (some ⟨b,0,none⟩) n j)(C:m[i]?=some v)(B:o<f) :
  ∃z,w.cell? ⟨b,i*f+o,none⟩=some z/\(c v o).rep (D9 (Mut S ob G) w) z:=by
 obtain⟨D,d,_,u⟩:=h.obs k _ A;obtain⟨y,rfl⟩:=B28.1 C;obtain⟨z,q,t⟩:=u i y o B;have:=d.cells (g:=b) (by rw[x];rfl) (i*f+o) z q;exact⟨z,by simpa[Addr.add_lit] using this,t⟩
theorem V8{x:Operand}{t e:TypeId}{k i o:Nat}{α:Type}{j:Nat}{c:α->Nat->Cell}{y:List α}{v:α}[ht:TyOne P t](H:opv fr x=some (.s (.one (.mref k j i o))))(C:B0 ob k=some (.grow e α j c y))(F:y[i]?=some v)
  (D:Nat.blt o j=true):Neu P ⟨dst,.load t x,ty,pos,af,gd⟩ fr ob (fun I=>I=.s (.one (.p (c v o)))) :=
 E1 fun S G a w h=>by
  obtain⟨b,n,A,B,E⟩:=G9 h H;obtain⟨z,q,u⟩:=h.grow_cell C B F (by simpa using D);refine⟨z,?_,u⟩;simp only[execOp,E];exact K2 (by simp[Instr.loadAt,Instr.sureAddr,R4 q])
theorem cM{x:Operand}{t e:TypeId}{n k i o:Nat}{α:Type}{q:Nat}{c:α->Nat->Cell}{D:List α}{v:α}[ht:TyAgg P t n](O:opv fr x=some (.s (.one (.mref k q i o))))(J:B0 ob k=some (.grow e α q c D))(N:D[i]?=some v)
  (L:Nat.ble (o+n) q=true):Neu P ⟨dst,.load t x,ty,pos,af,gd⟩ fr ob (fun T=>T=.s (.agg ((cellsOf c v o n).map .p))) :=
 E1 fun S G a w h=>by
  obtain⟨b,m,E,I,M⟩:=G9 h O;have K:o+n<=q:=by simpa using L
  obtain⟨C,B,u⟩:=gP (R:=fun j z=>w.cell? ⟨b,i*q+(o+j),none⟩=some z/\(c v (o+j)).rep (D9 (Mut S ob G) w) z) n (fun j U=>h.grow_cell J I N (by omega));refine⟨.agg C.toArray,?_,C,rfl,?_⟩
  ·simp only[execOp,M];refine K2 ?_;simp[Instr.loadAt,Instr.sureAddr,d6 (ht:=ht) (o:=i*q+o) B (fun j z Q=>by rw[Nat.add_assoc];exact (u j z Q).1)]
  ·refine gQ (by simp[B,K3]) fun j t z y H=>?_;rw[B92]at y;cases A:(cellsOf c v o n)[j]? with
   | none=>simp[A]at y
   | some F =>
    simp[A]at y;obtain⟨rfl,_⟩:=V3 c v n o j F A;subst y;exact (u j z H).2
theorem rets4{fn:Func}{t i b t3:Tmp}{s j d k:S1}(n:fn.results=#[.tmp t,.tmp i,.tmp b,.tmp t3])(o:Z3 fr t=some (.s s))(f:Z3 fr i=some (.s j))(c:Z3 fr b=some (.s d))(g:Z3 fr t3=some (.s k)):RetS P fn fr ob [s,j,d,k] :=
 fun S G a w h=>⟨.tuple #[a.tmps.getD t undef,a.tmps.getD i undef,a.tmps.getD b undef,a.tmps.getD t3 undef],by simp[results,n],[_,_,_,_],rfl,h.slot o,h.slot f,h.slot c,h.slot g,trivial⟩
theorem A41(k:Nat)(α:Type)(c:α->Nat->Cell){t e:TypeId}{f d:Nat}[ht:TySl P t e f d](q:B0 ob k=none)(x:Nat.blt k 1000000=true) :
  EffV P ⟨dst,.assign (.const (.slice none 0 0)),t,pos,af,gd⟩ fr ob (.s (.one (.mut k))) (Fr.forget k fr) ((k,.grow e α f c [])::Obs.forget k ob):=by
 intro S G a w h;refine H4 (w':=w) (v:=.slice none 0 0) A0 ?_;have j:=h.new (by simpa using x) (o:=.grow e α f c []) (u:=.slice none 0 0) (w1:=w) q (Below.refl _ _) (fun b hb=>by simp[blk]at hb) ⟨[],World.ownsRow_nil w _ _ _,by simp,fun i p=>absurd p (by simp)⟩;exact⟨upd G k (.slice none 0 0),j,(H3 _ _ _).symm,rfl⟩
theorem A42(k:Nat)(α:Type)(c:α->Nat->Cell){t e:TypeId}{x f:Nat}[ht:TySl P t e x f](y:Nat.ble x 100=true)(H:B0 ob k=none)(J:Nat.blt k 1000000=true) :
  EffV P ⟨dst,.buildSlice t 0 #[],ty,pos,af,gd⟩ fr ob (.s (.one (.mut k))) (Fr.forget k fr) ((k,.grow e α x c [])::Obs.forget k ob):=by
 intro S G a w h;have E:=rO (P:=P) (dst:=dst) (ty:=ty) (pos:=pos) (af:=af) (gd:=gd) (ht:=ht) k (α:=α) (c:=c) (ys:=[]) (parts:=#[]) (n:=0) E5 rfl rfl y H (by simpa using J) S G a w h;refine jR E ?_;rintro v w' ⟨G',C,D⟩;have z:B0 ((k,Ob.spare ([]:List α).length x e)::Obs.forget k ob) k=some (.spare 0 x e):=B4 _ _ _;obtain⟨M,q⟩:=C.obs k _ z;refine⟨G',((C.retold (o':=.grow e α x c []) z (fun b i I=>⟨I.1,by simp⟩) ?_).weakenO ?_),?_⟩
 ·rintro N ⟨L,A⟩;exact⟨L,A,by simp,fun i F=>absurd F (by simp)⟩
 ·intro K o' B;by_cases j:k=K
  ·subst j;rw[B4]at B ⊢;exact B
  ·rw[A7 j]at B ⊢;rw[A7 j];exact B
 ·exact⟨D.1,D.1 ▸ nE q⟩
theorem tail_drop{gf:Fr}{b:List Nat}(e:(b.all fun k=>Nat.blt k 1000000)=true)(h:Tail gf fr):Tail gf (u5 b fr):=fun i s d c=>by
 refine SD.2 ⟨fun a=>?_,h i s d c⟩;have:=B27.1 e i a;have:i<1000000:=by simpa using this
 omega
theorem Sim.freezeG{S:Ctx}{G:Gh}{a:Act}{w:World}(h:Sim P S fr ob G a w){k:Nat}{α:Type}{ec:Nat}{c:α->Nat->Cell}{xs:List α}{e:TypeId}(hk:B0 ob k=some (.grow e α ec c xs))(ac:0<ec) :
  Sim P S (B01 (SV.freeze k α ec c xs) fr) (A93 (Ob.freeze k α ec c xs) (Obs.drop k ob)) G a w:=by
 have T:=h.drop k;obtain⟨Y,V,U,hc⟩:=h.obs k _ hk;have v:∀q o,B0 (A93 (Ob.freeze k α ec c xs) (Obs.drop k ob)) q=some o->∃E,B0 (Obs.drop k ob) q=some E/\o=E.freeze k α ec c xs:=by
  intro q o d;rw[getO_mapO]at d;cases C:B0 (Obs.drop k ob) q with
  | none=>simp[C]at d
  | some E=>simp[C]at d;exact⟨E,rfl,d.symm⟩
 have K:∀(u:Value) (o:Ob) (b i:Nat),Own u (o.freeze k α ec c xs) b i↔Own u o b i:=by intro u o b i;cases o<;>simp[Own,Ob.freeze]
 have I:∀b i,Mut S (A93 (Ob.freeze k α ec c xs) (Obs.drop k ob)) G b i->Mut S (Obs.drop k ob) G b i:=by
  intro b i A;rcases A with A | ⟨q,o,d,hb⟩
  ·exact .inl A
  ·obtain⟨E,R,rfl⟩:=v q o d;exact .inr ⟨q,E,R,(K _ _ _ _).1 hb⟩
 have M:∀b i z,D9 (Mut S (Obs.drop k ob) G) w b i z->D9 (Mut S (A93 (Ob.freeze k α ec c xs) (Obs.drop k ob)) G) w b i z:=fun b i z L=>⟨L.1,fun A=>L.2 (I b i A)⟩
 have W:∀b i z,D9 (Mut S ob G) w b i z->D9 (Mut S (Obs.drop k ob) G) w b i z:=by
  intro b i z L;refine⟨L.1,fun A=>L.2 ?_⟩;rcases A with A | ⟨q,o',d,hb⟩
  ·exact .inl A
  ·refine .inr ⟨q,o',?_,hb⟩;by_cases D:q=k
   ·subst D;rw[T6]at d;cases d
   ·rwa[R3 D]at d
 have f:(Cell.list α ec c xs).rep (D9 (Mut S (A93 (Ob.freeze k α ec c xs) (Obs.drop k ob)) G) w) (G k):=by
  refine bB V ac U ?_ (fun i N j hj=>let ⟨z,y,B⟩:=hc i N j hj;⟨z,y,Cell.rep_mono (fun _ _ _ L=>M _ _ _ (W _ _ _ L)) _ _ B⟩);intro g hg j z hj J;refine⟨J,fun A=>?_⟩;rcases I _ _ A with A | ⟨q,o',d,hb,_⟩
  ·have:=h.m0 _ _ A;rcases h.old k _ g hk hg with y | y
   ·omega
   ·exact h.m0io _ _ A y.1
  ·by_cases D:q=k
   ·subst D;rw[T6]at d;cases d
   ·rw[R3 D]at d;exact D (h.dis q k o' _ g d hk hb hg)
 exact { T with
  old:=fun q o b d=>let ⟨E,R,_⟩:=v q o d;T.old q E b R
  dis:=fun k1 k2 o1 o2 b y B=>let ⟨oa,ha,_⟩:=v k1 o1 y;let ⟨ob',ab,_⟩:=v k2 o2 B;T.dis k1 k2 oa ob' b ha ab
  obs:=fun q o d=>by
   obtain⟨E,R,rfl⟩:=v q o d;have m:=(T.obs q E R).ext M (Below.refl _ _);cases E with
   | box X=>obtain⟨O,F,t',y,B,H⟩:=m;exact⟨O,F,t',y,B,H.map (TC.freeze k α ec c xs) fun _ _=>TC.rep_freeze f⟩
   | tbx e X=>obtain⟨O,F,y,B,H⟩:=m;exact⟨O,F,y,B,H.map (TC.freeze k α ec c xs) fun _ _=>TC.rep_freeze f⟩
   | tarr n Q X=>obtain⟨O,F,t',y,hl,B,hn,H⟩:=m;exact⟨O,F,t',y,hl,B,by simpa using hn,H.map (TC.freeze k α ec c xs) fun _ _=>TC.rep_freeze f⟩
   | arr=>exact m
   | spare=>exact m
   | grow=>exact m
   | map=>exact m
   | growA e' α' Q c' ad p X=>obtain⟨Y,y,B,H,Z,h5,h6⟩:=m;exact⟨Y,y,B,H,by simpa using Z,h5,h6.map (TC.freeze k α ec c xs) fun _ _=>TC.rep_freeze f⟩
   | growT e' n' Q X=>obtain⟨Y,y,B,H,Z⟩:=m;exact⟨Y,y,B,by simpa using H,Z.map (TC.freeze k α ec c xs) fun _ _=>TC.rep_freeze f⟩
  facts:=fun i s N=>by
   rw[pE]at N;cases C:C7 fr i with
   | none=>simp[C]at N
   | some s0 =>
    simp[C]at N;subst N
    exact SV.rep_freeze f (SV.rep_mono M (T.facts i s0 C)) }
theorem Sees.freezeG{k:Nat}{α:Type}{ec:Nat}{c:α->Nat->Cell}{xs:List α}{e:TypeId}(d:B0 ob k=some (.grow e α ec c xs))(b:Nat.blt 0 ec=true) :
  Sees P nt fr ob (B01 (SV.freeze k α ec c xs) fr) (A93 (Ob.freeze k α ec c xs) (Obs.drop k ob)):=fun S G a w f h=>⟨G,h.freezeG d (by simpa using b)⟩
theorem Sees.fewer{ob':Obs}(b:∀k o,B0 ob' k=some o->B0 ob k=some o):Sees P nt fr ob fr ob':=fun S G a w d c=>⟨G,c.weakenO b⟩
theorem A96(k:Nat)(α:Type)(ec:Nat)(c:α->Nat->Cell)(e:TypeId){kb o:Nat}{q:List TC}(hb:B0 ob kb=some (.box q))(F:q[o]?=some (.p (.v (.slice none 0 0))))(J:(H7 k fr&&J2 k ob)=true) :
  Sees P nt fr ob fr ((kb,.box (q.set o (.mut k)))::(k,.grow e α ec c [])::ob):=by
 simp only[B24]at J;obtain⟨L,M⟩:=J;obtain⟨N,A,T⟩:=F7 M;intro S G a w X h;have B:=h.new T (o:=.grow e α ec c []) (u:=.slice none 0 0) (w1:=w) A (Below.refl _ _) (fun b hb=>by simp[blk]at hb) ⟨[],World.ownsRow_nil w _ _ _,by simp,fun i R=>absurd R (by simp)⟩;rw[V4 L,N]at B;have E:k≠kb:=fun O=>by rw[O,hb]at A;cases A
 have j:B0 ((k,Ob.grow e α ec c [])::ob) kb=some (.box q):=by rw[A7 E];exact hb
 obtain⟨b,Z,t,Q,W,ha⟩:=B.obs kb _ j;have d:blk (upd G k (.slice none 0 0) kb)=some b:=by rw[Q];rfl
 refine⟨_,B.retell j d (fun i=>⟨d,trivial⟩) (fun i=>⟨d,trivial⟩) ?_⟩;rintro Y ⟨K,I,V,C,D,f⟩;refine⟨K,I,V,C,D,A97 o (fun z U=>?_) f⟩;obtain⟨z',n,H⟩:=f.get o _ F;rw[U]at n;cases n;rw[H.1];exact⟨(H3 _ _ _).symm,rfl⟩
def TC.refs:TC->List Nat
 | .buf k _ _ _ _=>[k]
 | .ref k _=>[k]
 | .mut k=>[k]
 | .mref k _ _ _=>[k]
 | .msl k _ _ _=>[k]
 | .clo _ d a=>d.map (·.1)++a.map (·.1)
 | .ifc _ k _=>[k]
 | _=>[]
def S1.refs:S1->List Nat
 | .one t=>t.refs
 | .agg b=>b.flatMap TC.refs
def SV.refs:SV->List Nat
 | .s x=>x.refs
 | .tup l=>l.flatMap S1.refs
 | _=>[]
def Ob.refs:Ob->List Nat
 | .box c=>c.flatMap TC.refs
 | .tbx _ c=>c.flatMap TC.refs
 | .tarr _ _ c=>c.flatMap TC.refs
 | .growA _ _ _ _ _ _ c=>c.flatMap TC.refs
 | .growT _ _ _ c=>c.flatMap TC.refs
 | _=>[]
def JK:Fr->List Nat
 | []=>[]
 | (_,s)::r=>s.refs++JK r
def AX:Obs->List Nat
 | []=>[]
 | (_,o)::r=>o.refs++AX r
theorem nN{G G':Gh}:∀{l:List (Nat×Nat)} {a:List Value},(∀k∈l.map (·.1),G' k=G k)->All2 (eP G) l a->All2 (eP G') l a
 | [],[],_,_=>trivial
 | [],_::_,_,h=>h.elim
 | _::_,[],_,h=>h.elim
 | p::l,u::a,hk,h=>by
  obtain⟨⟨b,d,e⟩,f⟩:=h;exact⟨⟨b,by rw[hk p.1 (by simp)];exact d,e⟩,nN (fun k c=>hk k (by simp at c ⊢;exact .inr c)) f⟩
theorem TC.rep_congr{g:Rd}{G G':Gh}:∀{t:TC} {u:Value},(∀k∈t.refs,G' k=G k)->t.rep g G u->t.rep g G' u
 | .p _,_,_,h=>h
 | .eref _ _ _ _ _,_,_,h=>h
 | .any,_,_,h=>h
 | .full _ _ _ _,_,_,h=>h
 | .ifc _ k _,_,hk,h=>by simp only[TC.rep];rw[hk k (by simp[TC.refs])];exact h
 | .fnc _ _,_,_,h=>h
 | .fncE _ _ _ _ _,_,_,h=>h
 | .buf k _ _ _ _,_,hk,h=>⟨by rw[hk k (by simp[TC.refs])];exact h.1,h.2⟩
 | .ref k _,_,hk,h=>by simp only[TC.rep];rw[hk k (by simp[TC.refs])];exact h
 | .mut k,_,hk,h=>by simp only[TC.rep];rw[hk k (by simp[TC.refs])];exact h
 | .mref k _ _ _,_,hk,h=>by simp only[TC.rep];rw[hk k (by simp[TC.refs])];exact h
 | .msl k _ _ _,_,hk,h=>by simp only[TC.rep];rw[hk k (by simp[TC.refs])];exact h
 | .clo _ nf nc,_,hk,⟨vs,ws,h1,h2,h3⟩=>⟨vs,ws,h1,nN (fun k d=>hk k (by simp only[TC.refs,B36];exact .inl d)) h2,nN (fun k d=>hk k (by simp only[TC.refs,B36];exact .inr d)) h3⟩
theorem y7{d:Rd}{G G':Gh}:∀{a:List TC} {c:List Value},(∀k∈a.flatMap TC.refs,G' k=G k)->All2 (TC.rep d G) a c->All2 (TC.rep d G') a c
 | [],[],_,_=>trivial
 | [],_::_,_,h=>h.elim
 | _::_,[],_,h=>h.elim
 | t::a,v::c,hs,h=>⟨TC.rep_congr (fun k b=>hs k (by rw[List.flatMap_cons];exact B36.2 (.inl b))) h.1,y7 (fun k b=>hs k (by rw[List.flatMap_cons];exact B36.2 (.inr b))) h.2⟩
theorem S1.rep_congr{b:Rd}{G G':Gh}:∀{t:S1} {u:Value},(∀k∈t.refs,G' k=G k)->t.rep b G u->t.rep b G' u
 | .one t,u,hs,h=>TC.rep_congr (t:=t) hs h
 | .agg ts,u,hs,⟨vs,h1,h2⟩=>⟨vs,h1,y7 hs h2⟩
theorem xC{d:Rd}{G G':Gh}:∀{a:List S1} {c:List Value},(∀k∈a.flatMap S1.refs,G' k=G k)->All2 (S1.rep d G) a c->All2 (S1.rep d G') a c
 | [],[],_,_=>trivial
 | [],_::_,_,h=>h.elim
 | _::_,[],_,h=>h.elim
 | t::a,v::c,hs,h=>⟨S1.rep_congr (fun k b=>hs k (by rw[List.flatMap_cons];exact B36.2 (.inl b))) h.1,xC (fun k b=>hs k (by rw[List.flatMap_cons];exact B36.2 (.inr b))) h.2⟩
theorem SV.rep_congr{b:Rd}{G G':Gh}:∀{t:SV} {u:Value},(∀k∈t.refs,G' k=G k)->t.rep b G u->t.rep b G' u
 | .s t,u,hs,h=>S1.rep_congr (t:=t) hs h
 | .tup ts,u,hs,⟨vs,h1,h2⟩=>⟨vs,h1,xC hs h2⟩
 | .any,_,_,_=>trivial
 | .un,_,_,h=>h
theorem ObOk.congr{S:Ctx}{r:Rd}{G G':Gh}{w:World}{u:Value}{o:Ob}(l:∀k∈o.refs,G' k=G k)(h:ObOk S r G w u o):ObOk S r G' w u o:=by
 cases o with
 | box m=>obtain⟨b,g,t,a,d,f⟩:=h;exact⟨b,g,t,a,d,y7 l f⟩
 | tbx e m=>obtain⟨b,g,a,d,f⟩:=h;exact⟨b,g,a,d,y7 l f⟩
 | tarr n i m=>obtain⟨b,g,t,a,d,f,j,q⟩:=h;exact⟨b,g,t,a,d,f,j,y7 l q⟩
 | growA e α i c xs p m=>obtain⟨g,a,d,f,j,q,s⟩:=h;exact⟨g,a,d,f,j,q,y7 l s⟩
 | growT e n i m=>obtain⟨g,a,d,f,j⟩:=h;exact⟨g,a,d,f,y7 l j⟩
 | arr α i c xs=>exact h
 | map κ x v=>exact h
 | spare n i e=>exact h
 | grow e α i c xs=>exact h
theorem AY:∀{fr:Fr} {i:Nat} {s:SV},C7 fr i=some s->∀k∈s.refs,k∈JK fr
 | [],i,s,h,_,_=>by cases h
 | (j,x)::r,i,s,h,k,hm=>by
  unfold C7 at h;unfold JK;cases hb:Nat.beq j i
  ·rw[hb]at h;exact B36.2 (.inr (AY h k hm))
  ·rw[hb]at h;cases h;exact B36.2 (.inl hm)
theorem rT:∀{ob:Obs} {i:Nat} {o:Ob},B0 ob i=some o->∀k∈o.refs,k∈AX ob
 | [],i,s,h,_,_=>by cases h
 | (j,x)::r,i,s,h,k,hm=>by
  unfold B0 at h;unfold AX;cases hb:Nat.beq j i
  ·rw[hb]at h;exact B36.2 (.inr (rT h k hm))
  ·rw[hb]at h;cases h;exact B36.2 (.inl hm)
theorem GI:∀{a b:Obs} {k:Nat},B0 (a++b) k=match B0 a k with | some o=>some o | none=>B0 b k
 | [],b,k=>rfl
 | (j,x)::r,b,k=>by
  show (bif Nat.beq j k then some x else B0 (r++b) k)=(match (bif Nat.beq j k then some x else B0 r k) with | some o=>some o | none=>B0 b k)
  cases Nat.beq j k
  ·exact GI (a:=r)
  ·rfl
def newOk(b:List S1)(ob':Obs)(fr:Fr)(ob:Obs):Bool :=
 (b.flatMap S1.refs++AX ob').all (fun k=>(B0 ob' k).isSome)&&(JK fr++AX ob).all (fun k=>(B0 ob' k).isNone)&&ob.all (fun p=>(B0 ob' p.1).isNone)
theorem MV:∀{ob:Obs} {k:Nat} {o:Ob},B0 ob k=some o->∃p∈ob,p.1=k
 | [],k,o,h=>by cases h
 | (j,x)::r,k,o,h=>by
  unfold B0 at h;cases hb:Nat.beq j k
  ·rw[hb]at h;obtain⟨p,a,b⟩:=MV h;exact⟨p,B46 _ a,b⟩
  ·exact⟨_,B52,by simpa using hb⟩
theorem gT{w:World}{B B':Nat}{e:TypeId}{d n:Nat}{v:Value}{f:List Value}(g:B<=B')(h:w.ownsRow B' e d v n f):w.ownsRow B e d v n f :=
 ⟨h.1,h.2.imp id fun ⟨b,a,c,i,hb,r⟩=>⟨b,a,c,i,B72 g hb,r⟩⟩
theorem ObOk.low{S S':Ctx}{j:Rd}{G:Gh}{w:World}{u:Value}{o:Ob}(g:S.B<=S'.B)(h:ObOk S' j G w u o):ObOk S j G w u o:=by
 cases o with
 | box i=>exact h
 | tbx e i=>exact h
 | tarr n d i=>exact h
 | arr α d c k=>exact h
 | map κ m l=>exact h
 | spare n d e=>obtain⟨b,a⟩:=h;exact⟨b,gT g a⟩
 | grow e α d c k=>obtain⟨b,a,f⟩:=h;exact⟨b,gT g a,f⟩
 | growA e α d c k p i=>obtain⟨b,a,f⟩:=h;exact⟨b,gT g a,f⟩
 | growT e n d i=>obtain⟨b,a,f⟩:=h;exact⟨b,gT g a,f⟩
variable {rest:List Oper}{Q:Post}{d:Nat}
theorem mK{f:FuncId}{V:List Operand}{al:Array TypeId}{ty:TypeId}{pos:String}{af:Array Edge}{args:List S1}{ks:List Nat}{U:List S1->Obs->Prop}
  (hf:Met P f args [] [] ks U)(ha:r7 fr V=some args)(hc:V.all F9=true)(aw:(args.flatMap S1.refs).isEmpty=true)(hd:Nat.blt d nt=true)
  (kk:∀rs ob',U rs ob'->newOk rs ob' fr ob=true/\WpL P nt ops rest ((d,kQ rs)::fr) (ob'++ob) Q):WpL P nt ops (⟨some d,.call ⟨.value (.func f),V.toArray,al⟩,ty,pos,af,none⟩::rest) fr ob Q:=by
 intro S G a w hn h;have ak:=j2 h V args ha hc;let S':Ctx:={ S with w0:=w,M0:=fun b i=>Mut S ob G b i,io:=fun _=>False }
 have aq:S'.B=w.heap.size:=rfl;have ag:High ([]:Fr):=fun i s hi=>by cases hi
 have am:Grd P (fun _=>False) w:=by
  obtain⟨wg,h1,M,O⟩:=h.grd;refine⟨wg,h1,B72 M h.size,fun j F=>?_⟩;obtain⟨h4,h5⟩:=O j F;exact⟨(h.keep j (B91 F M) h5).trans h4,fun e=>e⟩
 have hs:Sim P S' [] [] G a w:={ nt:=h.nt,ntb:=h.ntb,defers:=h.defers,os:=rfl,tape:=rfl,output:=rfl,size:=B29 _,keep:=fun _ _ _=>rfl,m0:=fun b i J=>h.mut_lt J,m0io:=fun _ _ _ e=>e,grd:=am,pin:=h.pin,old:=fun _ _ _ e=>(by cases e),dis:=fun _ _ _ _ _ e=>(by cases e),obs:=fun _ _ e=>(by cases e),facts:=fun _ _ e=>(by cases e) }
 have an:∀b i z,D9 (Mut S ob G) w b i z->D9 (Mut S' [] G) w b i z:=fun b i z W=>⟨W.1,fun J=>W.2 (by
  rcases J with J | ⟨k,o,q,_⟩
  ·exact J
  ·cases q)⟩
 have ab:=hf.2 ag S' G a w _ hs (ak.mono fun _ _=>S1.rep_mono an);refine wpList_plain rfl fun K hK=>J4 (K:=fun v w'=>∃rs ob' G',U rs ob'/\bF (D9 (Mut S' ob' G') w') G' rs v/\Sim P S' (B2 ks []) ob' G' a w') ?_ ?_
 ·have he:(execOp a.eval ⟨some d,.call ⟨.value (.func f),V.toArray,al⟩,ty,pos,af,none⟩).run P w=.ok (.enter f (V.map a.eval).toArray) w:=by
   have:=J9 (P:=P) (f:=f) (args:=(V.map a.eval).toArray) (w:=w) hf.1;have J:V.toArray.map a.eval=(V.map a.eval).toArray:=by simp
   simp only[execOp,resolve,Act.eval,Deferred.ofValue,Sem.run_bind,Sem.run_pure,Result.andThen_ok,invoke];rw[show (#[]:Array Value)++Array.map a.eval V.toArray++#[]=(V.map a.eval).toArray by rw[<-J];simp];exact this
  unfold Does;rw[he];refine ab.mono ?_;rintro e w' ⟨v,rs,ob',G',rfl,ai,T,C⟩;exact⟨v,rfl,rs,ob',G',ai,T,C⟩
 ·rintro v w' ⟨rs,ob',G',hp,T,C⟩;obtain⟨ac,au⟩:=kk rs ob' hp;simp only[newOk,B24,B27,B36]at ac;obtain⟨⟨n1,n2⟩,n3⟩:=ac;have av:∀{k o},B0 ob k=some o->B0 ob' k=none:=fun {k o} q=>by
   obtain⟨p,p1,p2⟩:=MV q;have:=n3 p p1;rw[p2]at this;simpa using this
  obtain⟨H,hH⟩:∃H:Gh,H=fun k=>match B0 ob' k with | some _=>G' k | none=>G k:=⟨_,rfl⟩
  have X:∀{k},(B0 ob' k).isSome=true->H k=G' k:=fun {k} q=>by
   rw[hH];dsimp only;cases R:B0 ob' k with
   | none=>rw[R]at q;cases q
   | some o=>rfl
  have Y:∀{k},(B0 ob' k).isNone=true->H k=G k:=fun {k} q=>by
   rw[hH];dsimp only;cases R:B0 ob' k with
   | none=>rfl
   | some o=>rw[R]at q;cases q
  have ah:d<S.nt:=by rw[hn];simpa using hd
  have ap:w.heap.size<=w'.heap.size:=C.size;have I:∀k,k<w.heap.size->w'.heap[k]?=w.heap[k]?:=fun k q=>C.keep k q (fun e=>e);have L:∀k o b,B0 ob' k=some o->blk (G' k)=some b->w.heap.size<=b:=fun k o b h1 M=>by
   rcases C.old k o b h1 M with O | O
   ·exact O
   ·exact O.1.elim
  have D:∀{k o},B0 (ob'++ob) k=some o->(B0 ob' k=some o/\H k=G' k)\/(B0 ob k=some o/\H k=G k):=fun {k o} q=>by
   rw[GI]at q;cases R:B0 ob' k with
   | some o'=>rw[R]at q;exact .inl ⟨q,X (by rw[R];rfl)⟩
   | none=>rw[R]at q;exact .inr ⟨q,Y (by rw[R];rfl)⟩
  have ad:∀b i z,D9 (Mut S' ob' G') w' b i z->D9 (Mut S (ob'++ob) H) w' b i z:=fun b i z W=>⟨W.1,fun J=>W.2 (by
   rcases J with J | ⟨k,o,q,hb⟩
   ·exact .inl (.inl J)
   ·rcases D q with ⟨k1,e⟩ | ⟨k1,e⟩
    ·rw[e]at hb;exact .inr ⟨k,o,k1,hb⟩
    ·rw[e]at hb;exact .inl (.inr ⟨k,o,k1,hb⟩))⟩
  have ae:∀b i z,D9 (Mut S ob G) w b i z->D9 (Mut S (ob'++ob) H) w' b i z:=fun b i z W=>by
   have ah:b<w.heap.size:=World.block_lt_of_cell? w _ W.1;refine⟨by rw[World.cell?_of_block (w:=w) (a:=⟨b,i,none⟩) (I b ah)];exact W.1,fun J=>?_⟩;rcases J with J | ⟨k,o,q,hb⟩
   ·exact W.2 (.inl J)
   ·rcases D q with ⟨k1,e⟩ | ⟨k1,e⟩
    ·rw[e]at hb;have:=L k o b k1 hb.1;omega
    ·rw[e]at hb;exact W.2 (.inr ⟨k,o,k1,hb⟩)
  have Z:Below w.heap.size w w':=⟨C.os,C.tape,C.output,ap,fun k q=>I k q⟩
  have ao:Sim P S fr (ob'++ob) H a w':=by
   refine { nt:=h.nt,ntb:=h.ntb,defers:=h.defers,os:=C.os.trans h.os,tape:=C.tape.trans h.tape,output:=C.output.trans h.output,size:=B72 h.size ap,keep:=fun k q ar=>(I k (B91 q h.size)).trans (h.keep k q ar),m0:=h.m0,m0io:=h.m0io,grd:=h.grd,pin:=fun k q=>?_,old:=fun k o b h1 M=>?_,dis:=fun k k' o o' b h1 M O h4=>?_,obs:=fun k o q=>?_,facts:=fun i s hi=>?_ }
   ·cases R:B0 ob' k with
    | some o=>rw[X (by rw[R];rfl)];exact C.pin k q
    | none=>rw[Y (by rw[R];rfl)];exact h.pin k q
   ·rcases D h1 with ⟨k1,e⟩ | ⟨k1,e⟩
    ·rw[e]at M;exact .inl (B72 h.size (L k o b k1 M))
    ·rw[e]at M;exact h.old k o b k1 M
   ·rcases D h1 with ⟨k1,e1⟩ | ⟨k1,e1⟩<;>rcases D M with ⟨k2,e2⟩ | ⟨k2,e2⟩<;>rw[e1]at O<;>rw[e2]at h4
    ·exact C.dis k k' o o' b k1 k2 O h4
    ·have:=L k o b k1 O;have:=(h.obs k' o' k2).blk_lt _ h4;omega
    ·have:=L k' o' b k2 h4;have:=(h.obs k o k1).blk_lt _ O;omega
    ·exact h.dis k k' o o' b k1 k2 O h4
   ·rcases D q with ⟨k1,e⟩ | ⟨k1,e⟩
    ·rw[e];exact (((C.obs k o k1).low (S:=S) (by rw[aq];exact h.size)).ext ad (Below.refl _ _)).congr fun j F=>X (n1 j (.inr (rT k1 j F)))
    ·rw[e];exact ((h.obs k o k1).ext ae Z).congr fun j F=>Y (n2 j (.inr (rT k1 j F)))
   ·exact SV.rep_congr (fun j F=>Y (n2 j (.inl (AY hi j F)))) (SV.rep_mono ae (h.facts i s hi))
  have aj:(kQ rs).rep (D9 (Mut S (ob'++ob) H) w') H v:=by
   refine SV.rep_congr (fun j F=>X (n1 j (.inl ?_))) (SV.rep_mono ad T);revert F
   match rs with
   | []=>intro F;cases F
   | [r]=>intro F;simpa[kQ,SV.refs] using F
   | r::r2::rest=>intro F;exact F
  exact hK _ _ (au S H _ w' hn (ao.put ah aj))
theorem A43{f:FuncId}{g:Array Operand}{x:Array TypeId}{ty:TypeId}{pos:String}{af:Array Edge}{ps:List PV}{m:List PV->Prop}{z:Fr}{s:Obs}(T:Sees P nt fr ob z s)
  (J:FnOk P f ps m)(ha:cH z g.toList=some ps)(M:g.toList.all F9=true)(N:Nat.blt d nt=true)
  (k:∀rs,m rs->(∀(U H:Rd) v,ResRep U rs v->ResRep H rs v)/\WpL P nt ops rest ((d,mZ rs)::fr) ob Q):WpL P nt ops (⟨some d,.call ⟨.value (.func f),g,x⟩,ty,pos,af,none⟩::rest) fr ob Q:=by
 intro S G a w D h;obtain⟨G',I⟩:=T S G a w D h;have B:=cI I g.toList ps ha M;have j:=J.2 w (Mut S s G') (g.toList.map a.eval) h.grdW (fun b i R=>I.mut_lt R) B;have q:(g.toList.map a.eval).toArray=g.map a.eval:=by rw[<-Array.toList_map,Array.toArray_toList]
 refine wpList_plain rfl fun K L=>J4 (K:=fun v w'=>∃rs,m rs/\ResRep (D9 (Mut S s G') w') rs v/\Below w.heap.size w w') ?_ ?_
 ·have O:(execOp a.eval ⟨some d,.call ⟨.value (.func f),g,x⟩,ty,pos,af,none⟩).run P w=.ok (.enter f (g.map a.eval)) w:=by
   simp only[execOp,resolve,Act.eval,Deferred.ofValue,Sem.run_bind,Sem.run_pure,Result.andThen_ok,invoke];rw[show (#[]:Array Value)++Array.map a.eval g++#[]=g.map a.eval by simp];exact J9 J.1
  unfold Does;rw[O];rw[q]at j;refine j.mono ?_;rintro e w' ⟨v,rs,rfl,E,F,hb⟩;exact⟨v,rfl,rs,E,F,hb⟩
 ·rintro v w' ⟨rs,E,F,hb⟩;obtain⟨k1,k2⟩:=k rs E;have C:d<S.nt:=by rw[D];simpa using N
  exact L _ _ (k2 S G _ w' D ((h.ext hb).put C (ResRep.sv (k1 _ _ _ F))))
def StepG(P:Program)(nt:Nat)(ops:Array Oper)(o:Oper)(φ:Fa)(ob:Obs)(K:Fa->Obs->Prop):Prop :=
 Wanted ops φ o true/\∀S G a w,S.nt=nt->SimF P S φ ob G a w->Does P o a w (fun v w'=>∃b ob' G',K b ob'/\SimF P S b ob' G' (a.put o.dst v) w')
def StepTG(P:Program)(nt:Nat)(ops:Array Oper)(T i:Nat)(φ:Fa)(ob:Obs)(K:Fa->Obs->Prop):Prop :=
 ∃o,ops[i]?=some o/\cond (tn T i o) (StepG P nt ops o φ ob K) (∃s d,o.dst=some d/\YieldsN P nt ops o φ ob s/\K (Z4 φ d s) ob)
def mL(P:Program)(nt:Nat)(ops:Array Oper)(T:Nat)(K:Fa->Obs->Prop):Nat->Array Bool->Fa->Obs->Prop
 | 0,listed,φ,ob=>Region.ready .any ops listed=[]/\K φ ob
 | fuel+1,listed,φ,ob=>(Region.ready .any ops listed=[]->K φ ob)/\∀i∈Region.ready .any ops listed,StepTG P nt ops T i φ ob (mL P nt ops T K fuel (listed.setIfInBounds i true))
theorem gU{T:Nat}{K:Fa->Obs->Prop}{S:Ctx}{Q:Exit->Act->World->Prop}(q:S.nt=nt)(f:∀(j t:Nat),(ops[j]?).bind (fun o=>o.dst)=some t->t<nt)(x:∀φ ob G a w,K φ ob->SimF P S φ ob G a w->Q .normal a w) :
  ∀(e:Nat) (g:Array Bool) (φ:Fa) (ob:Obs) (G:Gh) (a:Act) (w:World),mL P nt ops T K e g φ ob->SimF P S φ ob G a w->wpAny P .any ops Q e g a w
 | 0,_,φ,ob,G,a,w,h,hs=>⟨h.1,x φ ob G a w h.2 hs⟩
 | e+1,g,φ,ob,G,a,w,h,hs=>by
  refine⟨fun L=>x φ ob G a w (h.1 L) hs,fun i E=>?_⟩;obtain⟨o,N,c⟩:=h.2 i E;unfold wpOp;simp only[N];cases I:tn T i o with
  | true =>
   rw[I]at c;obtain⟨M,c⟩:=c;rw[A5 (cJ q hs M f)];refine .inl (J4 (c S G a w q hs) ?_);rintro v w' ⟨V,ob',G',k,F⟩;exact gU q f x e _ V ob' G' _ w' k F
  | false =>
   rw[I]at c;obtain⟨s,d,C,⟨W,z,A,U⟩,k⟩:=c;rw[C]at z;cases z;rcases U with ⟨H,J,D,B⟩ | ⟨H,rfl⟩
   ·rw[cJ q hs H f,A5 rfl];refine .inl (J4 (B S G a w (hs.sub fun i s E=>(D i s E).1)) ?_);rintro v w' ⟨R,X,rfl,O⟩;rw[C];exact gU q f x e _ _ ob G _ w' k ((hs.ext R).put (by rw[q];exact A) O)
   ·rw[cJ q hs H f,A6 (by simp),C];exact gU q f x e _ _ ob G _ w k (hs.put (by rw[q];exact A) rfl)
theorem AZ{T:Nat}{K:Fa->Obs->Prop}:∀(c:Nat) (b:Array Bool) (φ:Fa) (ob:Obs),b.getD T false=true->yR P nt ops K c b φ ob->mL P nt ops T K c b φ ob
 | 0,_,_,_,_,h=>h
 | c+1,b,φ,ob,hT,h=>by
  refine⟨h.1,fun i A=>?_⟩;obtain⟨o,F,j⟩:=h.2 i A;have q:i≠T:=fun e=>by subst e;have:=K4 A;rw[hT]at this;cases this
  have k:(b.setIfInBounds i true).getD T false=true:=by
   simp only[B35]at hT ⊢
   rwa[Array.getElem?_setIfInBounds_ne q]
  refine⟨o,F,?_⟩;have I:tn T i o=turns o.op:=by unfold tn;rw[P3 q];rfl
  rw[I];cases y:turns o.op with
  | true =>
   rw[y]at j;refine⟨by unfold Wanted;rw[j.1],fun S G a w E H=>?_⟩;have l:=j.2 S G a w E H;unfold Does at l ⊢;have m:∀v w',(∃p ob' G',yR P nt ops K c (b.setIfInBounds i true) p ob'/\SimF P S p ob' G' (a.put o.dst v) w')->(∃p ob' G',mL P nt ops T K c (b.setIfInBounds i true) p ob'/\SimF P S p ob' G' (a.put o.dst v) w'):=by
    rintro v w' ⟨p,ob',G',B,z⟩;exact⟨_,ob',G',AZ c _ _ _ k B,z⟩
   generalize (execOp a.eval o).run P w=r at *;cases r with
   | ok n w' =>
    cases n<;>simp only at l ⊢<;>try exact l.elim
    case value v=>exact m _ _ l
    case skip=>exact m _ _ l
    case enter f args=>exact l.mono fun e M ⟨v,C,J⟩=>⟨v,C,m _ _ J⟩
   | halt x w'=>exact l
  | false =>
   rw[y]at j;obtain⟨s,d,l,L,HK⟩:=j;exact⟨s,d,l,L,AZ c _ _ _ k HK⟩
theorem MW{T:Nat}{K:Fa->Obs->Prop}{i d:Nat}{w:Oper}{s:SV}(hi:ops[i]?=some w)(V:tn T i w=false)(F:w.dst=some d) :
  ∀(c:Nat) (b:Array Bool) (φ:Fa) (ob:Obs),Closed ops b ->
   (∀j l,ops[j]?=some l->j≠i->b.getD j true=false->tn T j l=true->Bef ops j i=true) ->
   (∀j l,ops[j]?=some l->j≠i->b.getD j true=false->tn T j l=false->(∃e∈l.after.toList,Region.binds .any e=true/\e.on=i)\/j7 ops w l=true) ->
   i∈Region.ready .any ops b->YieldsN P nt ops w φ ob s ->
   mL P nt ops T K c (b.setIfInBounds i true) (Z4 φ d s) ob->mL P nt ops T K (c+1) b φ ob:=by
 have q:∀(c:Nat) (b:Array Bool) (φ:Fa) (ob:Obs),YieldsN P nt ops w φ ob s->mL P nt ops T K c (b.setIfInBounds i true) (Z4 φ d s) ob->StepTG P nt ops T i φ ob (mL P nt ops T K c (b.setIfInBounds i true)):=by
  intro c b φ ob D H;exact⟨w,hi,by rw[V];exact⟨s,d,F,D,H⟩⟩
 intro c;induction c with
 | zero =>
  intro b φ ob Q N O A D H;refine⟨fun h=>(by rw[h]at A;cases A),fun j I=>?_⟩;by_cases f:j=i
  ·subst f;exact q 0 b φ ob D H
  ·have:=ready_mono I f;rw[H.1]at this;cases this
 | succ c ih =>
  intro b φ ob Q N O A D H;refine⟨fun h=>(by rw[h]at A;cases A),fun j I=>?_⟩;by_cases f:j=i
  ·subst f;exact q (c+1) b φ ob D H
  ·obtain⟨g,l,p,u⟩:=mem_ready.1 I;have v:=K4 A;cases t:tn T j l with
   | true =>
    have hb:=N j l p f g t;have:=T7 Q j hb (fun o Y e R x=>by rw[p]at Y;cases Y;exact u e (Array.mem_toList_iff.1 R) x);rw[v]at this;cases this
   | false =>
    have E:j7 ops w l=true:=by
     rcases O j l p f g t with ⟨e,R,x,U⟩ | h
     ·have:=u e (Array.mem_toList_iff.1 R) x;rw[U]at this;have L:b.getD i false=true:=this;rw[v]at L;cases L
     ·exact h
    obtain⟨o',J,r⟩:=H.2 j (ready_mono I f);rw[p]at J;cases J;rw[t]at r;obtain⟨sj,X,G,W,HK⟩:=r;simp only[j7,F,G,B24,B60,List.contains_eq_mem,decide_eq_false_iff_not]at E;obtain⟨⟨Z,L⟩,M⟩:=E;have M:d≠X:=fun e=>by subst e;simp at M
    refine⟨l,p,by
     rw[t];refine⟨sj,X,G,W.unput Z,?_⟩;refine ih (b.setIfInBounds j true) _ ob (L3 Q I) ?_ ?_ (ready_mono A (Ne.symm f)) (D.put L) ?_
     ·intro k ok S z C B;refine N k ok S z ?_ B;by_cases m:j=k
      ·subst m;exact g
      ·rwa[getD_set_ne true m]at C
     ·intro k ok S z C B;refine O k ok S z ?_ B;by_cases m:j=k
      ·subst m;exact g
      ·rwa[getD_set_ne true m]at C
     ·rw[Array.setIfInBounds_comm _ _ f,<-pG M]
      exact HK⟩
theorem GJ{T c:Nat}{K:Fa->Obs->Prop}{E:Fr->Obs->Prop}:∀(l:List Oper) (k:Nat) (b:Array Bool) (fr:Fr) (ob:Obs),(∀j,j<l.length->l[j]?=ops[k+j]?)->Closed ops b->vS ops T l.length k b=true ->
  (∀fr ob,Closed ops (nF l.length k b)->E fr ob->mL P nt ops T K c (nF l.length k b) (C7 fr) ob)->LexD P nt ops E l fr ob->mL P nt ops T K (c+l.length) b (C7 fr) ob
 | [],k,b,fr,ob,hl,hc,hB,hE,h=>hE fr ob hc h
 | o::l,k,b,fr,ob,hl,hc,hB,hE,h=>by
  have D:ops[k]?=some o:=by simpa using (hl 0 (by simp)).symm
  simp only[B31,vS,D,B24,B60]at hB;obtain⟨⟨⟨L,v⟩,I⟩,x⟩:=hB;have w:k∈Region.ready .any ops b:=by simpa using L
  have z:∀j,j<l.length->l[j]?=ops[k+1+j]?:=fun j J=>by have:=hl (j+1) (by simpa using J);simpa[Nat.add_assoc,Nat.add_comm 1 j] using this
  have M:turns o.op=false:=by
   cases C:turns o.op
   ·rfl
   ·simp[tn,C]at v
  simp only[LexD]at h;rw[M]at h;simp only[cond]at h;obtain⟨s,d,G,N,F⟩:=h;have t:∀j q,ops[j]?=some q->j≠k->b.getD j true=false->cond (tn T j q) (Bef ops j k) (q.after.toList.any (fun e=>Region.binds .any e&&Nat.beq e.on k)||j7 ops o q)=true:=by
   intro j q f g p;have A:j<ops.size:=(B39.1 f).1;have:=B27.1 I j (B44.2 A);rw[P3 g,p,f]at this;simp only[B83]at this;exact this
  show mL P nt ops T K (c+(l.length+1)) b (C7 fr) ob;rw[<-Nat.add_assoc];refine MW D v G (c+l.length) b _ ob hc ?_ ?_ w N ?_
  ·intro j q f g p u;have:=t j q f g p;rw[u]at this;exact this
  ·intro j q f g p u;have:=t j q f g p;rw[u]at this;simp only[cond,B63,List.any_eq_true,B24]at this;rcases this with ⟨e,H,hb,B⟩ | h
   ·exact .inl ⟨e,H,hb,B49 B⟩
   ·exact .inr h
  ·rw[<-bD];exact GJ l (k+1) _ _ ob z (L3 hc w) x hE F
theorem BA{id:Nat}{l:List Oper}(n:Nat){C:Oper}{fr:Fr}{ob:Obs}{Q:Post}(hm:P.follows .mixedOrders=true)(H:JF nt l n=true)(hc:l[n]?=some C)
  (h:LexD P nt l.toArray (fun fr ob=>StepG P nt l.toArray C (C7 fr) ob (fun φ' ob'=>∃fr',φ'=C7 fr'/\LexD P nt l.toArray (fun fr ob=>Q .normal fr ob) (l.drop (n+1)) fr' ob')) (l.take n) fr ob):WpC P nt (.region id l.toArray true) fr ob Q:=by
 intro S G a w N T;unfold JF at H;simp only[B24]at H;obtain⟨⟨⟨⟨⟨⟨⟨b1,b2⟩,b3⟩,b4⟩,b5⟩,b6⟩,D⟩,E⟩:=H;have Z:n+1<=l.length:=Nat.le_of_ble_eq_true b3;have c:(l.take n).length=n:=B49 b4;have u:∀(j t:Nat),(l.toArray[j]?).bind (fun o=>o.dst)=some t->t<nt:=by
  intro j t V;cases A:l.toArray[j]? with
  | none=>simp[A]at V
  | some o =>
   simp[A]at V;have z:o∈l:=by
    rw[B45]at A;exact B43 A
   have:=B27.1 b2 o (by simpa using z);rw[V]at this;simpa using this
 refine wp_region_any hm ?_;have I:Closed l.toArray (Array.replicate l.length false):=by
  intro j o A M;simp only[B35]at M;rcases Nat.lt_or_ge j l.length with F | F
  ·simp[F]at M
  ·simp[F]at M
 have R:l.toArray[n]?=some C:=by rw[B45];exact hc
 have B:tn n n C=true:=by unfold tn;rw[Nat.beq_refl];rfl
 have key:mL P nt l.toArray n (fun φ ob=>∃fr',φ=C7 fr'/\Q .normal fr' ob) ((l.drop (n+1)).length+1+(l.take n).length) (Array.replicate l.length false) (C7 fr) ob:=by
  refine GJ (l.take n) 0 _ fr ob (fun j Y=>?_) I (by rw[c];exact b1) (fun fr ob f X=>?_) h
  ·rw[B70,B45,B78 (by rw[c]at Y;exact Y)]
  ·rw[c]at f ⊢;have W:n∈Region.ready .any l.toArray (nF n 0 (Array.replicate l.length false)):=by simpa using b6
   have q:=L3 f W;refine⟨fun J=>(by rw[J]at W;cases W),fun j L=>?_⟩;have K:j=n:=B49 (B27.1 b5 j L);subst K;refine⟨C,R,?_⟩;rw[B];refine⟨X.1,fun S G a w N T=>jR (X.2 S G a w N T) ?_⟩;rintro v w' ⟨φ',ob',G',⟨fr',rfl,hL⟩,p⟩;exact⟨_,ob',G',AZ _ _ _ _ D (jP (l.drop (j+1)) (j+1) _ fr' ob' (fun i=>by rw[B85,B45]) q E hL),p⟩
 have hx:Below w.heap.size w { w with drawn:=w.drawn+1 }:=⟨rfl,rfl,rfl,B29 _,fun _ _=>rfl⟩
 have p:SimF P S (C7 fr) ob G a { w with drawn:=w.drawn+1 }:=(simF_iff.2 T).ext hx;have:=gU (Q:=PostOf P S Q) N u (fun φ ob' G' a' w' ⟨fr',J,hq⟩ U=>⟨fr',ob',G',hq,.inl (simF_iff.1 (J ▸ U))⟩) _ _ _ ob G a _ key p;have k:(l.drop (n+1)).length+1+(l.take n).length=l.length:=by rw[B47,c];omega
 rw[k]at this;simpa using this
theorem YE{a:Op}{ty:TypeId}{pos:String}{af:Array Edge}{d j t:Nat}{b x:Bool}{fr:Fr}{ob:Obs}{K:Fa->Obs->Prop}(c:(ops[j]?).bind (·.dst)=some t)(f:C7 fr t=some (.s (.one (.p (.v (.bool x))))))(hb:x=b)
  (h:qL P nt ops ⟨some d,a,ty,pos,af,none⟩ (C7 fr) ob K):StepG P nt ops ⟨some d,a,ty,pos,af,some (j,b)⟩ (C7 fr) ob K :=
 ⟨⟨t,_,c,f,by have:=Wants.val (b:=b) x;rwa[show (x == b)=true by simp[hb]]at this⟩,h.2⟩
variable {K:Fr->Obs->Prop}
theorem d_go{a:Op}{ty:TypeId}{pos:String}{af:Array Edge}{j t:Nat}{b x:Bool}(A:(ops[j]?).bind (·.dst)=some t)(D:C7 fr t=some (.s (.one (.p (.v (.bool x))))))(hb:x=b)(B:turns a=false)
  (k:LexD P nt ops K (⟨some d,a,ty,pos,af,none⟩::rest) fr ob):LexD P nt ops K (⟨some d,a,ty,pos,af,some (j,b)⟩::rest) fr ob:=by
 simp only[LexD,B,cond]at k ⊢;obtain⟨s,e,z,⟨u,f,g,E⟩,y⟩:=k;have C:Wanted ops (C7 fr) (⟨some d,a,ty,pos,af,some (j,b)⟩:Oper) true:=⟨t,_,A,D,by have:=Wants.val (b:=b) x;rwa[show (x == b)=true by simp[hb]]at this⟩
 rcases E with ⟨_,c,h,w⟩ | ⟨hw2,_⟩
 ·exact⟨s,e,z,⟨u,f,g,.inl ⟨C,c,fun i q m=>⟨(h i q m).1,B36.2 (.inr (by
   have:=(h i q m).2;unfold uses at this
   simpa[vP] using this))⟩,w⟩⟩,y⟩
 ·unfold Wanted at hw2;cases hw2
section
variable {P:Program}{nt:Nat}{fr gf:Fr}{ob:Obs}
theorem TC.forget_comm(k q:Nat)(t:TC):(t.forget q).forget k=(t.forget k).forget q:=by
 cases t with
 | p c=>rfl
 | buf a α d c l=>cases hb:Nat.beq a k<;>cases b:Nat.beq a q<;>simp[TC.forget,hb,b]
 | ref a o=>cases hb:Nat.beq a k<;>cases b:Nat.beq a q<;>simp[TC.forget,hb,b]
 | eref α d c x o=>rfl
 | «mut» a=>cases hb:Nat.beq a k<;>cases b:Nat.beq a q<;>simp[TC.forget,hb,b]
 | mref a d i o=>cases hb:Nat.beq a k<;>cases b:Nat.beq a q<;>simp[TC.forget,hb,b]
 | any=>rfl
 | clo f j h=>cases hb:(gM k j||gM k h)<;>cases b:(gM q j||gM q h)<;>simp[TC.forget,hb,b]
 | msl a d o n=>cases hb:Nat.beq a k<;>cases b:Nat.beq a q<;>simp[TC.forget,hb,b]
 | ifc t a o=>cases hb:Nat.beq a k<;>cases b:Nat.beq a q<;>simp[TC.forget,hb,b]
 | fnc f m=>rfl
 | fncE f α d c x=>rfl
 | full α d c l=>rfl
theorem S1.forget_comm(k q:Nat)(s:S1):(s.forget q).forget k=(s.forget k).forget q:=by
 cases s with
 | one t=>simp only[S1.forget,TC.forget_comm k q t]
 | agg a=>simp only[S1.forget,B94];congr 1;exact B80 fun t _=>TC.forget_comm k q t
theorem SV.forget_comm(k q:Nat)(s:SV):(s.forget q).forget k=(s.forget k).forget q:=by
 cases s with
 | s x=>simp only[SV.forget,S1.forget_comm k q x]
 | tup l=>simp only[SV.forget,B94];congr 1;exact B80 fun t _=>S1.forget_comm k q t
 | any=>rfl
 | un=>rfl
theorem Fr.forget_comm(k q:Nat)(fr:Fr):Fr.forget k (Fr.forget q fr)=Fr.forget q (Fr.forget k fr):=by
 unfold Fr.forget;rw[B94,B94];exact B80 fun p _=>by simp only[Function.comp];rw[SV.forget_comm]
theorem kR(k:Nat):∀(a:List Nat) (fr:Fr),B2 a (Fr.forget k fr)=Fr.forget k (B2 a fr)
 | [],fr=>rfl
 | q::a,fr=>by
  show B2 a (Fr.forget q (Fr.forget k fr))=Fr.forget k (B2 a (Fr.forget q fr));rw[Fr.forget_comm q k,kR k a]
theorem dA{k:Nat}:∀{a:List Nat} {fr:Fr},E8 a k=true->Fr.forget k (B2 a fr)=B2 a fr
 | [],fr,h=>by cases h
 | q::a,fr,h=>by
  show Fr.forget k (B2 a (Fr.forget q fr))=B2 a (Fr.forget q fr);by_cases b:k=q
  ·subst b;rw[kR,Fr.forget_idem]
  ·have c:E8 a k=true:=by
    rw[t8]at h ⊢;rcases B34.1 h with h | h
    ·exact absurd h b
    ·exact h
   exact dA c
theorem pI{a:List Nat}(k:Nat)(b:E8 a k=true)(h:Tail (B2 a gf) fr):Tail (B2 a gf) (Fr.forget k fr):=by
 have:=aK k h
 rwa[dA b]at this
theorem B7:∀{ks:List Nat} {gf:Fr},High gf->High (B2 ks gf)
 | [],gf,h=>h
 | k::ks,gf,h=>B7 (ks:=ks) (P1 (k:=k) h)
theorem kS:∀{ks:List Nat} {gf:Fr} {i:Nat} {s:SV},C7 (B2 ks gf) i=some s->∃s0,C7 gf i=some s0/\∀(b:Rd) (G:Gh) (u:Value),s0.rep b G u->s.rep b G u
 | [],gf,i,s,h=>⟨s,h,fun _ _ _ h=>h⟩
 | k::ks,gf,i,s,h=>by
  obtain⟨s1,a,d⟩:=kS (ks:=ks) (gf:=Fr.forget k gf) h;rw[K5]at a;cases c:C7 gf i with
  | none=>rw[c]at a;cases a
  | some s0 =>
   rw[c]at a;cases a;exact⟨s0,rfl,fun b G u e=>d b G u (SV.rep_forget (G':=G) (fun _ _=>rfl) e)⟩
theorem B20(d:List Nat){l:Fr}{ob':Obs}(j:FrLe fr l)(g:High gf)(p:Tail gf fr)(m:∀k o,B0 ob' k=some o->B0 ob k=some o):Sees P nt fr ob (l++B2 d gf) ob':=by
 refine (A91 j g p m).trans ?_;intro S G a w q h;refine⟨G,{ h with facts:=fun i s b=>?_ }⟩;rw[V6]at b;cases c:C7 l i with
 | some s0 =>
  rw[c]at b;have b:some s0=some s:=b;cases b;exact h.facts i _ (by rw[V6,c];rfl)
 | none =>
  rw[c]at b;have b:C7 (B2 d gf) i=some s:=b;obtain⟨s0,e,f⟩:=kS b;exact f _ _ _ (h.facts i s0 (by rw[V6,c];exact e))
end
def TC.ren(j k:Nat):TC->TC
 | .buf a α d c g=>cond (Nat.beq a j) (.buf k α d c g) (.buf a α d c g)
 | .ref a off=>cond (Nat.beq a j) (.ref k off) (.ref a off)
 | .mut a=>cond (Nat.beq a j) (.mut k) (.mut a)
 | .mref a d i off=>cond (Nat.beq a j) (.mref k d i off) (.mref a d i off)
 | .msl a d off n=>cond (Nat.beq a j) (.msl k d off n) (.msl a d off n)
 | .ifc t a off=>cond (Nat.beq a j) (.ifc t k off) (.ifc t a off)
 | t=>t
def Ob.ren(j k:Nat):Ob->Ob
 | .box d=>.box (d.map (TC.ren j k))
 | .tbx e d=>.tbx e (d.map (TC.ren j k))
 | .tarr n f d=>.tarr n f (d.map (TC.ren j k))
 | .growA e α f c h p d=>.growA e α f c h p (d.map (TC.ren j k))
 | .growT e n f d=>.growT e n f (d.map (TC.ren j k))
 | o=>o
theorem B00{g:Rd}{G:Gh}{j k:Nat}(d:G k=G j):∀{t:TC} {u:Value},t.rep g G u->(t.ren j k).rep g G u
 | .p c,u,h=>h
 | .buf k' α ec c xs,u,h=>by
  simp only[TC.ren];cases hb:Nat.beq k' j
  ·exact h
  ·have e:k'=j:=B49 hb;subst e;simp only[cond,TC.rep];rw[d];exact h
 | .ref k' off,u,h=>by
  simp only[TC.ren];cases hb:Nat.beq k' j
  ·exact h
  ·have e:k'=j:=B49 hb;subst e;simp only[cond,TC.rep];rw[d];exact h
 | .eref _ _ _ _ _,u,h=>h
 | .mut k',u,h=>by
  simp only[TC.ren];cases hb:Nat.beq k' j
  ·exact h
  ·have e:k'=j:=B49 hb;subst e;simp only[cond,TC.rep];rw[d];exact h
 | .mref k' ec i off,u,h=>by
  simp only[TC.ren];cases hb:Nat.beq k' j
  ·exact h
  ·have e:k'=j:=B49 hb;subst e;simp only[cond,TC.rep];rw[d];exact h
 | .any,u,h=>h
 | .clo _ _ _,_,h=>h
 | .msl k' ec off n,u,h=>by
  simp only[TC.ren];cases hb:Nat.beq k' j
  ·exact h
  ·have e:k'=j:=B49 hb;subst e;simp only[cond,TC.rep];rw[d];exact h
 | .full _ _ _ _,u,h=>h
 | .ifc t k' off,u,h=>by
  simp only[TC.ren];cases hb:Nat.beq k' j
  ·exact h
  ·have e:k'=j:=B49 hb;subst e;simp only[cond,TC.rep];rw[d];exact h
 | .fnc _ _,u,h=>h
 | .fncE _ _ _ _ _,u,h=>h
theorem ObOk.ren{S:Ctx}{r:Rd}{G:Gh}{w:World}{u:Value}{j k:Nat}{o:Ob}(l:G k=G j)(h:ObOk S r G w u o):ObOk S r G w u (o.ren j k):=by
 cases o with
 | box m=>obtain⟨b,g,t,a,d,f⟩:=h;exact⟨b,g,t,a,d,f.map (TC.ren j k) fun _ _=>B00 l⟩
 | tbx e m=>obtain⟨b,g,a,d,f⟩:=h;exact⟨b,g,a,d,f.map (TC.ren j k) fun _ _=>B00 l⟩
 | tarr n i m=>obtain⟨b,g,t,a,y,d,z,f⟩:=h;exact⟨b,g,t,a,y,d,by simpa using z,f.map (TC.ren j k) fun _ _=>B00 l⟩
 | arr α i c s=>exact h
 | spare n i e=>exact h
 | grow e α i c s=>exact h
 | map κ B A=>exact h
 | growA e α i c s p m=>obtain⟨g,a,d,f,q,v,x⟩:=h;exact⟨g,a,d,f,by simpa using q,v,x.map (TC.ren j k) fun _ _=>B00 l⟩
 | growT e n i m=>obtain⟨g,a,d,f,q⟩:=h;exact⟨g,a,d,by simpa using f,q.map (TC.ren j k) fun _ _=>B00 l⟩
def ddF:Fr->Fr
 | []=>[]
 | (i,s)::r=>(i,s)::(ddF r).filter fun p=>!(Nat.beq p.1 i)
theorem nO{i q:Nat}(h:i≠q):∀(fr:Fr),C7 (fr.filter fun p=>!(Nat.beq p.1 i)) q=C7 fr q
 | []=>rfl
 | (j,s)::r=>by
  rw[B99];by_cases b:j=i
  ·subst b;rw[A6 (by simp),B5 h,nO h r]
  ·rw[A5 (by simp[P3 b])];by_cases a:j=q
   ·subst a;rw[C2,C2]
   ·rw[B5 a,B5 a,nO h r]
theorem zF:∀(fr:Fr) (q:Nat),C7 (ddF fr) q=C7 fr q
 | [],q=>rfl
 | (i,s)::r,q=>by
  unfold ddF;by_cases h:i=q
  ·subst h;rw[C2,C2]
  ·rw[B5 h,B5 h,nO h,zF r q]
theorem mem_dd:∀{fr:Fr} {p:Nat×SV},p∈ddF fr->C7 fr p.1=some p.2
 | (i,s)::r,p,h=>by
  unfold ddF at h;rcases B34.1 h with rfl | h
  ·exact C2 _ _ _
  ·obtain⟨c,b⟩:=List.mem_filter.1 h;have a:i≠p.1:=fun e=>by rw[e,Nat.beq_refl]at b;cases b
   rw[B5 a];exact mem_dd c
theorem GK{k:Nat}:∀{fr:Fr},(∀p∈fr,p.2.free k=true)->H7 k fr=true
 | [],_=>rfl
 | (i,s)::r,h=>by
  show (SV.free k s&&H7 k r)=true;rw[B24];exact⟨h (i,s) (B52 ..),GK fun p a=>h p (B46 _ a)⟩
theorem zG{U:Fr}{k:Nat}{o:Oper}{ob ob':Obs}{s:SV}(h:∀b,AP U b->H7 k b=true->EffV P o b ob s b ob'):AQ P nt o U [k] [] ob ob' s:=by
 intro b y c S G a w F D;have l:Sim P S (ddF b) ob G a w:=D.weaken fun i s A=>by rwa[zF]at A
 have j:H7 k (ddF b)=true:=GK fun p B=>c k (by simp) p.1 p.2 (mem_dd B) (by simp);have:=h (ddF b) (fun t s m=>by rw[zF];exact y t s m) j S G a w l;have g:∀(v:Value) (w':World),(∃G',Sim P S (ddF b) ob' G' a w'/\s.rep (D9 (Mut S ob' G') w') G' v)->∃G',Sim P S (u5 [] b) ob' G' a w'/\∀d,o.dst=some d->s.rep (D9 (Mut S ob' G') w') G' v:=fun v w' ⟨G',h,C⟩=>⟨G',h.weaken (fun t x m=>by rw[zF];exact (SD.1 m).2),fun _ _=>C⟩
 unfold Does at this ⊢;generalize (execOp a.eval _).run P w=r at *;cases r with
 | ok n w' =>
  cases n<;>simp only at this ⊢<;>try exact this.elim
  case value v=>exact g v w' this
  case skip=>exact g undef w' this
  case enter f args=>exact this.mono fun e q ⟨v,z,E⟩=>⟨v,z,g v q E⟩
 | halt x w'=>exact this
section
variable {P:Program}{nt:Nat}{fr gf:Fr}{ob:Obs}
theorem TC.free_forget(k:Nat)(t:TC):(t.forget k).free k=true:=by
 cases t with
 | p c=>rfl
 | buf a α b c h=>cases hb:Nat.beq a k<;>simp[TC.forget,TC.free,hb]
 | ref a o=>cases hb:Nat.beq a k<;>simp[TC.forget,TC.free,hb]
 | eref α b c x o=>rfl
 | «mut» a=>cases hb:Nat.beq a k<;>simp[TC.forget,TC.free,hb]
 | mref a b i o=>cases hb:Nat.beq a k<;>simp[TC.forget,TC.free,hb]
 | any=>rfl
 | clo f g d =>
  simp only[TC.forget];cases hb:(gM k g||gM k d)
  ·rw[B89]at hb;simp[TC.free,hb.1,hb.2]
  ·rfl
 | msl a b o n=>cases hb:Nat.beq a k<;>simp[TC.forget,TC.free,hb]
 | ifc t a o=>cases hb:Nat.beq a k<;>simp[TC.forget,TC.free,hb]
 | fnc f j=>rfl
 | fncE f α b c x=>rfl
 | full α b c h=>rfl
theorem S1.free_forget(k:Nat)(s:S1):(s.forget k).free k=true:=by
 cases s with
 | one t=>exact TC.free_forget k t
 | agg b =>
  show (b.map (TC.forget k)).all (TC.free k)=true;rw[List.all_map,B27];exact fun t _=>TC.free_forget k t
theorem SV.free_forget(k:Nat)(s:SV):(s.forget k).free k=true:=by
 cases s with
 | s x=>exact S1.free_forget k x
 | tup l =>
  show (l.map (S1.forget k)).all (S1.free k)=true;rw[List.all_map,B27];exact fun t _=>S1.free_forget k t
 | any=>rfl
 | un=>rfl
theorem u6{k:Nat}{ks:List Nat}{gf:Fr}(a:E8 ks k=true):∀p∈B2 ks gf,p.2.free k=true:=by
 rw[<-dA a];intro p b;obtain⟨q,_,rfl⟩:=B62.1 b;exact SV.free_forget k q.2
theorem GL{l:List Oper}{ops:Array Oper}{a:Sv}{fr gf:Fr}:∀{b:Ed},qN l ops a fr b=true->(∀e∈b,∀k∈e.2.1,∀p∈gf,p.2.free k=true)->qN l ops a (fr++gf) b=true
 | [],_,_=>rfl
 | (e,ks,kills)::r,h,hg=>by
  simp only[qN,B24]at h ⊢;refine⟨?_,GL h.2 fun f g=>hg f (B46 _ g)⟩;rw[B27]at h ⊢;intro k d;have c:=h.1 k d;rw[B24]at c ⊢;refine⟨c.1,?_⟩;rw[C06,B24];refine⟨c.2,B27.2 fun p i=>?_⟩;rw[hg (e,ks,kills) (B52 ..) k d p i,Bool.or_true]
theorem vY{ks:List Nat}{l:List Oper}{E:List Nat}{c:Ed}{T2:List (Nat×List Nat)}{Q:Post}{b:Sv}{M:Mo}{d:Obs}(g:(c.all fun e=>e.2.1.all (E8 ks))=true)(f:(qN l l.toArray b fr c&&(List.range l.length).all fun j=>(Q8 b j).isSome)=true)(h:V7 M E=some d)
  (q:iQ P nt l (fr++B2 ks gf) E c b M T2)(t:Q .normal (u5 (JJ c) (mR l b (fr++B2 ks gf))) d):mJ P nt l (fr++B2 ks gf) E c (Fin2 P nt l (fr++B2 ks gf) E c T2 Q) [] b M:=by
 rw[B24]at f;refine xB ?_ h q t;rw[B24];refine⟨GL f.1 fun e u k v p w=>?_,f.2⟩;exact u6 (B27.1 (B27.1 g e u) k v) p w
end
def Cell.flat:Cell->Bool
 | .v _=>true
 | _=>false
def PV.flat:PV->Bool
 | .one c=>c.flat
 | .agg b=>b.all Cell.flat
theorem kT{x y:Code}{Q2 Q3:Post}(fr':Fr)(ob':Obs)(b:WpC P nt x fr ob (gN (fun f o=>Sees P nt f o fr' ob') Q3))(k:WpC P nt y fr' ob' Q2):WpC P nt x fr ob (gN (fun f o=>WpC P nt y f o Q2) Q3) :=
 b.mono fun e f o a=>by
  cases e with
  | normal=>exact C3 a k
  | _=>exact a
theorem MX{x y:Code}{Q2 Q3:Post}{X:Type}(E:X->Fr×Obs)(I:X->Prop)(d:WpC P nt x fr ob (gN (fun f o=>∃v,I v/\Sees P nt f o (E v).1 (E v).2) Q3))(k:∀v,I v->WpC P nt y (E v).1 (E v).2 Q2):WpC P nt x fr ob (gN (fun f o=>WpC P nt y f o Q2) Q3) :=
 d.mono fun e f o a=>by
  cases e with
  | normal=>obtain⟨v,c,b⟩:=a;exact C3 b (k v c)
  | _=>exact a
theorem e_cut_g{x Y:Operand}{k:Nat}{α:Type}{d D:Nat}{c:α->Nat->Cell}{C:List α}{t e:TypeId}{X:IntKind}{j:Int}[ht:TySl P t e d D](hx:opv fr x=some (.s (.one (.mut k))))(hk:B0 ob k=some (.grow e α d c C))
  (O:opv fr Y=some (H6 (.int X j)))(Z:0<=j)(h2:j<=C.length)(hp:Nat.blt k 1000000=true) :
  EffV P ⟨dst,.slice t x none (some Y) none,ty,pos,af,gd⟩ fr ob (.s (.one (.mut k))) (Fr.forget k fr) ((k,.grow e α d c (C.take j.toNat))::Obs.forget k ob):=by
 intro S G a w h;obtain⟨N,ac⟩:=G9 h hx;obtain⟨ws,A,ab,U⟩:=h.obs k _ hk;have R:j.toNat<=C.length:=by omega
 have T:j.toNat*d<=C.length*d:=B56 _ R;obtain⟨F,L,f,p⟩:∃F,(execOp a.eval ⟨dst,.slice t x none (some Y) none,ty,pos,af,gd⟩).run P w=.ok (.value F) w/\blk F=blk (G k)/\w.ownsRow S.B e d F j.toNat (ws.take (j.toNat*d)):=by
  obtain⟨H,I⟩:=ht.elem;rcases A.2 with ⟨J,ae⟩ | ⟨g,cap,cur,J,hbg,hgh,hnc,hcm,hcs,htake⟩
  ·refine⟨.slice none 0 0,?_,by rw[J],?_⟩
   ·simp only[execOp,N,J,E9 h O,Option.map_some,Option.map_none];refine K2 ?_;simp only[Instr.sliceAt,Sem.run_bind,run_underlying ht.out.1,Result.andThen_ok];rw[run_slice_h w t none 0 0 H X j Z (by omega),I,I7 ht.size];have Q:j.toNat=0:=by omega
    simp[sliced,Q]
   ·have Q:j.toNat=0:=by omega
    rw[Q];simp only[Nat.zero_mul,B68];exact World.ownsRow_nil w _ _ _
  ·refine⟨.slice (some ⟨g,0,none⟩) j.toNat cap,?_,by rw[J];rfl,?_⟩
   ·simp only[execOp,N,J,E9 h O,Option.map_some,Option.map_none];refine K2 ?_;simp only[Instr.sliceAt,Sem.run_bind,run_underlying ht.out.1,Result.andThen_ok];rw[run_slice_h w t (some ⟨g,0,none⟩) C.length cap H X j Z (by omega),I,I7 ht.size];simp[sliced,Addr.add_lit]
   ·refine⟨by rw[B42,A.1];omega,.inr ⟨g,cap,cur,rfl,hbg,hgh,by omega,hcm,hcs,?_⟩⟩;rw[<-htake,List.take_take,Nat.min_eq_left T]
 have M:=h.turn (o':=.grow e α d c (C.take j.toNat)) (u':=F) (w1:=w) (by simpa using hp) hk rfl rfl rfl (B29 _) (fun _ _ _=>rfl) (fun b i z hr=>hr.1)
  (fun b hb=>.inl (by rw[<-f];exact hb)) (fun b i hb ho=>⟨by rw[<-f];exact ho.1,trivial⟩)
  (fun rd K G' ad=>by
   have E:(C.take j.toNat).length=j.toNat:=by rw[B42];omega
   refine⟨ws.take (j.toNat*d),by rw[E];exact p,by rw[E];omega,?_⟩;intro i hi q hq;rw[E]at hi;obtain⟨z,V,W⟩:=U i (by omega) q hq;refine⟨z,?_,?_⟩
   ·have:(i+1)*d<=j.toNat*d:=B56 _ hi;rw[B73,Nat.one_mul]at this;rw[List.getElem?_take,A5 (by omega)];exact V
   ·rw[List.getElem_take];exact Cell.rep_mono K _ _ W)
 exact H4 (w':=w) (v:=F) L ⟨upd G k F,M,(H3 _ _ _).symm,nE p⟩
abbrev gV(T:TypeId)(e:Int):List PanicEntry:=[{ v:=.iface T (.int .i64 e),recovered:=false }]
def metXP(P:Program)(T:TypeId)(fn:Func)(f:List Nat)(gf:Fr)(b:List S1->Obs->Prop)(d:Int->Obs->Prop):Post
 | .normal,fr,ob | .ret,fr,ob=>∃g ob',RetS P fn fr ob g/\Tail (B2 f gf) fr/\(∀k o,B0 ob' k=some o->B0 ob k=some o)/\b g ob'
 | .panic ch,fr,ob=>∃e ob',ch=gV T e/\Tail (B2 f gf) fr/\(∀k o,B0 ob' k=some o->B0 ob k=some o)/\d e ob'
 | _,_,_=>False
def MetX(P:Program)(T:TypeId)(f:FuncId)(args:List S1)(gf:Fr)(ob:Obs)(j:List Nat)(g:List S1->Obs->Prop)(h:Int->Obs->Prop):Prop :=
 Callable P f/\(High gf->∀S G a w (b:List Value),Sim P S gf ob G a w->All2 (S1.rep (D9 (Mut S ob G) w) G) args b ->
  Calls P f b.toArray w (fun e w'=>(∃v l ob' G',e=.returned v/\g l ob'/\bF (D9 (Mut S ob' G') w') G' l v/\Sim P S (B2 j gf) ob' G' a w') \/
   ∃c ob' G',e=.panicked (gV T c)/\h c ob'/\Sim P S (B2 j gf) ob' G' a w'))
variable {T:TypeId}
theorem Met.toX{f:FuncId}{b:List S1}{gf:Fr}{j:List Nat}{c:List S1->Obs->Prop}{g:Int->Obs->Prop}(h:Met P f b gf ob j c):MetX P T f b gf ob j c g :=
 ⟨h.1,fun p S G a w d q ha=>(h.2 p S G a w d q ha).mono fun e w' k=>.inl k⟩
theorem MetX.intro{f:FuncId}{fn:Func}{c:Code}{args:List S1}{gf:Fr}{F:List Nat}{A:List S1->Obs->Prop}{J:Int->Obs->Prop}(hf:P.funcs[f]?=some fn)(I:(fn.name == "runtime.NumGoroutine")=false)(hb:fn.body=some c)(Q:Nat.ble args.length fn.ntmps=true)(ad:Nat.ble fn.ntmps 1000000=true)
  (h6:WpC P fn.ntmps c (cK 0 args++gf) ob (metXP P T fn F gf A J)):MetX P T f args gf ob F A J:=by
 refine⟨⟨fn,hf,I,by simp[hb]⟩,fun H S G a w q h B=>?_⟩;have ag:q.length=args.length:=B.length.symm;have af:args.length<=fn.ntmps:=by simpa using Q
 have ac:fn.ntmps<=1000000:=by simpa using ad
 let S':Ctx:={ S with nt:=fn.ntmps,df:=[] }
 have hs:Sim P S' (cK 0 args++gf) ob G { tmps:=q.toArray++Array.replicate (fn.ntmps-q.toArray.size) undef,defers:=[] } w:=by
  refine { h with nt:=by simp[S'];omega,ntb:=ac,defers:=rfl,facts:=?_ };intro i s y;rw[V6]at y;cases C:C7 (cK 0 args) i with
  | some s0 =>
   rw[C]at y;have y:some s0=some s:=y;cases y;obtain⟨_,p,U,rfl⟩:=rP 0 args i _ C;obtain⟨u,hu,hr⟩:=B.get (i-0) p U;have ab:i<q.length:=(B28.1 hu).1;have N:(q.toArray++Array.replicate (fn.ntmps-q.toArray.size) undef).getD i undef=u:=by
    rw[B35,Array.getElem?_append_left (by simpa using ab)];simpa using congrArg (fun x=>x.getD undef) hu
   rw[Ctx.sl_lt (by omega),N];exact hr
  | none =>
   rw[C]at y;have y:C7 gf i=some s:=y;have h7:=H i s y;have M:=h.facts i s y;rw[Ctx.sl_ge h7]at M ⊢;exact M
 refine bC hf hb (wp_mono (h6 S' _ _ w rfl hs) ?_);rintro e K w' ⟨fr',ob',G',Y,m⟩;have E:∀(ds:List Deferred) (w':World),Sim P { S' with df:=ds } fr' ob' G' K w'->∀j:Obs,Tail (B2 F gf) fr'->(∀k o,B0 j k=some o->B0 ob' k=some o)->Sim P S (B2 F gf) j G' a w':=by
  intro ds w' m j C L
  have W:=(m.weaken (fr':=B2 F gf) (fun i s y=>by
   obtain⟨s0,Z⟩:=bG y
   exact C i s (H i s0 Z) y)).weakenO L
  refine { W with nt:=h.nt,ntb:=h.ntb,defers:=h.defers,facts:=fun i s y=>?_ };obtain⟨s0,Z⟩:=bG y;have h7:=H i s0 Z;have M:=W.facts i s y;rw[Ctx.sl_ge h7]at M ⊢;exact M
 have fin:(∃rs j,RetS P fn fr' ob' rs/\Tail (B2 F gf) fr'/\(∀k o,B0 j k=some o->B0 ob' k=some o)/\A rs j)->∀ds w',Sim P { S' with df:=ds } fr' ob' G' K w'->∃v,(results fn K.tmps).run P w'=.ok v w'/\((∃X rs ob' G',Ending.returned v=.returned X/\A rs ob'/\bF (D9 (Mut S ob' G') w') G' rs X/\Sim P S (B2 F gf) ob' G' a w')\/∃c ob' G',Ending.returned v=.panicked (gV T c)/\J c ob'/\Sim P S (B2 F gf) ob' G' a w'):=by
  rintro⟨rs,j,hr,C,L,U⟩ ds w' m;obtain⟨v,hv,V⟩:=hr _ G' K w' m;have R:∀b i,Mut S' j G' b i->Mut S' ob' G' b i:=by
   rintro b i (hm | ⟨k,o,hk,ae⟩)
   ·exact .inl hm
   ·exact .inr ⟨k,o,L k o hk,ae⟩
  exact⟨v,hv,.inl ⟨v,rs,j,G',rfl,U,SV.rep_mono (fun b i z hz=>⟨hz.1,fun hm=>hz.2 (R b i hm)⟩) V,E ds w' m j C L⟩⟩
 cases e with
 | normal=>exact m.leave rfl (fin Y)
 | ret=>exact m.leave rfl (fin Y)
 | panic ch =>
  obtain⟨c,j,rfl,C,L,U⟩:=Y;have m:=m.resolve_right fun h=>nomatch h.1;show LeavesInM Fence.wide 0 P fn K.tmps _ K.defers _ w';rw[m.defers];exact .inr ⟨c,j,G',rfl,U,E [] w' m j C L⟩
 | _=>exact Y.elim
theorem I3{fn:Func}{d:List Nat}{gf:Fr}{a:List S1->Obs->Prop}{b:Int->Obs->Prop}{c:List S1}{ob':Obs}(h:RetS P fn fr ob c)(f:Tail (B2 d gf) fr)(g:∀k o,B0 ob' k=some o->B0 ob k=some o)(i:a c ob'):metXP P T fn d gf a b .ret fr ob :=
 ⟨c,ob',h,f,g,i⟩
theorem l_metX{f:FuncId}{j:List Operand}{H:Array TypeId}{ty:TypeId}{pos:String}{af:Array Edge}{args:List S1}{F:List Nat}{z:List S1->Obs->Prop}{M:Int->Obs->Prop}
  (V:MetX P T f args (dN fr) ob F z M)(ha:r7 fr j=some args)(Y:j.all F9=true)(Z:Nat.blt d nt=true)
  (kp:∀e ob',M e ob'->Q (.panic (gV T e)) (B2 F fr) ob')
  (kk:∀N ob',z N ob'->WpL P nt ops rest ((d,kQ N)::B2 F fr) ob' Q):WpL P nt ops (⟨some d,.call ⟨.value (.func f),j.toArray,H⟩,ty,pos,af,none⟩::rest) fr ob Q:=by
 intro S G a w W h;have D:=j2 h j args ha Y;obtain⟨E,I⟩:∃E:Nat->Value,E=fun i=>S.sl a (i-1000000):=⟨_,rfl⟩
 let S':Ctx:={ S with gv:=E }
 have C:High (dN fr):=fun i s J=>(T8 fr i s J).1;have g:∀i s,C7 (dN fr) i=some s->s.rep (D9 (Mut S' ob G) w) G (S'.sl a i):=by
  intro i s J;obtain⟨B,O⟩:=T8 fr i s J;rw[Ctx.sl_ge B];show s.rep _ _ (E i);have e:=congrFun I i;rw[e];exact h.facts (i-1000000) s O
 have hs:Sim P S' (dN fr) ob G a w:={ h with facts:=g }
 have m:=V.2 C S' G a w _ hs D;have x:∀{ob':Obs} {G':Gh} {w':World},Sim P S' (B2 F (dN fr)) ob' G' a w'->Sim P S (B2 F fr) ob' G' a w':=by
  intro ob' G' w' b;have q:∀i s,C7 (B2 F fr) i=some s->s.rep (D9 (Mut S ob' G') w') G' (S.sl a i):=by
   intro i s J;have B:=b.facts (i+1000000) s (by rw[Z6];exact kP J);have O:1000000<=i+1000000:=Nat.le_add_left _ _;rw[Ctx.sl_ge O]at B;have B:s.rep (D9 (Mut S ob' G') w') G' (E (i+1000000)):=B;have e:=congrFun I (i+1000000);simp only[Nat.add_sub_cancel]at e;rw[e]at B;exact B
  exact { b with facts:=q }
 refine wpList_plain rfl fun K X=>?_;have he:(execOp a.eval ⟨some d,.call ⟨.value (.func f),j.toArray,H⟩,ty,pos,af,none⟩).run P w=.ok (.enter f (j.map a.eval).toArray) w:=by
  have:=J9 (P:=P) (f:=f) (args:=(j.map a.eval).toArray) (w:=w) V.1;have hm:j.toArray.map a.eval=(j.map a.eval).toArray:=by simp
  simp only[execOp,resolve,Act.eval,Deferred.ofValue,Sem.run_bind,Sem.run_pure,Result.andThen_ok,invoke];rw[show (#[]:Array Value)++Array.map a.eval j.toArray++#[]=(j.map a.eval).toArray by rw[<-hm];simp];exact this
 unfold Oper.wp;rw[he];refine m.mono ?_;rintro e w' (⟨v,N,ob',G',rfl,U,L,b⟩ | ⟨c,ob',G',rfl,U,b⟩)
 ·have R:d<S.nt:=by rw[W];simpa using Z
  exact X _ _ (kk N ob' U S G' _ w' W ((x b).put R L))
 ·exact⟨_,ob',G',kp c ob' U,.inl (x b)⟩
section
variable {P:Program}{dst:Option Tmp}{ty:TypeId}{pos:String}{af:Array Edge}{gd:Option (Nat×Bool)}{fr:Fr}{ob:Obs}
def j8{κ:Type}[DecidableEq κ]:List (κ×Cell)->κ->Cell->List (κ×Cell)
 | [],a,c=>[(a,c)]
 | (k,x)::r,a,c=>if k=a then (k,c)::r else (k,x)::j8 r a c
theorem xD{κ:Type}[DecidableEq κ]{a:κ}{c:Cell}:∀{b:List (κ×Cell)},M5 b a=none->j8 b a c=b++[(a,c)]
 | [],_=>rfl
 | (k,x)::r,h=>by
  unfold M5 at h;unfold j8;split at h
  ·cases h
  ·rename_i d;rw[A6 d,xD h];rfl
theorem MY{κ:Type}[DecidableEq κ]{g:κ->Value}{A:TypeDesc}(f:∀a,MapKept.IsKey A (g a))(l:∀a b,g a=g b->a=b){B:Rd}(a:κ){c:Cell}{u:Value}(D:c.rep B u):∀(d:List (κ×Cell)) (n:List MapEntry) (i:Nat),
  All2 (fun (q:κ×Cell) (e:MapEntry)=>e.key=g q.1/\q.2.rep B e.val) d n->M5 d a≠none ->
  ∃p v e,Instr.findNow A (g a) n i=some (some (i+p,v))/\n[p]?=some e/\e.key=g a/\All2 (fun (q:κ×Cell) (e:MapEntry)=>e.key=g q.1/\q.2.rep B e.val) (j8 d a c) (n.modify p fun e=>{ e with key:=g a,val:=u })
 | [],[],_,_,h=>absurd rfl h
 | [],_::_,_,h,_=>h.elim
 | _::_,[],_,h,_=>h.elim
 | (k,x)::d,e::n,i,h,hn=>by
  obtain⟨⟨w,G⟩,C⟩:=h;obtain⟨r,L,j⟩:=MapKept.sameNow_of_keys (f a) (f k);have o:Instr.sameNow A (g a) e.key=some r:=by rw[w];exact L
  by_cases t:k=a
  ·subst t;have:r=true:=j.2 rfl;subst this;refine⟨0,e.val,e,by simp[Instr.findNow,o],rfl,w,?_⟩;unfold j8;rw[A5 rfl];exact⟨⟨rfl,D⟩,C⟩
  ·have:r=false:=by
    cases r
    ·rfl
    ·exact absurd (l _ _ (j.1 rfl)).symm t
   subst this;have z:M5 d a≠none:=by
    intro F;apply hn;unfold M5;rw[A6 t];exact F
   obtain⟨p,v,E,H,I,J,K⟩:=MY f l a D d n (i+1) C z;refine⟨p+1,v,E,?_,by simpa using I,J,?_⟩
   ·simp only[Instr.findNow,o,H];rw[show i+1+p=i+(p+1) by omega]
   ·unfold j8;rw[A6 t];exact⟨⟨w,G⟩,K⟩
theorem MZ{x y v:Operand}{t kt:TypeId}{X:TypeDesc}{z:Value}{k:Nat}{κ:Type}[DecidableEq κ]{q:κ->Value}{A:List (κ×Cell)}(a0:κ){c:Cell}[ht:TyMap P t kt X z](V:opv fr x=some (.s (.one (.mut k))))(J:B0 ob k=some (.map κ q A))
  (W:opv fr y=some (H6 (q a0)))(T:opv fr v=some (.s (.one (.p c))))(Q:F9 v=true)(f:∀a,MapKept.IsKey X (q a))(B:∀a b,q a=q b->a=b) :
  Eff P ⟨none,.mapUpdate t x y v,ty,pos,af,gd⟩ fr ob fr ((k,.map κ q (j8 A a0 c))::ob):=by
 cases L:M5 A a0 with
 | none=>rw[xD L];exact MS a0 V J W T Q f B L
 | some c0 =>
  intro S G a w h;obtain⟨et,u1,Y,u3,u4⟩:=ht.out;obtain⟨R,_⟩:=G9 h V;obtain⟨b,E,l,H,I,ha⟩:=h.obs k _ J;rw[H]at R;have N:c.rep (D9 (Mut S ob G) w) (a.eval v):=U1 h T Q;obtain⟨p,v0,e,O,h5,h6,h7⟩:=MY f B a0 N A E.toList 0 ha (by rw[L];simp);rw[B70]at O;have F:(E[p]?.map (·.key)).getD (q a0)=q a0:=by
   rw[<-Array.getElem?_toList,h5];exact h6
  obtain⟨g5,g6⟩:=MapKept.heap_set (o':=.map (E.modify p fun e=>{ e with key:=q a0,val:=a.eval v }) l) I;have he:(execOp a.eval ⟨none,.mapUpdate t x y v,ty,pos,af,gd⟩).run P w=.ok .skip { w with heap:=w.heap.setIfInBounds b (.map (E.modify p fun e=>{ e with key:=q a0,val:=a.eval v }) l) }:=by
   simp only[execOp,R,E9 h W];simp only[Instr.mapUpdate,Sem.run_bind,run_underlying u1,Result.andThen_ok,MapKept.run_getObj_map I,MapKept.run_checkKey Y (f a0),MapKept.run_findKey Y O,F,MapKept.run_keyThatStays (f a0),MapKept.run_setObj_map _ I];rfl
  unfold Does;rw[he];have C:blk (G k)=some b:=by rw[H];rfl
  refine⟨G,h.write J C (fun i=>⟨C,trivial⟩) (fun i=>⟨C,trivial⟩) rfl rfl rfl (by simp) (fun j _ K=>g6 j K) ?_⟩;intro rd M;refine⟨b,_,_,H,g5,?_⟩;rw[Array.toList_modify];exact h7.mono fun _ _ ⟨Z,e2⟩=>⟨Z,Cell.rep_mono M _ _ e2⟩
theorem WJ{x y:Operand}{t yt:TypeId}{l m:List UInt8}(a:opv fr x=some (T0 l))(c:opv fr y=some (T0 m)):Neu P ⟨dst,.binOp .geq t x y yt,ty,pos,af,gd⟩ fr ob (fun d=>d=S6 (!Op.bytesLess l m)) :=
 cB a c (fun _=>rfl) (fun w=>by simp[binOp,Op.stringOp]) rfl
theorem NA{f:FuncId}{first:List Operand}{cs:List Cell}(d:cH fr first=some (cs.map PV.one))(g:first.all F9=true) :
  Neu P ⟨dst,.makeFunc (.func f) first.toArray #[],ty,pos,af,gd⟩ fr ob (fun l=>l=.s (.one (.fnc f cs))) :=
 E1 fun S G a w h=>by
  have i:=cI h first _ d g
  refine⟨.func (.func f) (first.map a.eval).toArray #[],?_,_,rfl,?_⟩
  ·simp[execOp,Instr.makeFunc]
  ·have key:∀{cs:List Cell} {b:List Value},All2 (PV.rep (D9 (Mut S ob G) w)) (cs.map PV.one) b->All2 (Cell.rep (D9 (Mut S ob G) w)) cs b:=by
    intro cs;induction cs with
    | nil=>intro b h;cases b;trivial;exact h.elim
    | cons c cs j =>
     intro b h;cases b with
     | nil=>exact h.elim
     | cons u b=>exact⟨h.1,j h.2⟩
   exact key i
theorem WK{b:Rd}:∀{a:List Cell} {c:List Value},All2 (Cell.rep b) a c->All2 (PV.rep b) (a.map PV.one) c
 | [],[],_=>trivial
 | [],_::_,h=>h.elim
 | _::_,[],h=>h.elim
 | _::_,_::_,h=>⟨h.1,WK h.2⟩
theorem n_callC{f:FuncId}{g:Operand}{j:Array Operand}{q:Array TypeId}{B:List Cell}{ps F:List PV}(E:FnOk P f (B.map PV.one++ps) (fun r=>r=F))(J:opv fr g=some (.s (.one (.fnc f B))))(ha:cH fr j.toList=some ps)(H:j.toList.all F9=true) :
  Neu P ⟨dst,.call ⟨.value g,j,q⟩,ty,pos,af,gd⟩ fr ob (fun N=>N=mZ F):=by
 intro S G a w h;obtain⟨z,C,D⟩:=G9 h J;have x:All2 (PV.rep (D9 (Mut S ob G) w)) (B.map PV.one++ps) (z++j.toList.map a.eval):=(WK D).append (cI h j.toList ps ha H);have m:=E.2 w (Mut S ob G) _ h.grdW (fun b i K=>h.mut_lt K) x;unfold Does;have I:(execOp a.eval ⟨dst,.call ⟨.value g,j,q⟩,ty,pos,af,gd⟩).run P w=.ok (.enter f (z++j.toList.map a.eval).toArray) w:=by
  have:=J9 (P:=P) (f:=f) (args:=(z++j.toList.map a.eval).toArray) (w:=w) E.1;simp only[execOp,resolve,C,Deferred.ofValue,Sem.run_bind,Sem.run_pure,Result.andThen_ok,invoke];rw[show z.toArray++Array.map a.eval j++#[]=(z++j.toList.map a.eval).toArray by simp];exact this
 rw[I];refine m.mono ?_;rintro e w' ⟨v,M,rfl,rfl,L,hb⟩;exact⟨v,rfl,hb,_,rfl,L.sv⟩
theorem JL{f:FuncId}{g:Operand}{d:Array Operand}{m:Array TypeId}{ps rs:List PV}(q:FnOk P f ps (fun r=>r=rs))(z:opv fr g=some (H6 (.func (.func f) #[] #[])))(ha:cH fr d.toList=some ps)(s:d.toList.all F9=true) :
  Neu P ⟨dst,.call ⟨.value g,d,m⟩,ty,pos,af,gd⟩ fr ob (fun E=>E=mZ rs):=by
 intro S G a w h;have p:=E9 h z;have j:=q.2 w (Mut S ob G) _ h.grdW (fun b i B=>h.mut_lt B) (cI h d.toList ps ha s);unfold Does;have x:(execOp a.eval ⟨dst,.call ⟨.value g,d,m⟩,ty,pos,af,gd⟩).run P w=.ok (.enter f (d.toList.map a.eval).toArray) w:=by
  have:=J9 (P:=P) (f:=f) (args:=(d.toList.map a.eval).toArray) (w:=w) q.1;simp only[execOp,resolve,p,Deferred.ofValue,Sem.run_bind,Sem.run_pure,Result.andThen_ok,invoke];rw[show (#[]:Array Value)++Array.map a.eval d++#[]=(d.toList.map a.eval).toArray by obtain⟨l⟩:=d;simp];exact this
 rw[x];refine j.mono ?_;rintro e w' ⟨v,D,rfl,rfl,C,hb⟩;exact⟨v,rfl,hb,_,rfl,C.sv⟩
theorem c_condF{nt:Nat}{Q:Post}{x y:Code}(h:WpC P nt y fr ob Q):WpC P nt (.cond (.const (.bool false)) x y) fr ob Q:=by
 intro S G a w e f;exact wp_cond_split (c:=.const (.bool false)) (t:=false) rfl (fun h=>by cases h) (fun _=>h S G a w e f)
theorem kU{x:Operand}{T:TypeId}{k off:Nat}(l:opv fr x=some (.s (.one (.ref k off))))(d:P.concrete T=true) :
  Neu P ⟨dst,.makeInterface T x,ty,pos,af,gd⟩ fr ob (fun q=>q=.s (.one (.ifc T k off))) :=
 E1 fun S G a w h=>by
  obtain⟨b,g,j⟩:=G9 h l;refine⟨.iface T (.pointer (some ⟨b,off,none⟩)),?_,b,g,rfl⟩;simp only[execOp,j];exact K2 (run_makeInterface w T _ d)
theorem rU{x:Operand}{T:TypeId}{v:Value}(d:opv fr x=some (H6 v))(b:P.concrete T=true) :
  Neu P ⟨dst,.makeInterface T x,ty,pos,af,gd⟩ fr ob (fun g=>g=H6 (.iface T v)) :=
 E1 fun S G a w h=>by
  refine⟨.iface T v,?_,rfl,rfl⟩;simp only[execOp,E9 h d];exact K2 (run_makeInterface w T _ b)
theorem xE{x:Operand}{j T:TypeId}{k:IntKind}{v:Value}[ht:TyInt P T k](d:opv fr x=some (H6 (.iface T v)))(b:v.oneCell'=true) :
  Neu P ⟨dst,.typeAssert x j T false,ty,pos,af,gd⟩ fr ob (fun g=>g=H6 v) :=
 E1 fun S G a w h=>by
  refine⟨v,?_,rfl,b⟩;simp only[execOp,E9 h d];refine K2 ?_;simp[Instr.typeAssert,run_underlying ht.out]
section
variable {nt:Nat}{ops:Array Oper}{rest:List Oper}{Q:Post}{d:Nat}
theorem iR{f:FuncId}{x:Operand}{m:String}{j:List Operand}{O:Array TypeId}{ty:TypeId}{pos:String}{af:Array Edge}{T:TypeId}{k off:Nat}{g:List S1}{W:List Nat}{C:List S1->Obs->Prop}
  (hI:∀(a:Addr) (vs:Array Value) (w:World),(callMethod (.iface T (.pointer (some a))) m vs).run P w=.ok (.enter f (#[.pointer (some a)]++vs)) w)
  (hf:Met P f (.one (.ref k off)::g) (dN fr) ob W C)(hx:opv fr x=some (.s (.one (.ifc T k off))))(ha:r7 fr j=some g)(hc:j.all F9=true)(hd:Nat.blt d nt=true)
  (kk:∀H ob',C H ob'->WpL P nt ops rest ((d,kQ H)::B2 W fr) ob' Q):WpL P nt ops (⟨some d,.call ⟨.invoke x m,j.toArray,O⟩,ty,pos,af,none⟩::rest) fr ob Q:=by
 intro S G a w hn h;obtain⟨b,Y,ab⟩:=G9 h hx;have M:All2 (S1.rep (D9 (Mut S ob G) w) G) (.one (.ref k off)::g) (.pointer (some ⟨b,off,none⟩)::j.map a.eval):=⟨⟨b,Y,rfl⟩,j2 h j g ha hc⟩
 obtain⟨N,R⟩:∃N:Nat->Value,N=fun i=>S.sl a (i-1000000):=⟨_,rfl⟩
 let S':Ctx:={ S with gv:=N }
 have J:High (dN fr):=fun i s U=>(T8 fr i s U).1;have q:∀i s,C7 (dN fr) i=some s->s.rep (D9 (Mut S' ob G) w) G (S'.sl a i):=by
  intro i s U;obtain⟨I,X⟩:=T8 fr i s U;rw[Ctx.sl_ge I];show s.rep _ _ (N i);have e:=congrFun R i;rw[e];exact h.facts (i-1000000) s X
 have hs:Sim P S' (dN fr) ob G a w:={ h with facts:=q }
 have D:=hf.2 J S' G a w _ hs M;refine wpList_plain rfl fun K hK=>J4 (K:=fun v w'=>∃H ob' G',C H ob'/\bF (D9 (Mut S' ob' G') w') G' H v/\Sim P S' (B2 W (dN fr)) ob' G' a w') ?_ ?_
 ·have he:(execOp a.eval ⟨some d,.call ⟨.invoke x m,j.toArray,O⟩,ty,pos,af,none⟩).run P w=.ok (.enter f (.pointer (some ⟨b,off,none⟩)::j.map a.eval).toArray) w:=by
   have:=hI ⟨b,off,none⟩ (j.map a.eval).toArray w;have e1:(#[a.eval x]++Array.map a.eval j.toArray)[0]?=some (a.eval x):=by simp
   have e2:(#[a.eval x]++Array.map a.eval j.toArray).extract 1 (#[a.eval x]++Array.map a.eval j.toArray).size=(j.map a.eval).toArray:=by
    apply Array.ext';simp[B77]
   simp only[execOp,resolve,Sem.run_bind,Sem.run_pure,Result.andThen_ok,invoke,e1,e2];rw[ab,this]
   congr 2
   simp
  unfold Does;rw[he];refine D.mono ?_;rintro e w' ⟨v,H,ob',G',rfl,L,B,F⟩;exact⟨v,rfl,H,ob',G',L,B,F⟩
 ·rintro v w' ⟨H,ob',G',hp,B,F⟩;have Z:d<S.nt:=by rw[hn];simpa using hd
  have E:∀i s,C7 (B2 W fr) i=some s->s.rep (D9 (Mut S ob' G') w') G' (S.sl a i):=by
   intro i s U;have I:=F.facts (i+1000000) s (by rw[Z6];exact kP U);have X:1000000<=i+1000000:=Nat.le_add_left _ _;rw[Ctx.sl_ge X]at I;have I:s.rep (D9 (Mut S ob' G') w') G' (N (i+1000000)):=I;have e:=congrFun R (i+1000000);simp only[Nat.add_sub_cancel]at e;rw[e]at I;exact I
  have V:Sim P S (B2 W fr) ob' G' a w':={ F with facts:=E }
  exact hK _ _ (kk H ob' hp S G' _ w' hn (V.put Z B))
end
end
theorem YF{x:Operand}{t e:TypeId}{f d:Nat}(j:opv fr x=some (H6 (.slice none 0 0)))[ht:TySl P t e f d] :
  Neu P ⟨dst,.call ⟨.builtin .cap,#[x],#[t]⟩,ty,pos,af,gd⟩ fr ob (fun k=>k=B1 0) :=
 E1 fun S G a w h=>by
  refine⟨.int .i64 0,?_,rfl,rfl⟩;have g:=E9 h j;simp[execOp,resolve,invoke,builtin,g,Builtin.cap_,run_underlying ht.out.1,goInt]
theorem qP{x k:Operand}{t e:TypeId}{b m:Nat}{j:IntKind}[ht:TySl P t e m b](p:opv fr x=some (H6 (.slice none 0 0)))(g:opv fr k=some (H6 (.int j 0))) :
  Neu P ⟨dst,.slice t x none (some k) none,ty,pos,af,gd⟩ fr ob (fun q=>q=H6 (.slice none 0 0)) :=
 E1 fun S G a w h=>by
  refine⟨.slice none 0 0,?_,rfl,rfl⟩;have o:=E9 h p;simp only[execOp,o,E9 h g,Option.map_some,Option.map_none];refine K2 ?_;obtain⟨d,f⟩:=ht.elem;simp only[Instr.sliceAt,Sem.run_bind,run_underlying ht.out.1,Result.andThen_ok];rw[run_slice_h w t none 0 0 d j 0 (by omega) (by omega),f,I7 ht.size];simp[sliced]
theorem B05(t k:Nat)(α:Type)(j:Nat)(c:α->Nat->Cell)(e:TypeId)(D:C7 fr t=some (H6 (.slice none 0 0)))(q:(H7 k fr&&J2 k ob)=true) :
  Sees P nt fr ob ((t,.s (.one (.mut k)))::fr) ((k,.grow e α j c [])::ob):=by
 simp only[B24]at q;obtain⟨x,z⟩:=q;obtain⟨A,B,C⟩:=F7 z;intro S G a w E h;have f:=h.new C (o:=.grow e α j c []) (u:=.slice none 0 0) (w1:=w) B (Below.refl _ _) (fun b hb=>by simp[blk]at hb) ⟨[],World.ownsRow_nil w _ _ _,by simp,fun i d=>absurd d (by simp)⟩;rw[V4 x,A]at f;refine⟨upd G k (.slice none 0 0),{ f with facts:=fun i s d=>?_ }⟩;by_cases p:t=i
 ·subst p;rw[C2]at d;cases d;have v:=(h.facts t _ D).1;refine⟨?_,?_⟩
  ·rw[v];exact (H3 _ _ _).symm
  ·rw[v];rfl
 ·rw[B5 p]at d;exact f.facts i s d
theorem A44{β:Type}{b:Nat}{a:β->Nat->Cell}{i:Nat}{x:Operand}{r:List (Nat×Operand)}{ys:List (List β)}(g:opv fr x=some (H6 (.slice none 0 0)))(f:F9 x=true)(h:yQ fr 1 (fun (l:List β) _=>.list β b a l) r (i+1) ys) :
  yQ fr 1 (fun (l:List β) _=>.list β b a l) ((i,x)::r) i ([]::ys) :=
 ⟨rfl,f,_,[],ys,g,rfl,fun j G d ha=>by
  cases d with
  | nil=>exact ha.elim
  | cons u d =>
   cases d with
   | cons _ _=>exact ha.2.elim
   | nil =>
    refine⟨?_,trivial⟩;have:u=.slice none 0 0:=ha.1.1;rw[this]
    exact X9 β b a,rfl,h⟩
class TyArr (P:Program) (t:TypeId) (e:outParam TypeId) (n:outParam Nat) (es:outParam Nat):Prop where
 out:P.underlying t=some (.array n e)/\(P.info? e).map (·.size)=some es
theorem jU{x y:Operand}{t e:TypeId}{n c k off:Nat}{v:IntKind}{i:Int}[ht:TyArr P t e n c](q:opv fr x=some (.s (.one (.ref k off))))(u:opv fr y=some (H6 (.int v i)))(g:0<=i)(j:i<n) :
  Neu P ⟨dst,.indexAddr t x y,ty,pos,af,gd⟩ fr ob (fun z=>z=.s (.one (.ref k (off+i.toNat*c)))) :=
 E1 fun S G a w h=>by
  obtain⟨b,l,m⟩:=G9 h q;refine⟨.pointer (some ⟨b,off+i.toNat*c,none⟩),?_,b,l,rfl⟩;simp only[execOp,m,E9 h u];refine K2 ?_;have hb:0<=i/\i<(n:Int):=⟨g,j⟩
  simp[Instr.indexAt,Instr.sureAddr,run_underlying ht.out.1,asIntOf,hb,I7 ht.out.2,Addr.add_lit]
theorem BB{f g:Nat->Option (Nat×Nat)}:∀(ps:List (Nat×Value)) (a:Array Value),(∀p∈ps,f p.1=g p.1)->Instr.fill f a ps=Instr.fill g a ps
 | [],_,_=>rfl
 | (i,v)::r,a,h=>by
  have b:f i=g i:=h (i,v) B52;unfold Instr.fill;rw[b];cases g i with
  | none=>rfl
  | some q =>
   obtain⟨off,d⟩:=q;dsimp only;split
   ·rfl
   ·exact BB r _ fun p c=>h p (B46 _ c)
theorem BC{fr:Fr}{a:List (Nat×Nat)}:∀{ps:List (Nat×Operand)} {c b:List TC},gR fr a ps c=some b->∀p∈ps,p.1<a.length
 | [],_,_,_,p,hp=>by cases hp
 | (i,x)::r,c,b,h,p,hp=>by
  simp only[gR]at h;split at h
  ·rename_i off e s f j;have g:i<a.length:=(B28.1 f).1;rcases B34.1 hp with rfl | hp
   ·exact g
   ·cases d:(Nat.beq s.cells.length e&&F9 x&&Nat.ble (off+e) c.length)
    ·rw[d]at h;cases h
    ·rw[d]at h;exact BC h p hp
  ·cases h
class TyArrZ (P:Program) (t:TypeId) (zs:outParam (List Value)) (offs:outParam (List (Nat×Nat))):Prop where
 out:∃n e es z,P.underlying t=some (.array n e)/\(P.info? t).bind (·.zero)=some z/\z.cells.toList=zs/\zs.all (·.oneCell')=true/\(P.info? e).map (·.size)=some es/\offs=(List.range n).map fun i=>(i*es,es)
theorem SE{t:TypeId}{D:List Value}{j:List (Nat×Nat)}{f:Array (Nat×Operand)}{B:List TC}[ht:TyArrZ P t D j](hb:gR fr j f.toList (D.map fun c=>.p (.v c))=some B) :
  Neu P ⟨dst,.build t f,ty,pos,af,gd⟩ fr ob (fun Q=>Q=.s (.agg B)) :=
 E1 fun S G a w h=>by
  obtain⟨n,e,C,z,E,F,H,I,J,K⟩:=ht.out;obtain⟨k,N,M⟩:=zX h j f.toList _ B z.cells hb (by rw[H];exact Z5 _ I);refine⟨.agg k,?_,k.toList,by simp,M⟩;have y:=BC hb;have m:Instr.fill (fun i=>some (i*C,C)) z.cells (f.toList.map fun x=>(x.1,a.eval x.2))=some k:=by
   rw[<-N];refine BB _ _ fun p A=>?_;obtain⟨q,O,rfl⟩:=B62.1 A;have r:=y q O;rw[K]at r ⊢;rw[B75,B93]at r;simp[r]
  simp only[execOp];refine K2 ?_;have A:(f.map fun x=>(x.1,a.eval x.2)).toList=f.toList.map fun x=>(x.1,a.eval x.2):=by simp
  simp only[Instr.build,Sem.run_bind,O4 F,Result.andThen_ok,run_underlying E,I7 J];rw[show (f.map fun (x:Nat×Operand)=>match x with | (i,x)=>(i,a.eval x))=f.map fun x=>(x.1,a.eval x.2) from rfl,A,m];rfl
theorem n_boxA{x:Operand}{e:TypeId}{s:S1}{d:List Cell}(E:opv fr x=some (.s s))(y:F9 x=true)(C:fH s.cells=some d) :
  Neu P ⟨dst,.box e x,ty,pos,af,gd⟩ fr ob (fun F=>F=.s (.one (.eref Unit d.length (fun _ j=>d.getD j (.v undef)) () 0))):=by
 intro S G a w h;have D:(SV.s s).rep (D9 (Mut S ob G) w) G (a.eval x):=U1 h E y;have k:=aH C (A94 D);have g:Below w.heap.size w (w.alloc (.cells (a.eval x).cells e)):=(Below.refl _ _).alloc (B29 _) _;refine H4 (w':=w.alloc (.cells (a.eval x).cells e)) (v:=.pointer (some ⟨w.heap.size,0,none⟩)) ?_ ⟨g,_,rfl,w.heap.size,0,rfl,?_⟩
 ·simp[execOp,Instr.box,newVar,newRow]
 ·intro j u;obtain⟨z,m,q⟩:=k.get j _ (B23 u);refine⟨z,⟨L7 (heap_alloc_new w _) (by rw[B70];simpa using m),fun B=>absurd (h.mut_lt B) (Nat.lt_irrefl _)⟩,?_⟩;show (d.getD j (.v undef)).rep _ z;rw[show d.getD j (.v undef)=d[j] by simp[B30,u]];exact Cell.rep_mono (fun _ _ _ A=>mX g A) _ _ q
theorem NB{f:FuncId}{x:Operand}{α:Type}{d:Nat}{c:α->Nat->Cell}{v:α}(j:opv fr x=some (.s (.one (.eref α d c v 0)))) :
  Neu P ⟨dst,.makeFunc (.func f) #[] #[x],ty,pos,af,gd⟩ fr ob (fun l=>l=.s (.one (.fncE f α d c v))) :=
 E1 fun S G a w h=>by
  obtain⟨b,o,i,g⟩:=G9 h j;refine⟨.func (.func f) #[] #[a.eval x],?_,b,o,?_,g⟩
  ·simp[execOp,Instr.makeFunc]
  ·rw[i];rfl
theorem n_callE{f:FuncId}{g:Operand}{m:Array Operand}{H:Array TypeId}{α:Type}{O:Nat}{c:α->Nat->Cell}{v:α}{args:List S1}{N:Cell}
  (U:Met P f (args++[.one (.eref α O c v 0)]) [] [] [] (fun V ob'=>V=[.one (.p N)]/\ob'=[]))(hg:opv fr g=some (.s (.one (.fncE f α O c v))))(ha:r7 fr m.toList=some args)(hc:m.toList.all F9=true) :
  Neu P ⟨dst,.call ⟨.value g,m,H⟩,ty,pos,af,gd⟩ fr ob (fun s'=>s'=.s (.one (.p N))):=by
 intro S G a w h;obtain⟨b,o,Q,R⟩:=G9 h hg;have F:=j2 h m.toList args ha hc;have x:All2 (S1.rep (D9 (Mut S ob G) w) G) (args++[.one (.eref α O c v 0)]) (m.toList.map a.eval++[Value.pointer (some ⟨b,o,none⟩)]):=F.append ⟨⟨b,o,rfl,R⟩,trivial⟩;let S':Ctx:={ S with w0:=w,M0:=fun b i=>Mut S ob G b i,io:=fun _=>False }
 have B:High ([]:Fr):=fun i s hi=>by cases hi
 have I:Grd P (fun _=>False) w:=by
  obtain⟨wg,X,T,Y⟩:=h.grd;refine⟨wg,X,B72 T h.size,fun j M=>?_⟩;obtain⟨Z,h5⟩:=Y j M;exact⟨(h.keep j (B91 M T) h5).trans Z,fun e=>e⟩
 have hs:Sim P S' [] [] G a w:={ nt:=h.nt,ntb:=h.ntb,defers:=h.defers,os:=rfl,tape:=rfl,output:=rfl,size:=B29 _,keep:=fun _ _ _=>rfl,m0:=fun b i C=>h.mut_lt C,m0io:=fun _ _ _ e=>e,grd:=I,pin:=h.pin,old:=fun _ _ _ e=>(by cases e),dis:=fun _ _ _ _ _ e=>(by cases e),obs:=fun _ _ e=>(by cases e),facts:=fun _ _ e=>(by cases e) }
 have K:∀b i z,D9 (Mut S ob G) w b i z->D9 (Mut S' [] G) w b i z:=fun b i z J=>⟨J.1,fun C=>J.2 (by
  rcases C with C | ⟨k,o,hk,_⟩
  ·exact C
  ·cases hk)⟩
 have q:=U.2 B S' G a w _ hs (x.mono fun _ _=>S1.rep_mono K);unfold Does;have he:(execOp a.eval ⟨dst,.call ⟨.value g,m,H⟩,ty,pos,af,gd⟩).run P w=.ok (.enter f (m.toList.map a.eval++[Value.pointer (some ⟨b,o,none⟩)]).toArray) w:=by
  have:=J9 (P:=P) (f:=f) (args:=(m.toList.map a.eval++[Value.pointer (some ⟨b,o,none⟩)]).toArray) (w:=w) U.1;simp only[execOp,resolve,Q,Deferred.ofValue,Sem.run_bind,Sem.run_pure,Result.andThen_ok,invoke];rw[show (#[]:Array Value)++Array.map a.eval m++#[Value.pointer (some ⟨b,o,none⟩)]=(m.toList.map a.eval++[Value.pointer (some ⟨b,o,none⟩)]).toArray by obtain⟨l⟩:=m;simp];exact this
 rw[he];refine q.mono ?_;rintro e w' ⟨W,V,ob',G',rfl,⟨rfl,rfl⟩,L,d⟩;refine⟨W,rfl,⟨d.os,d.tape,d.output,d.size,fun j M=>d.keep j M (fun e=>e)⟩,_,rfl,?_⟩;have D:N.rep (D9 (Mut S' [] G') w') W:=L;refine Cell.rep_mono (fun b i z J=>⟨J.1,fun C=>J.2 (.inl C)⟩) _ _ D
theorem RetOk.s1{fn:Func}{c:Cell}(h:RetOk P fn fr ob [.one c]):RetS P fn fr ob [.one (.p c)]:=fun S G a w hs=>let ⟨v,b,d⟩:=h S G a w hs;⟨v,b,d.sv⟩
theorem RetOk.s2{fn:Func}{c b:Cell}(h:RetOk P fn fr ob [.one c,.one b]):RetS P fn fr ob [.one (.p c),.one (.p b)]:=fun S G a w g=>let ⟨v,d,f⟩:=h S G a w g;⟨v,d,f.sv⟩
theorem GM(k:Nat){x y:Operand}{t tn e:TypeId}{f q:Nat}{z:Value}{kn:IntKind}{n:Nat}[ht:TySl P t e f q][hn:TyInt P tn kn][hz:TyZero P e z](hx:opv fr x=some (H6 (.slice none 0 0)))(hy:opv fr y=some (H6 (.int .i64 n)))(h0:0<n)(J:n<=1048576)
  (hk:B0 ob k=none)(hp:Nat.blt k 1000000=true) :
  EffV P ⟨dst,.call ⟨.builtin .append,#[x,y],#[t,tn]⟩,ty,pos,af,gd⟩ fr ob (.s (.one (.mut k))) (Fr.forget k fr) ((k,.grow e Unit f (fun _ j=>.v (z.cells.getD j undef)) (List.replicate n ()))::Obs.forget k ob):=by
 intro S G a w h;have Z:=ht.out.2.2.1;cases E:P.info? e with
 | none=>have:=hz.out.1;simp[E]at this
 | some i =>
 have O:i.zero=some z:=by have:=hz.out.1;simpa[E] using this
 have V:i.size=f/\i.bytes=q:=by have:=ht.out.2.1;simpa[E] using this
 have Y:=ht.out.2.2.2.1;have C:z.cells.size=f:=by have:=ht.out.2.2.2.2;simpa[E,O] using this
 have ae:n*i.bytes<=1048576*4096:=Nat.mul_le_mul J (by rw[V.2];exact Y);have A:=Lib.run_append_nil_zeros w t tn ty e i z .i64 kn ht.out.1 hn.out E O n h0 (by rw[V.1];exact Z) (by omega) (by omega);obtain⟨D,ab⟩:∃D,D=grownCap w n 0 e:=⟨_,rfl⟩
 have N:=grownCap_ge w n 0 e;have K:=grownCap_le_maxLen w n 0 e (by unfold maxLen;omega);rw[<-ab]at A N K;obtain⟨I,F⟩:∃I,I=Builtin.zeroCells z.cells n++Builtin.zeroCells z.cells (D-n):=⟨_,rfl⟩
 rw[<-F]at A;obtain⟨X,H⟩:∃X,X=(Builtin.zeroCells z.cells n).toList:=⟨_,rfl⟩
 have W:X.length=n*f:=by rw[H,Array.length_toList,size_zeroCells,C]
 have U:(w.drew.alloc (.cells I e)).ownsRow S.B e f (.slice (some ⟨w.heap.size,0,none⟩) n D) n X:=by
  refine⟨W,.inr ⟨w.heap.size,D,I,rfl,h.size,heap_alloc_new w.drew _,N,K,?_,?_⟩⟩
  ·rw[F,Array.size_append,size_zeroCells,size_zeroCells,C,<-B73]
   congr 1
   omega
  ·rw[F,Array.toList_append,<-H,<-W];exact List.take_left
 have ad:Below w.heap.size w (w.drew.alloc (.cells I e)):=⟨rfl,rfl,rfl,by simp,fun k hk=>heap_alloc_old w.drew _ hk⟩
 have hu:∀b,blk (.slice (some ⟨w.heap.size,0,none⟩) n D)=some b->w.heap.size<=b:=by intro b hb;simp[blk]at hb;omega
 refine H4 (w':=w.drew.alloc (.cells I e)) (v:=.slice (some ⟨w.heap.size,0,none⟩) n D) (by simp[execOp,resolve,invoke,builtin,E9 h hx,E9 h hy,A]) ?_;refine⟨upd G k (.slice (some ⟨w.heap.size,0,none⟩) n D),h.new (by simpa using hp) hk (o:=.grow e Unit f (fun _ j=>.v (z.cells.getD j undef)) (List.replicate n ())) ad hu ?_,(H3 _ _ _).symm,rfl⟩;refine⟨X,by rw[B86];exact U,by rw[B86];omega,fun i E j hj=>?_⟩;rw[B86]at E;have ac:i*f+j<n*f:=by
  have:(i+1)*f<=n*f:=B56 _ E;rw[B73,Nat.one_mul]at this;omega
 have T:(i*f+j) % f=j:=by rw[Nat.add_comm,Nat.add_mul_mod_self_right];exact Nat.mod_eq_of_lt hj
 have Q:j<z.cells.size:=by rw[C];exact hj
 have M:z.cells.getD j undef=z.cells[j]:=by rw[B35,Array.getElem?_eq_getElem Q];rfl
 refine⟨z.cells.getD j undef,?_,rfl,?_⟩
 ·rw[H,M];simp only[Builtin.zeroCells,Array.toList_map,Array.toList_range,B92,C];rw[List.getElem?_range ac,Option.map_some,T,getElem!_pos z.cells j Q]
 ·rw[M];exact B27.1 hz.out.2 _ (by simp)
theorem B07{k:Nat}{e:TypeId}{α:Type}(β:Type){f:Nat}{c:α->Nat->Cell}(j:β->Nat->Cell)(m:B0 ob k=some (.grow e α f c [])):Sees P nt fr ob fr ((k,.grow e β f j [])::ob):=by
 intro S G a w q h;refine⟨G,h.retold (o':=.grow e β f j []) m (fun b i n=>⟨n.1,trivial⟩) ?_⟩;rintro s ⟨p,d,_,_⟩;exact⟨p,d,by simp,fun i l=>absurd l (by simp)⟩
theorem B09(kb o:Nat){m:List TC}{t0:TC}{c:Cell}(hb:B0 ob kb=some (.box m))(k:m[o]?=some t0)(s:t0.pure?=some c):Sees P nt fr ob fr ((kb,.box (m.set o (.p c)))::ob):=by
 intro S G a w A h;obtain⟨b,C,t,r,y,ha⟩:=h.obs kb _ hb;have d:blk (G kb)=some b:=by rw[r];rfl
 refine⟨_,h.retell hb d (fun i=>⟨d,trivial⟩) (fun i=>⟨d,trivial⟩) ?_⟩;rintro B ⟨q,n,v,g,j,e⟩;refine⟨q,n,v,g,j,A97 o (fun z u=>?_) e⟩;obtain⟨D,f,l⟩:=e.get o _ k;rw[u]at f;cases f;exact B03 s l
theorem B18{t:Nat}(k:Nat)(α:Type)(d:Nat)(c:α->Nat->Cell)(e:TypeId)(A:C7 fr t=some (.s (.one (.p (.v (.slice none 0 0))))))(x:B0 ob k=none)(z:Nat.blt k 1000000=true) :
  Sees P nt fr ob ((t,.s (.one (.buf k α d c [])))::Fr.forget k fr) ((k,.spare 0 d e)::Obs.forget k ob):=by
 intro S G a w C h;have j:=h.new (by simpa using z) (o:=.spare 0 d e) (u:=.slice none 0 0) (w1:=w) x (Below.refl _ _) (fun b hb=>by simp[blk]at hb) ⟨[],World.ownsRow_nil w _ _ _⟩;refine⟨_,{ j with facts:=fun i s g=>?_ }⟩;by_cases q:t=i
 ·subst q;rw[C2]at g;cases g;have B:=(h.facts _ _ A).1;rw[B];exact⟨(H3 _ _ _).symm,X9 α d c⟩
 ·rw[B5 q]at g;exact j.facts i s g
def IdleFn(P:Program)(f:FuncId)(n:Nat):Prop :=
 ∀(a:List Value) (w:World),a.length=n->(callFunc f a.toArray).run P w=.ok (.enter f a.toArray) w/\CallsDIn Fence.wide 0 P f a.toArray .returning w (fun e b w'=>(∃v,e=.returned v)/\b=.returning/\w'=w)
theorem IdleFn.idle{f:FuncId}{n:Nat}(h:IdleFn P f n){a:List Value}(k:a.length=n)(ds:List Deferred)(w:World) :
  Idle P ({ target:=.fn (.func f) a.toArray,args:=#[] }::ds) ds w w:=by
 intro fn b R d;obtain⟨g,j⟩:=h a w k;refine⟨by simp,.inr ⟨fun h=>by simp[Fence.wide]at h,.func f,a.toArray,f,a.toArray,rfl,?_,fun _ _=>trivial,?_⟩⟩
 ·simp only[invoke];rw[show (#[]:Array Value)++a.toArray=a.toArray by simp];exact g
 ·refine CallsDIn.mono j ?_;rintro e l w' ⟨⟨v,rfl⟩,rfl,rfl⟩;exact d
theorem YG(k:Nat){t e:TypeId}{A H n:Nat}{f:Array (Nat×Operand)}{α:Type}{c:α->Nat->Cell}{ys:List α}[ht:TySl P t e A H](hb:yQ fr A c f.toList 0 ys)(Y:f.toList.length=n)(M:Nat.ble n 100000=true)(Q:Nat.ble A 100=true)
  (hk:B0 ob k=none)(I:Nat.blt k 1000000=true):EffV P ⟨dst,.buildSlice t n f,ty,pos,af,gd⟩ fr ob (.s (.one (.mut k))) (Fr.forget k fr) ((k,.grow e α A c ys)::Obs.forget k ob):=by
 intro S G a w h;have I:k<1000000:=by simpa using I
 have Z:n<=100000:=by simpa using M
 have O:A<=100:=by simpa using Q
 have ah:n*A<=100000*100:=Nat.mul_le_mul Z O;obtain⟨_,_,_,_,D⟩:=ht.out;cases X:P.info? e with
 | none=>simp[X]at D
 | some i =>
 cases hz:i.zero with
 | none=>simp[X,hz]at D
 | some z =>
 have ag:(P.info? e).bind (·.zero)=some z:=by simp[X,hz]
 let q:Array Value:=(Array.range (n*A)).map ((if n*A=0 then #[] else z.cells)[· % (if n*A=0 then #[] else z.cells).size]!);have N:q.size=n*A:=by simp[q]
 obtain⟨K,W,ab,ac,hv⟩:=pC h f.toList 0 ys q hb (by rw[N,Y,B70]);simp only[Nat.zero_mul,B68,B74]at W;have hp:(f.map fun x=>(x.1,a.eval x.2)).toList=f.toList.map fun x=>(x.1,a.eval x.2):=by simp
 have E:ys.length=n:=by rw[ac,Y]
 refine H4 (w':=w.alloc (.cells K.toArray e)) (v:=.slice (some ⟨w.heap.size,0,none⟩) n n) ?_ ?_
 ·simp only[execOp];refine K2 ?_;simp only[Instr.buildSlice,Sem.run_bind,run_underlying ht.out.1,Result.andThen_ok,I7 ht.size];rw[A6 (by omega)];by_cases F:n*A=0
  ·simp only[F,if_true,Sem.run_bind,Sem.run_pure,Result.andThen_ok];have C:q=(Array.range 0).map ((#[]:Array Value)[· % (#[]:Array Value).size]!):=by simp only[q,F,if_true]
   rw[show (f.map fun (x:Nat×Operand)=>match x with | (i,x)=>(i,a.eval x))=f.map fun x=>(x.1,a.eval x.2) from rfl,hp,<-C,W];simp[newRow]
  ·simp only[A6 F,Sem.run_bind,O4 ag,Sem.run_pure,Result.andThen_ok];have C:q=(Array.range (n*A)).map (z.cells[· % z.cells.size]!):=by simp only[q,A6 F]
   rw[show (f.map fun (x:Nat×Operand)=>match x with | (i,x)=>(i,a.eval x))=f.map fun x=>(x.1,a.eval x.2) from rfl,hp,<-C,W];simp[newRow]
 ·have V:Below w.heap.size w (w.alloc (.cells K.toArray e)):=(Below.refl _ _).alloc (B29 _) _;have hu:∀b,blk (.slice (some ⟨w.heap.size,0,none⟩) n n)=some b->w.heap.size<=b:=by intro b hb;simp[blk]at hb;omega
  have J:K.length=n*A:=by rw[ab,Y]
  have T:(w.alloc (.cells K.toArray e)).ownsRow S.B e A (.slice (some ⟨w.heap.size,0,none⟩) n n) ys.length K :=
   ⟨by rw[J,E],.inr ⟨w.heap.size,n,K.toArray,by rw[E],h.size,heap_alloc_new w _,by rw[E];exact B29 _,by unfold maxLen;omega,by simpa using J,by rw[E,<-J];simp⟩⟩
  have U:=h.new I hk (o:=.grow e α A c ys) V hu ⟨K,T,by omega,fun m hm j hj=>by
   obtain⟨zz,ad,ae⟩:=hv m hm j hj
   exact⟨zz,ad,Cell.rep_mono (fun _ _ _ hr=>h.rd_new V hu hr) _ _ ae⟩⟩
  exact⟨_,U,(H3 _ _ _).symm,rfl⟩
theorem N8{x:Operand}{ty:TypeId}{pos:String}{af:Array Edge}{dst:Option Tmp}{e:Int}(g:opv fr x=some (H6 (.iface T (.int .i64 e))))(h:Q (.panic (gV T e)) fr ob) :
  WpL P nt ops (⟨dst,.panic x,ty,pos,af,none⟩::rest) fr ob Q:=by
 intro S G a w k b;refine wpList_plain rfl fun K j=>?_;have d:(execOp a.eval ⟨dst,.panic x,ty,pos,af,none⟩).run P w=.halt (.panic (.iface T (.int .i64 e))) w:=by
  simp only[execOp,E9 b g];rfl
 unfold Oper.wp;rw[d];exact⟨fr,ob,G,h,.inl b⟩
theorem MetX.introH{f:FuncId}{fn:Func}{c:Code}{a:List S1}{gf:Fr}{ks:List Nat}{d:List S1->Obs->Prop}{h:Int->Obs->Prop}(j:P.funcs[f]?=some fn)(b:(fn.name == "runtime.NumGoroutine")=false)(hb:fn.body=some c)(g:Nat.ble a.length fn.ntmps=true)(i:Nat.ble fn.ntmps 1000000=true)
  (k:High gf->WpC P fn.ntmps c (cK 0 a++gf) ob (metXP P T fn ks gf d h)):MetX P T f a gf ob ks d h :=
 ⟨⟨fn,j,b,by simp[hb]⟩,fun e=>(MetX.intro j b hb g i (k e)).2 e⟩
theorem H1{d:List Nat}{gf:Fr}{b:Int->Obs->Prop}{e:Int}{ob':Obs}(f:Tail (B2 d gf) fr)(g:∀k o,B0 ob' k=some o->B0 ob k=some o)(h:b e ob'):∃c a,gV T e=gV T c/\Tail (B2 d gf) fr/\(∀k o,B0 a k=some o->B0 ob k=some o)/\b c a :=
 ⟨e,ob',rfl,f,g,h⟩
theorem l_metXF{f:FuncId}{g:Operand}{m:List Operand}{J:Array TypeId}{ty:TypeId}{pos:String}{af:Array Edge}{nf nc:List (Nat×Nat)}{args:List S1}{I:List Nat}{C:List S1->Obs->Prop}{N:Int->Obs->Prop}
  (hf:MetX P T f (nf.map AO++args++nc.map AO) (dN fr) ob I C N)(hg:opv fr g=some (.s (.one (.clo f nf nc))))(ha:r7 fr m=some args)(hc:m.all F9=true)(hd:Nat.blt d nt=true)
  (kp:∀e ob',N e ob'->Q (.panic (gV T e)) (B2 I fr) ob')
  (kk:∀U ob',C U ob'->WpL P nt ops rest ((d,kQ U)::B2 I fr) ob' Q):WpL P nt ops (⟨some d,.call ⟨.value g,m.toArray,J⟩,ty,pos,af,none⟩::rest) fr ob Q:=by
 intro S G a w hn h;obtain⟨O,R,W,Z,ab⟩:=G9 h hg;have F:All2 (S1.rep (D9 (Mut S ob G) w) G) (nf.map AO++args++nc.map AO) (O++m.map a.eval++R):=((nJ Z).append (j2 h m args ha hc)).append (nJ ab);obtain⟨H,B⟩:∃H:Nat->Value,H=fun i=>S.sl a (i-1000000):=⟨_,rfl⟩
 let S':Ctx:={ S with gv:=H }
 have E:High (dN fr):=fun i s L=>(T8 fr i s L).1;have j:∀i s,C7 (dN fr) i=some s->s.rep (D9 (Mut S' ob G) w) G (S'.sl a i):=by
  intro i s L;obtain⟨D,V⟩:=T8 fr i s L;rw[Ctx.sl_ge D];show s.rep _ _ (H i);have e:=congrFun B i;rw[e];exact h.facts (i-1000000) s V
 have hs:Sim P S' (dN fr) ob G a w:={ h with facts:=j }
 have q:=hf.2 E S' G a w _ hs F;have z:∀{ob':Obs} {G':Gh} {w':World},Sim P S' (B2 I (dN fr)) ob' G' a w'->Sim P S (B2 I fr) ob' G' a w':=by
  intro ob' G' w' b;have x:∀i s,C7 (B2 I fr) i=some s->s.rep (D9 (Mut S ob' G') w') G' (S.sl a i):=by
   intro i s L;have D:=b.facts (i+1000000) s (by rw[Z6];exact kP L);have V:1000000<=i+1000000:=Nat.le_add_left _ _;rw[Ctx.sl_ge V]at D;have D:s.rep (D9 (Mut S ob' G') w') G' (H (i+1000000)):=D;have e:=congrFun B (i+1000000);simp only[Nat.add_sub_cancel]at e;rw[e]at D;exact D
  exact { b with facts:=x }
 refine wpList_plain rfl fun K hK=>?_;have he:(execOp a.eval ⟨some d,.call ⟨.value g,m.toArray,J⟩,ty,pos,af,none⟩).run P w=.ok (.enter f (O++m.map a.eval++R).toArray) w:=by
  have:=J9 (P:=P) (f:=f) (args:=(O++m.map a.eval++R).toArray) (w:=w) hf.1;simp only[execOp,resolve,W,Deferred.ofValue,Sem.run_bind,Sem.run_pure,Result.andThen_ok,invoke];rw[show O.toArray++Array.map a.eval m.toArray++R.toArray=(O++m.map a.eval++R).toArray by simp];exact this
 unfold Oper.wp;rw[he];refine q.mono ?_;rintro e w' (⟨v,U,ob',G',rfl,Y,M,b⟩ | ⟨c,ob',G',rfl,Y,b⟩)
 ·have X:d<S.nt:=by rw[hn];simpa using hd
  exact hK _ _ (kk U ob' Y S G' _ w' hn ((z b).put X M))
 ·exact⟨_,ob',G',kp c ob' Y,.inl (z b)⟩
def IdleP(P:Program)(f:List PanicEntry)(h d:List Deferred)(w w':World):Prop :=
 ∀(fn:Func) (b:Array Value) (R:Ending->World->Prop),LeavesInM Fence.wide 0 P fn b R d .returning w'->LeavesInM Fence.wide 0 P fn b R h (.panicking f) w
def RecOf(P:Program)(S:Ctx)(Q:Post)(e:Exit)(a:Act)(w:World):Prop :=
 PostOf P S Q e a w\/∃d fr ob G b w',e=.panic d/\a.defers=b/\Q .ret fr ob/\Sim P { S with df:=b } fr ob G a w'/\IdleP P d b S.df w w'
def RawC(P:Program)(nt:Nat)(c:Code)(fr:Fr)(ob:Obs)(Q:Post):Prop :=
 ∀S G a w,S.nt=nt->Sim P S fr ob G a w->c.wp P (RecOf P S Q) a w
theorem RawC.of{c:Code}(h:WpC P nt c fr ob Q):RawC P nt c fr ob Q:=fun S G a w b e=>wp_mono (h S G a w b e) fun _ _ _ d=>.inl d
theorem WL{x y:Code}(h:WpC P nt x fr ob (gN (fun fr ob=>RawC P nt y fr ob Q) Q)):RawC P nt (.seq x y) fr ob Q:=by
 intro S G a w c g;refine wp_seq (wp_mono (h S G a w c g) ?_);rintro e f w' ⟨fr',ob',G',d,b⟩;cases e with
 | normal=>exact d S G' f w' c (b.resolve_right fun h=>nomatch h.1)
 | _=>exact .inl ⟨fr',ob',G',d,b⟩
theorem B12{f:FuncId}{fn:Func}{c:Code}{a:List PV}{q:List PV->Prop}(V:P.funcs[f]?=some fn)(B:(fn.name == "runtime.NumGoroutine")=false)(hb:fn.body=some c)(R:fn.ntmps=nt)(F:Nat.ble a.length nt=true)(G:Nat.ble nt 1000000=true)
  (h:RawC P nt c (nA 0 a) [] (retP P fn q)):FnOk P f a q:=by
 refine⟨⟨fn,V,B,by simp[hb]⟩,fun w M m hg Y ha=>?_⟩;have ab:a.length<=nt:=by simpa using F
 have ad:m.length=a.length:=ha.length.symm;refine bC V hb ?_;let S:Ctx:={ w0:=w,M0:=M,io:=fun _=>False,nt:=nt,pin:=fun _=>undef,gv:=fun _=>undef }
 have L:∀b i,Mut S [] (fun _=>undef) b i↔M b i:=fun b i=>⟨fun h=>h.elim id fun ⟨k,o,y,_⟩=>(by cases y),.inl⟩
 have U:∀b i z,D9 M w b i z->D9 (Mut S [] (fun _=>undef)) w b i z:=fun b i z C=>⟨C.1,fun Q=>C.2 ((L b i).1 Q)⟩
 have hs:Sim P S (nA 0 a) [] (fun _=>undef) { tmps:=m.toArray++Array.replicate (fn.ntmps-m.toArray.size) undef,defers:=[] } w:=by
  refine { nt:=by simp[R,S];omega,ntb:=by simpa using G,defers:=rfl,os:=rfl,tape:=rfl,output:=rfl,size:=B29 _,keep:=fun _ _ _=>rfl,m0:=Y,m0io:=fun _ _ _=>id,grd:=hg,pin:=fun _ _=>rfl,old:=fun k o b y=>(by cases y),dis:=fun k k' o o' b y=>(by cases y),obs:=fun k o y=>(by cases y),facts:=?_ };intro i s N;obtain⟨_,p,T,rfl⟩:=pF 0 a i s N;obtain⟨u,W,C⟩:=ha.get (i-0) p T;have O:i<m.length:=(B28.1 W).1;have E:(m.toArray++Array.replicate (fn.ntmps-m.toArray.size) undef).getD i undef=u:=by
   rw[B35,Array.getElem?_append_left (by simpa using O)];simpa using congrArg (fun x=>x.getD undef) W
  have ac:nt<=1000000:=by simpa using G
  rw[Ctx.sl_lt (by omega),E];exact PV.rep_s1 (PV.rep_mono U C)
 refine wp_mono (h S _ _ w A0 hs) ?_;have fin:∀{fr':Fr} {ob':Obs} {G':Gh} {A:Act},(∃rs,RetOk P fn fr' ob' rs/\q rs)->∀K w',Sim P { S with df:=K } fr' ob' G' A w'->∃v,(results fn A.tmps).run P w'=.ok v w'/\(∃J rs,Ending.returned v=.returned J/\q rs/\ResRep (D9 M w') rs J/\Below w.heap.size w w'):=by
  rintro fr' ob' G' A ⟨rs,C,T⟩ K w' j;obtain⟨v,hv,I⟩:=C _ G' A w' j;refine⟨v,hv,v,rs,rfl,T,I.mono (fun b i z X=>⟨X.1,fun Q=>X.2 (.inl Q)⟩),⟨j.os,j.tape,j.output,j.size,fun k y=>j.keep k y id⟩⟩
 rintro e A w' (⟨fr',ob',G',H,j⟩ | ⟨ch,fr',ob',G',K,w2,rfl,Z,H,j,N⟩)
 ·cases e with
  | normal=>exact j.leave rfl (fin H)
  | ret=>exact j.leave rfl (fin H)
  | _=>exact H.elim
 ·have:=N fn A.tmps (fun e w'=>∃v rs,e=.returned v/\q rs/\ResRep (D9 M w') rs v/\Below w.heap.size w w') (fin H K w2 j);show LeavesInM Fence.wide 0 P fn A.tmps _ A.defers _ w';rw[Z];exact this
def JM(fr:Fr):Fr:=fr.filter fun p=>Nat.blt p.1 1000000
theorem iS:∀{fr:Fr} {i:Nat} {s:SV},C7 (JM fr) i=some s->i<1000000/\C7 fr i=some s
 | [],_,_,h=>by cases h
 | (j,x)::r,i,s,h=>by
  by_cases a:j<1000000
  ·unfold JM at h;rw[List.filter_cons_of_pos (by simpa using a)]at h;by_cases e:j=i
   ·subst e;rw[C2]at h ⊢;exact⟨a,h⟩
   ·rw[B5 e]at h ⊢;exact iS h
  ·unfold JM at h;rw[List.filter_cons_of_neg (by simpa using a)]at h;have b:=iS (fr:=r) h;have e:j≠i:=fun e=>a (e ▸ b.1);rw[B5 e];exact b
def RecFn(P:Program)(T:TypeId)(f:FuncId)(q t2:TypeId):Prop :=
 ∀(b h:Value) (e:Int) (w w1 j:World),(Instr.storeAt q b (.slice none 0 0)).run P w=.ok () w1->(Instr.storeAt t2 h (.int .i64 e)).run P w1=.ok () j ->
  (callFunc f #[b,h]).run P w=.ok (.enter f #[b,h]) w/\CallsDIn Fence.wide 0 P f #[b,h] (.panicking (gV T e)) w (fun m x w'=>(∃v,m=.returned v)/\settle x=.returning/\w'=j)
def recQ(T:TypeId)(k1 k2 h i2:Nat)(Q:Post):Post
 | .ret,fr,ob=>Q .ret (JM fr) ob
 | .panic ch,fr,ob=>∃e d g,ch=gV T e/\C7 fr 1000001=some (.s (.one (.ref k1 0)))/\C7 fr 1000002=some (.s (.one (.ref k2 0)))/\Z3 fr h=some (.s (.one (.ref k1 0)))/\Z3 fr i2=some (.s (.one (.ref k2 0))) /\
   B0 ob k1=some (.box [d])/\B0 ob k2=some (.box [g])/\k1≠k2/\Q .ret (JM fr) ((k2,.box [.p (.v (.int .i64 e))])::(k1,.box [.p (.v (.slice none 0 0))])::ob)
 | _,_,_=>False
theorem tK{t:TypeId}{x y:Operand}{ty:TypeId}{pos:String}{af:Array Edge}{gd:Option (Nat×Bool)}{fr':Fr}{ob':Obs}(h:Eff P ⟨none,.store t x y,ty,pos,af,gd⟩ fr ob fr' ob'){S:Ctx}{G:Gh}{a:Act}{w:World}(d:Sim P S fr ob G a w) :
  ∃w',(Instr.storeAt t (a.eval x) (a.eval y)).run P w=.ok () w'/\∃G',Sim P S fr' ob' G' a w':=by
 have b:=h S G a w d;unfold Does at b;simp only[execOp,Sem.run_bind,Sem.run_pure]at b;cases c:(Instr.storeAt t (a.eval x) (a.eval y)).run P w with
 | ok u w' =>
  rw[c]at b;exact⟨w',rfl,b⟩
 | halt e w' =>
  rw[c]at b;exact b.elim
theorem WM:∀{fr:Fr},fr.all (fun p=>Nat.blt p.1 1000000)=true->∀i s,C7 fr i=some s->i<1000000
 | [],_,_,_,h=>by cases h
 | (j,x)::r,hl,i,s,h=>by
  rw[List.all_cons,B24]at hl;by_cases e:j=i
  ·subst e;simpa using hl.1
  ·rw[B5 e]at h;exact WM hl.2 i s h
theorem SF{id t f:Nat}{I:List Operand}{k1 k2 i1 i2:Nat}{t1 t2:TypeId}{bh aq:TypeId}{ap V:String}{ar Y:Array Edge}{Z:Array TypeId}{rest:Code}
  (h2:nI fr I=some [(k1,0),(k2,0)])(hd:Nat.blt t nt=true)(ae:fr.all (fun p=>Nat.blt p.1 1000000)=true)(hf:IdleFn P f 2)(ah:RecFn P T f t1 t2)(bf:(P.info? t1).map (·.size)=some 1)(bg:(P.info? t2).map (·.size)=some 1)
  (k:WpC P nt rest ((1000001,.s (.one (.ref k1 0)))::(1000002,.s (.one (.ref k2 0)))::(t,.s (.one (.clo f [] [(k1,0),(k2,0)])))::fr) ob (recQ T k1 k2 i1 i2 Q)) :
  RawC P nt (.seq (.region id #[⟨some t,.makeFunc (.func f) #[] I.toArray,bh,ap,ar,none⟩,⟨none,.defer ⟨.value (.tmp t),#[],Z⟩,aq,V,Y,none⟩] false) rest) fr ob Q:=by
 intro S G a w hn hs;refine wp_seq (wp_region_lit (l:=[_,_]) ?_);refine wpList_plain A0 fun K hK=>J4 (AN (P:=P) (first:=[]) (cap:=I) (nf:=[]) (nc:=[(k1,0),(k2,0)]) A0 h2 S G a w hs) ?_;rintro v w' ⟨U,s,rfl,hv⟩;have ag:t<S.nt:=by rw[hn];simpa using hd
 have ba:=(hs.ext U).put ag hv;refine hK _ _ ?_;refine wpList_plain rfl fun K' au=>?_;obtain⟨us,vs,rfl,hu,X⟩:=hv;have be:us=[]:=by cases us with | nil=>rfl | cons _ _=>exact hu.elim
 subst be;obtain⟨B,C,rfl⟩:∃B C,vs=[B,C]:=by
  match vs,X with
  | [B,C],_=>exact⟨B,C,rfl⟩
  | [],h=>exact h.elim
  | [_],h=>exact h.2.elim
  | _::_::_::_,h=>exact h.2.2.elim
 have ay:eP G (k1,0) B:=X.1;have az:eP G (k2,0) C:=X.2.1;have aw:(a.put (some t) (.func (.func f) (List.toArray []) [B,C].toArray)).eval (.tmp t)=.func (.func f) #[] [B,C].toArray:=by
  have bd:t<a.tmps.size:=by rw[hs.nt];exact ag
  simp[Act.eval,Act.put,bd]
 unfold Oper.wp;have ai:(execOp (a.put (some t) (.func (.func f) (List.toArray []) [B,C].toArray)).eval ⟨none,.defer ⟨.value (.tmp t),#[],Z⟩,aq,V,Y,none⟩).run P w'=.ok (.defer { target:=.fn (.func f) [B,C].toArray,args:=#[] }) w':=by
  simp[execOp,resolve,aw,Deferred.ofValue,Sem.run_bind,Sem.run_pure,Result.andThen_ok]
 rw[ai];refine au _ _ ?_;refine wpList_nil ?_;obtain⟨J,M⟩:∃d:Deferred,d={ target:=.fn (.func f) [B,C].toArray,args:=#[] }:=⟨_,rfl⟩
 rw[<-M];have ak:Sim P { S with df:=J::S.df } ((t,.s (.one (.clo f [] [(k1,0),(k2,0)])))::fr) ob G { tmps:=(a.put (some t) (.func (.func f) (List.toArray []) [B,C].toArray)).tmps,defers:=J::a.defers } w' :=
  { ba with defers:=by show J::a.defers=J::S.df;rw[hs.defers] }
 obtain⟨L,ac⟩:∃L:Nat->Value,L=fun i=>if i=1000001 then B else if i=1000002 then C else S.gv i:=⟨_,rfl⟩
 have N:L 1000001=B:=by rw[ac];simp
 have O:L 1000002=C:=by rw[ac];simp
 let S':Ctx:={ S with df:=J::S.df,gv:=L }
 have bi:=hs.ntb;have bc:Sim P S' ((1000001,.s (.one (.ref k1 0)))::(1000002,.s (.one (.ref k2 0)))::(t,.s (.one (.clo f [] [(k1,0),(k2,0)])))::fr) ob G { tmps:=(a.put (some t) (.func (.func f) (List.toArray []) [B,C].toArray)).tmps,defers:=J::a.defers } w':=by
  refine { ak with facts:=fun i s E=>?_ };by_cases e1:1000001=i
  ·subst e1;rw[C2]at E;cases E;rw[Ctx.sl_ge (by omega)];show SV.rep _ G _ (L 1000001);rw[N];exact ay
  rw[B5 e1]at E;by_cases e2:1000002=i
  ·subst e2;rw[C2]at E;cases E;rw[Ctx.sl_ge (by omega)];show SV.rep _ G _ (L 1000002);rw[O];exact az
  rw[B5 e2]at E;have W:i<1000000:=by
   by_cases e3:t=i
   ·omega
   ·rw[B5 e3]at E;exact WM ae i s E
  have j:=ak.facts i s E;rw[Ctx.sl_lt W]at j ⊢;exact j
 have H:∀{ds:List Deferred} {fr:Fr} {ob:Obs} {G:Gh} {a:Act} {w:World},Sim P { S' with df:=ds } fr ob G a w->Sim P { S with df:=ds } (JM fr) ob G a w:=by
  intro ds fr ob G a w h;refine { h with facts:=fun i s E=>?_ };obtain⟨W,E⟩:=iS E;have j:=h.facts i s E;rw[Ctx.sl_lt W]at j ⊢;exact j
 refine wp_mono (k S' G _ w' hn bc) ?_;rintro e a2 w2 ⟨ab,ao,G2,hq,an⟩;cases e with
 | ret =>
  refine .inl ⟨JM ab,ao,G2,hq,.inr ⟨rfl,?_⟩⟩;have ad:∀w,Idle P (J::S.df) S.df w w:=fun w=>by rw[M];exact hf.idle rfl S.df w
  rcases an with h | ⟨_,ds,w3,h,E⟩
  ·exact⟨J::S.df,w2,H (ds:=J::S.df) h,ad w2⟩
  ·exact⟨ds,w3,H h,fun fn D R hR=>E fn D R (ad w3 fn D R hR)⟩
 | panic ch =>
  obtain⟨e,c1,c2,rfl,g1,g2,g3,g4,o1,o2,ax,hQ⟩:=hq;have U:=an.resolve_right fun h=>nomatch h.1;have q1:eP G2 (k1,0) B:=by
   have j:=U.facts _ _ g1;rw[Ctx.sl_ge (by omega)]at j;have j:SV.rep _ G2 _ (L 1000001):=j;rw[N]at j;exact j
  have q2:eP G2 (k2,0) C:=by
   have j:=U.facts _ _ g2;rw[Ctx.sl_ge (by omega)]at j;have j:SV.rep _ G2 _ (L 1000002):=j;rw[O]at j;exact j
  have r1:eP G2 (k1,0) (a2.eval (.tmp i1)):=by
   have j:eP G2 (k1,0) (a2.tmps.getD i1 undef):=U.slot g3;rw[show a2.eval (.tmp i1)=a2.tmps.getD i1 undef by simp[Act.eval]];exact j
  have r2:eP G2 (k2,0) (a2.eval (.tmp i2)):=by
   have j:eP G2 (k2,0) (a2.tmps.getD i2 undef):=U.slot g4;rw[show a2.eval (.tmp i2)=a2.tmps.getD i2 undef by simp[Act.eval]];exact j
  have e1:a2.eval (.tmp i1)=B:=by
   obtain⟨b,x1,x2⟩:=q1;obtain⟨b',y1,y2⟩:=r1;rw[x1]at y1;cases y1;rw[y2,x2]
  have e2:a2.eval (.tmp i2)=C:=by
   obtain⟨b,x1,x2⟩:=q2;obtain⟨b',y1,y2⟩:=r2;rw[x1]at y1;cases y1;rw[y2,x2]
  obtain⟨wA,hA,GA,aj⟩:=tK (I9 (P:=P) (ty:=0) (pos := "") (af:=#[]) (gd:=none) (t:=t1) (x:=.tmp i1) (y:=.const (.slice none 0 0)) (k:=k1) (o:=0) (n:=1) bf g3 o1 rfl rfl rfl rfl) U;obtain⟨wB,hB,GB,al⟩:=tK (I9 (P:=P) (ty:=0) (pos := "") (af:=#[]) (gd:=none) (t:=t2) (x:=.tmp i2) (y:=.const (.int .i64 e)) (k:=k2) (o:=0) (n:=1) bg g4 (by rw[A7 ax];exact o2) rfl rfl rfl rfl) aj;obtain⟨hc,av⟩:=ah B C e w2 wA wB (by rw[<-e1];exact hA) (by rw[<-e2];exact hB);refine .inr ⟨gV T e,JM ab,(k2,.box [.p (.v (.int .i64 e))])::(k1,.box [.p (.v (.slice none 0 0))])::ao,GB,J::S.df,wB,rfl,U.defers,hQ,H (ds:=J::S.df) al,?_⟩;intro fn D R hR;refine⟨by simp,.inr ⟨fun h=>by simp[Fence.wide]at h,.func f,[B,C].toArray,f,[B,C].toArray,by rw[M],?_,fun _ _=>trivial,?_⟩⟩
  ·rw[M];simp only[invoke];rw[show (#[]:Array Value)++[B,C].toArray=[B,C].toArray by simp];exact hc
  ·refine CallsDIn.mono av ?_;rintro en u' w' ⟨⟨v,rfl⟩,am,rfl⟩;show LeavesInM _ _ _ _ _ _ _ (settle u') _;rw[am];exact hR
 | _=>exact hq.elim
theorem f_makeG(k:Nat){t e:TypeId}{A F:Nat}{x y:Operand}{kx ky:IntKind}{n:Int}(α:Type)(c:α->Nat->Cell)(D:α){z:Value}[ht:TySl P t e A F][hzz:TyZero P e z]
  (hx:opv fr x=some (H6 (.int kx n)))(hy:opv fr y=some (H6 (.int ky n)))(h0:0<=n)(hn:n<=1073741824)
  (ah:∀rd:Rd,All2 (Cell.rep rd) (cellsOf c D 0 A) z.cells.toList)(hf:(H7 k fr&&J2 k ob)=true) :
  EffV P ⟨dst,.makeSlice t x y,ty,pos,af,gd⟩ fr ob (.s (.one (.mut k))) fr ((k,.grow e α A c (List.replicate n.toNat D))::ob):=by
 simp only[B24]at hf;obtain⟨U,V⟩:=hf;obtain⟨Y,hk,Z⟩:=F7 V;have W:=V4 U;have hz:((P.info? e).bind (·.zero)).map (fun z=>z.cells.toList)=some z.cells.toList:=by rw[hzz.out.1];rfl
 intro S G a w h;obtain⟨ac,f,ak,aj,q⟩:=ht.out;cases M:P.info? e with
 | none=>simp[M]at f
 | some i =>
 simp[M]at f;obtain⟨ab,T⟩:=f;cases J:i.zero with
 | none=>simp[M,J]at q
 | some z2 =>
 simp[M,J]at q hz;have K:(i.bytes:Int)*n<=281474976710656:=by
  have h1:(i.bytes:Int)<=4096:=by omega
  have h2:(i.bytes:Int)*n<=4096*1073741824:=by
   have:i.bytes*n.toNat<=4096*1073741824:=Nat.mul_le_mul (by omega) (by omega);have h3:((i.bytes*n.toNat:Nat):Int)<=((4096*1073741824:Nat):Int):=by exact_mod_cast this
   rw[Int.natCast_mul]at h3;have h4:(n.toNat:Int)=n:=by omega
   rw[h4]at h3;omega
  omega
 have hr:=run_make (P:=P) w t e i z2 ac M J kx ky n n h0 (Int.le_refl _) K (by omega);rw[ab]at hr;obtain⟨C,I⟩:∃C,C=madeCells z2.cells (n.toNat*A):=⟨_,rfl⟩
 have H:C.size=n.toNat*A:=by rw[I];exact size_madeCells _ _
 rw[<-I]at hr;refine H4 (w':=w.alloc (.cells C e)) (v:=.slice (some ⟨w.heap.size,0,none⟩) n.toNat n.toNat) ?_ ?_
 ·simp only[execOp,E9 h hx,E9 h hy];exact K2 hr
 ·have ag:Below w.heap.size w (w.alloc (.cells C e)):=(Below.refl _ _).alloc (B29 _) _;have hu:∀b,blk (.slice (some ⟨w.heap.size,0,none⟩) n.toNat n.toNat)=some b->w.heap.size<=b:=by intro b hb;simp[blk]at hb;omega
  have Q:(List.replicate n.toNat D).length=n.toNat:=B86;have O:(w.alloc (.cells C e)).ownsRow S.B e A (.slice (some ⟨w.heap.size,0,none⟩) n.toNat n.toNat) (List.replicate n.toNat D).length C.toList:=by
   rw[Q];exact⟨by simpa using H,.inr ⟨w.heap.size,n.toNat,C,rfl,h.size,heap_alloc_new w _,B29 _,by unfold maxLen;omega,H,(by rw[<-H];exact B38)⟩⟩
  have E:=h.new Z hk (o:=.grow e α A c (List.replicate n.toNat D)) (u:=.slice (some ⟨w.heap.size,0,none⟩) n.toNat n.toNat) ag hu ⟨C.toList,O,by rw[Q];omega,fun m hm j hj=>by
   have X:m<n.toNat:=by simpa using hm
   have ai:=ah (D9 (Mut S ((k,Ob.grow e α A c (List.replicate n.toNat D))::Obs.forget k ob) (upd G k (.slice (some ⟨w.heap.size,0,none⟩) n.toNat n.toNat))) (w.alloc (.cells C e)));have L:(cellsOf c D 0 A)[j]?=some (c D j):=by
    have N:j<(cellsOf c D 0 A).length:=by rw[K3];exact hj
    rw[B23 N];have:=V3 c D A 0 j _ (B23 N);rw[this.1,B70]
   obtain⟨u,ad,ae⟩:=ai.get j _ L;refine⟨u,?_,by simpa using ae⟩;rw[Array.getElem?_toList,I,qK q X hj,<-Array.getElem?_toList,hz]
   exact ad⟩
  rw[W,Y]at E;exact⟨_,E,(H3 _ _ _).symm,rfl⟩
theorem YH{d:Rd}{G:Gh}{v:Value}:∀(j:List PV),(mZ j).rep d G v->ResRep d j v:=by
 have l:∀b:List Cell,fH (b.map TC.p)=some b:=fun b=>by
  induction b with
  | nil=>rfl
  | cons c b k=>rw[B50,fH,k];rfl
 have key:∀{p:PV} {u:Value},(p.s1).rep d G u->p.rep d u:=fun {p u} h=>by
  cases p with
  | one c=>exact h
  | agg b =>
   obtain⟨m,g,i⟩:=h;exact⟨m,g,aH (l b) i⟩
 have f:∀(ps:List PV) (a:List Value),All2 (S1.rep d G) (ps.map PV.s1) a->All2 (PV.rep d) ps a:=fun ps=>by
  induction ps with
  | nil=>intro a h;cases a with | nil=>trivial | cons=>exact h.elim
  | cons p ps k =>
   intro a h;cases a with
   | nil=>exact h.elim
   | cons u a=>exact⟨key h.1,k a h.2⟩
 intro j h
 match j,h with
 | [p],h=>exact key h
 | [],⟨a,g,i⟩=>exact⟨a,g,f [] a i⟩
 | p::q::r,⟨a,g,i⟩=>exact⟨a,g,f (p::q::r) a i⟩
theorem FnOk.ofMet{P:Program}{f:FuncId}{d:List PV}{ks:List Nat}{W:List S1->Obs->Prop}{y:List PV->Prop}(h:Met P f (d.map PV.s1) [] [] ks W)
  (hp:∀E ob',W E ob'->∃(k:Nat) (α:Type) (D:Nat) (c:α->Nat->Cell) (I:List α) (e:TypeId) (q:List PV),ob'=[(k,.grow e α D c I)]/\Nat.blt 0 D=true/\(kQ E).freeze k α D c I=mZ q/\y q):FnOk P f d y:=by
 refine⟨h.1,fun w M t hg hM ha=>?_⟩;let S:Ctx:={ w0:=w,M0:=M,io:=fun _=>False,nt:=0,pin:=fun _=>undef,gv:=fun _=>undef }
 obtain⟨G,hG⟩:∃G:Gh,G=fun _=>undef:=⟨_,rfl⟩
 obtain⟨a,F⟩:∃a:Act,a={ tmps:=#[],defers:=[] }:=⟨_,rfl⟩
 have J:∀G b i,Mut S [] G b i↔M b i:=fun G b i=>⟨fun h=>h.elim id fun ⟨k,o,u,_⟩=>(by cases u),.inl⟩
 have Q:∀G b i z,D9 M w b i z->D9 (Mut S [] G) w b i z:=fun G b i z U=>⟨U.1,fun N=>U.2 ((J G b i).1 N)⟩
 have hs:Sim P S [] [] G a w:=by
  refine { nt:=by rw[F];rfl,ntb:=by show 0<=1000000;omega,defers:=by rw[F],os:=rfl,tape:=rfl,output:=rfl,size:=B29 _,keep:=fun _ _ _=>rfl,m0:=hM,m0io:=fun _ _ _=>id,grd:=hg,pin:=fun _ _=>by rw[hG],old:=fun k o b u=>(by cases u),dis:=fun k k' o o' b u=>(by cases u),obs:=fun k o u=>(by cases u),facts:=fun i s x=>by cases x }
 have C:All2 (S1.rep (D9 (Mut S [] G) w) G) (d.map PV.s1) t:=by
  have:∀(ps:List PV) (A:List Value),All2 (PV.rep (D9 M w)) ps A->All2 (S1.rep (D9 (Mut S [] G) w) G) (ps.map PV.s1) A:=by
   intro ps;induction ps with
   | nil=>intro A h;cases A with | nil=>trivial | cons=>exact h.elim
   | cons p ps ih =>
    intro A h;cases A with
    | nil=>exact h.elim
    | cons v A=>exact⟨PV.rep_s1 (PV.rep_mono (Q G) h.1),ih A h.2⟩
  exact this d t ha
 refine (h.2 (fun i s x=>by cases x) S G a w t hs C).mono ?_;rintro e w' ⟨v,E,ob',G',rfl,B,H,j⟩;obtain⟨k,α,D,c,I,X,q,rfl,K,L,O⟩:=hp E ob' B;have R:Sim P { S with gv:=fun _=>v } [(1000000,kQ E)] [(k,.grow X α D c I)] G' a w':=by
  refine { j with facts:=fun i s x=>?_ };by_cases e:1000000=i
  ·subst e;rw[C2]at x;cases x;rw[Ctx.sl_ge (B29 _)];exact H
  ·rw[B5 e]at x;cases x
 have Y:=R.freezeG (k:=k) (by rw[B4]) (by simpa using K);have T:=Y.facts 1000000 (SV.freeze k α D c I (kQ E)) (C2 _ _ _);rw[Ctx.sl_ge (B29 _),L]at T;have Z:=YH q T;refine⟨v,q,rfl,O,Z.mono (fun b i z V=>⟨V.1,fun N=>V.2 (.inl N)⟩),⟨j.os,j.tape,j.output,j.size,fun k u=>j.keep k u id⟩⟩
def FreeKs(a:List Nat)(fr:Fr):Prop:=∀k,E8 a k=true->H7 k fr=true
theorem FreeKs.nil{a:List Nat}:FreeKs a []:=fun _ _=>rfl
theorem FreeKs.cons{a:List Nat}{i:Nat}{s:SV}{fr:Fr}(c:∀k,E8 a k=true->s.free k=true)(d:FreeKs a fr):FreeKs a ((i,s)::fr):=fun k b=>by
 simp only[H7,B24];exact⟨c k b,d k b⟩
theorem BD{k:Nat}:∀{F:Fr},(∀p∈F,p.2.free k=true)->H7 k F=true
 | [],_=>rfl
 | (i,s)::r,h=>by
  simp only[H7,B24];exact⟨h (i,s) (B52 ..),BD fun p a=>h p (B46 _ a)⟩
theorem FreeKs.gf{ks K:List Nat}{gf:Fr}(h:∀k,E8 ks k=true->E8 K k=true):FreeKs ks (B2 K gf):=fun k a=>BD (u6 (h k a))
theorem FreeKs.eq:∀{a:List Nat} {fr:Fr},FreeKs a fr->B2 a fr=fr
 | [],_,_=>rfl
 | k::a,fr,h=>by
  show B2 a (Fr.forget k fr)=fr;rw[V4 (h k (t8.2 (B52 ..)))];exact FreeKs.eq fun j b=>h j (t8.2 (B46 _ (t8.1 b)))
theorem JN{f:FuncId}{k:List Operand}{i:Array TypeId}{ty:TypeId}{pos:String}{af:Array Edge}{b:List S1}{m:List Nat}{g:List S1->Obs->Prop}
  (q:Met P f b (dN fr) ob m g)(j:FreeKs m fr)(ha:r7 fr k=some b)(o:k.all F9=true)(p:Nat.blt d nt=true)
  (s:∀h ob',g h ob'->WpL P nt ops rest ((d,kQ h)::fr) ob' Q):WpL P nt ops (⟨some d,.call ⟨.value (.func f),k.toArray,i⟩,ty,pos,af,none⟩::rest) fr ob Q :=
 tE q ha o p fun h ob' r=>by rw[j.eq];exact s h ob' r
theorem L2{f:FuncId}{xs:List Operand}{k:Array TypeId}{ty:TypeId}{pos:String}{af:Array Edge}{b:List S1}{o:List Nat}{g:List S1->Obs->Prop}{j:Int->Obs->Prop}
  (s:MetX P T f b (dN fr) ob o g j)(h:FreeKs o fr)(ha:r7 fr xs=some b)(q:xs.all F9=true)(r:Nat.blt d nt=true)
  (w:∀e ob',j e ob'->Q (.panic (gV T e)) fr ob')
  (t:∀rs ob',g rs ob'->WpL P nt ops rest ((d,kQ rs)::fr) ob' Q):WpL P nt ops (⟨some d,.call ⟨.value (.func f),xs.toArray,k⟩,ty,pos,af,none⟩::rest) fr ob Q :=
 l_metX s ha q r (fun e ob' m=>by rw[h.eq];exact w e ob' m) fun rs ob' m=>by rw[h.eq];exact t rs ob' m
theorem NC{f:FuncId}{g:Operand}{t:List Operand}{q:Array TypeId}{ty:TypeId}{pos:String}{af:Array Edge}{y x:List (Nat×Nat)}{b:List S1}{w:List Nat}{h:List S1->Obs->Prop}{k:Int->Obs->Prop}
  (B:MetX P T f (y.map AO++b++x.map AO) (dN fr) ob w h k)(j:FreeKs w fr)(C:opv fr g=some (.s (.one (.clo f y x))))(ha:r7 fr t=some b)(z:t.all F9=true)(A:Nat.blt d nt=true)
  (E:∀e ob',k e ob'->Q (.panic (gV T e)) fr ob')
  (D:∀m ob',h m ob'->WpL P nt ops rest ((d,kQ m)::fr) ob' Q):WpL P nt ops (⟨some d,.call ⟨.value g,t.toArray,q⟩,ty,pos,af,none⟩::rest) fr ob Q :=
 l_metXF B C ha z A (fun e ob' r=>by rw[j.eq];exact E e ob' r) fun m ob' r=>by rw[j.eq];exact D m ob' r
theorem yS(k:Nat):∀(K:List Nat) (fr:Fr),E8 K k=true->B2 K (Fr.forget k fr)=B2 K fr:=fun K fr h=>by rw[kR,dA h]
theorem qQ:∀{ks K:List Nat} {fr:Fr},(∀k,E8 ks k=true->E8 K k=true)->B2 K (B2 ks fr)=B2 K fr
 | [],_,_,_=>rfl
 | k::ks,K,fr,h=>by
  show B2 K (B2 ks (Fr.forget k fr))=_;rw[qQ (ks:=ks) fun j a=>h j (t8.2 (B46 _ (t8.1 a)))];exact yS k K fr (h k (t8.2 (B52 ..)))
theorem Met.more{f:FuncId}{b:List S1}{gf:Fr}{l K:List Nat}{c:List S1->Obs->Prop}(h:Met P f b gf ob l c)(y:∀k,E8 l k=true->E8 K k=true):Met P f b gf ob K c :=
 ⟨h.1,fun x S G a w d z ha=>(h.2 x S G a w d z ha).mono fun e w' ⟨v,A,ob',G',p,q,r,g⟩=>by
  refine⟨v,A,ob',G',p,q,r,{ g with facts:=fun i s j=>?_ }⟩;rw[<-qQ y]at j;obtain⟨s0,t,u⟩:=kS j
  exact u _ _ _ (g.facts i s0 t)⟩
theorem Met.conv{f:FuncId}{g:List S1}{gf:Fr}{u:List Nat}{j d:List S1->Obs->Prop}(h:Met P f g gf ob u j)(E:∀p ob',j p ob'->∃c,d p c/\∀k o,B0 c k=some o->B0 ob' k=some o):Met P f g gf ob u d :=
 ⟨h.1,fun D S G a w q F ha=>(h.2 D S G a w q F ha).mono fun e w' ⟨v,p,ob',G',y,A,B,C⟩=>by
  obtain⟨c,H,x⟩:=E p ob' A;refine⟨v,p,c,G',y,H,SV.rep_mono (fun b i z t=>⟨t.1,fun s=>t.2 ?_⟩) B,C.weakenO x⟩;rcases s with s | ⟨k,o,hk,ho⟩
  ·exact .inl s
  ·exact .inr ⟨k,o,x k o hk,ho⟩⟩
def To(_n:Nat)(G' G:Prop):Prop:=G'->G
theorem to_stop{G:Prop}:To 0 G G:=fun x=>x
theorem to_step{n:Nat}{G G1 G':Prop}(h:G1->G)(k:To n G' G1):To (n+1) G' G:=fun x=>h (k x)
theorem to_free{n:Nat}{G G1 G':Prop}(h:G1->G)(k:To n G' G1):To n G' G:=fun x=>h (k x)
attribute [irreducible] To
theorem tt{n:Nat}{G G':Prop}(h:To n G' G:=by (repeat (first | (apply to_free;first | with_reducible exact k1 | with_reducible exact k4 | with_reducible exact k11 | with_reducible exact k12 | with_reducible exact k7 | ((with_reducible refine k8 ?_);rfl) | ((with_reducible refine k9 ?_);rfl)) | exact to_stop | (apply to_step;first | exact H5 rfl rfl rfl (by decide) rfl | exact k2 | exact A9 (C4 rfl rfl) rfl | exact dM | exact FS | exact A9 (Y0 rfl rfl) rfl | exact k10 | exact k5 | exact k3 | exact A9 (X6 rfl rfl (by omega)) rfl | exact A9 (D3 rfl) rfl | exact A9 (D1 rfl rfl rfl) rfl | exact D2 (C4 rfl rfl) rfl rfl | exact A9 (gO rfl (.pure _ _ _ _)) rfl | exact A9 (MD rfl rfl) rfl | exact A9 (aG rfl rfl) rfl | exact k6 | exact V2 (I9 TySz.out rfl rfl rfl rfl rfl rfl) | exact E3 rfl rfl rfl rfl (fun c=>by rw[c];exact C4 rfl rfl) | exact A9 (aE rfl (fun h=>by first | rfl | (rw[h];rfl)) (fun h=>by first | rfl | (rw[h];rfl))) rfl | exact A9 (F1 rfl (.pure _ _ _ _) rfl (by omega) (by assumption)) rfl | exact A9 (ME rfl rfl) rfl | exact A9 (S8 rfl rfl) rfl | exact D2 (D3 rfl) rfl rfl | exact A9 (C9 rfl) rfl | exact D2 (D1 rfl rfl rfl) rfl rfl | exact d_nil | exact A9 (VZ rfl) rfl | exact D2 (Y0 rfl rfl) rfl rfl | exact A9 (I1 rfl rfl) rfl | exact A9 (S7 rfl rfl (by omega)) rfl | exact iO (by kernel_rfl) (by kernel_rfl) | exact A9 (N3 rfl) rfl | exact A9 (zT rfl rfl) rfl | exact A9 (sZ rfl) rfl | exact A9 (aF rfl rfl rfl) rfl | exact D2 (C9 rfl) rfl rfl | exact G6 rfl rfl (fun c=>by rw[c];exact C4 rfl rfl) rfl rfl | exact A9 (pA rfl) rfl | exact D2 (S8 rfl rfl) rfl rfl | exact A9 (n_geq rfl rfl) rfl | exact A9 (sW rfl rfl) rfl | exact A9 (rU rfl (by kernel_rfl)) rfl | exact D2 (aG rfl rfl) rfl rfl | exact D2 (F1 rfl (.pure _ _ _ _) rfl (by omega) (by assumption)) rfl rfl | exact E3 rfl rfl rfl rfl (fun c=>by rw[c];exact D1 rfl rfl rfl) | exact B6 (R7 rfl rfl rfl (.pure _ _ _ _) (by (simp only[B31,List.length_nil];omega)) rfl) rfl | exact E3 rfl rfl rfl rfl (fun c=>by rw[c];exact D3 rfl) | exact A9 (IY rfl rfl) rfl | exact E3 rfl rfl rfl rfl (fun c=>by rw[c];exact sW rfl rfl) | exact G6 rfl rfl (fun c=>by rw[c];exact D1 rfl rfl rfl) rfl rfl | exact D2 (aE rfl (fun h=>by first | rfl | (rw[h];rfl)) (fun h=>by first | rfl | (rw[h];rfl))) rfl rfl | exact A9 (JE rfl rfl) rfl | exact A9 (n_boxA rfl rfl rfl) rfl | exact G6 rfl rfl (fun c=>by rw[c];exact D3 rfl) rfl rfl | exact M4 rfl rfl rfl (.gd (.val _)) rfl (fun c=>by obtain⟨i,j⟩:=bE c;(try rw[i]);(try rw[j]);exact C4 rfl rfl) | exact D2 (X6 rfl rfl (by omega)) rfl rfl | exact E3 rfl rfl rfl rfl (fun c=>by rw[c];exact VZ rfl) | exact A9 (FV rfl) rfl | exact E3 rfl rfl rfl rfl (fun c=>by rw[c];exact ME rfl rfl) | exact E3 rfl rfl rfl rfl (fun c=>by rw[c];exact gO rfl (.pure _ _ _ _)) | exact E3 rfl rfl rfl rfl (fun c=>by rw[c];exact n_geq rfl rfl) | exact E3 rfl rfl rfl rfl (fun c=>by rw[c];exact zT rfl rfl) | exact A9 (G3 rfl rfl rfl (by omega) (by omega)) rfl | exact A9 (AN rfl rfl) rfl | exact A9 (jU rfl rfl (by first | omega | decide) (by omega)) rfl | exact E3 rfl rfl rfl rfl (fun c=>by rw[c];exact MD rfl rfl) | exact G6 rfl rfl (fun c=>by rw[c];exact S8 rfl rfl) rfl rfl | exact E3 rfl rfl rfl rfl (fun c=>by rw[c];exact n_leq rfl rfl) | exact A9 (n_min rfl rfl) rfl | exact B6 (e_cut_g rfl rfl rfl (by omega) (by omega) rfl) rfl | exact D2 (N3 rfl) rfl rfl | exact d_eff (I9 TySz.out rfl rfl rfl rfl rfl rfl) rfl | exact A9 (n_leq rfl rfl) rfl | exact A9 (FT rfl rfl (by omega)) rfl | exact A9 (n_bits rfl rfl rfl (fun _=>rfl)) rfl | exact E3 rfl rfl rfl rfl (fun c=>by rw[c];exact aE rfl (fun h=>by first | rfl | (rw[h];rfl)) (fun h=>by first | rfl | (rw[h];rfl))) | exact A9 (I5 rfl rfl rfl (by omega) (by omega)) rfl | exact A9 (gO rfl (.buf _ _ _ _ _)) rfl | exact A9 (SE rfl) rfl | exact D2 (ME rfl rfl) rfl rfl | exact A9 (mH rfl rfl (by omega)) rfl | exact D2 (l5 rfl rfl (by (simp only[B25,B31,List.length_nil];omega))) rfl rfl | exact E3 rfl rfl rfl rfl (fun c=>by rw[c];exact pA rfl) | exact A9 (n_shr rfl rfl (by omega)) rfl | exact M4 rfl rfl rfl (.gd (.val _)) rfl (fun c=>by obtain⟨i,j⟩:=bE c;(try rw[i]);(try rw[j]);exact MD rfl rfl) | exact G6 rfl rfl (fun c=>by rw[c];exact MD rfl rfl) rfl rfl | exact A9 (aZ rfl) rfl | exact D2 (sW rfl rfl) rfl rfl | exact A9 (VY rfl rfl) rfl | exact A9 (X6 rfl rfl (by ((try dsimp only);omega))) rfl | exact A9 (YF rfl) rfl | exact A9 (XX rfl) rfl | exact D2 (MD rfl rfl) rfl rfl | exact D2 (gO rfl (.pure _ _ _ _)) rfl rfl | exact D2 (cG rfl (.pure _ _ _ _) rfl rfl (by omega) (by omega) (by omega)) rfl rfl | exact A9 (n_compl rfl rfl (fun _=>rfl)) rfl)))):To n G' G:=h
theorem zc(n:Nat){P:Program}{nt:Nat}{fr:Fr}{ob:Obs}{Q:Post}{t:Tmp}{x y:Code}{b:Bool}{G:Prop}(a:b=true->WpC P nt x fr ob Q)(f:b=false->WpC P nt y fr ob Q)(h:To n (WpC P nt (.cond (.tmp t) x y) fr ob Q) G:=by exact tt)(g:Z3 fr t=some (.s (.one (.p (.v (.bool b))))):=by rfl):G:=by unfold To at h;exact h (c_cond g a f)
theorem zz(n:Nat){G G':Prop}(k:G')(h:To n G' G:=by exact tt):G:=by unfold To at h;exact h k
theorem lf{fr fr':Fr}(h:FrLe fr fr':=by (repeat (first | exact trivial | refine⟨cL rfl,?_⟩))):FrLe fr fr':=h
theorem lo{ob ob':Obs}(h:ObIn ob ob':=by (repeat (first | exact trivial | refine⟨rfl,?_⟩))):ObIn ob ob':=h
theorem ET{P:Program}{nt:Nat}{ops:Array Oper}{rest:List Oper}{fr:Fr}{ob:Obs}{Q:Post}{d:Nat}{ty:TypeId}{pos:String}{af:Array Edge}{f:FuncId}{b:Array Operand}{g:Array TypeId}{ps rs:List PV}(j:FnOk P f ps (fun r=>r=rs))(ha:cH fr b.toList=some ps)(h:b.toList.all F9=true)(i:Nat.blt d nt=true)(k:WpL P nt ops rest ((d,mZ rs)::fr) ob Q):WpL P nt ops (⟨some d,.call ⟨.value (.func f),b,g⟩,ty,pos,af,none⟩::rest) fr ob Q:=y5 j ha h i (by rintro _ rfl;exact k)
theorem F0{P:Program}{nt:Nat}{ops:Array Oper}{rest:List Oper}{fr:Fr}{ob:Obs}{Q:Post}{d:Nat}{ty:TypeId}{pos:String}{af:Array Edge}{f:FuncId}{b:Array Operand}{g:Array TypeId}{ps rs:List PV}(j:FnOk P f ps (fun r=>r=rs))(k:WpL P nt ops rest ((d,mZ rs)::fr) ob Q)(ha:cH fr b.toList=some ps:=by rfl)(h:b.toList.all F9=true:=by rfl)(i:Nat.blt d nt=true:=by rfl):WpL P nt ops (⟨some d,.call ⟨.value (.func f),b,g⟩,ty,pos,af,none⟩::rest) fr ob Q:=y5 j ha h i (by rintro _ rfl;exact k)
theorem C6{p:Prop}(h:p:=by exact Sees.of lf lo):p:=h
theorem M9{P:Program}{nt:Nat}{ops:Array Oper}{rest:List Oper}{fr:Fr}{ob O:Obs}{Q:Post}{d:Nat}{f:FuncId}{xs:List Operand}{g:Array TypeId}{ty:TypeId}{pos:String}{af:Array Edge}{b R:List S1}{ks:List Nat}(j:Met P f b (dN fr) ob ks (fun rs ob'=>rs=R/\ob'=O))(ha:r7 fr xs=some b)(h:xs.all F9=true)(i:Nat.blt d nt=true)(k:WpL P nt ops rest ((d,kQ R)::B2 ks fr) O Q):WpL P nt ops (⟨some d,.call ⟨.value (.func f),xs.toArray,g⟩,ty,pos,af,none⟩::rest) fr ob Q:=tE j ha h i (by rintro _ _ ⟨rfl,rfl⟩;exact k)
theorem YI{P:Program}{nt:Nat}{ops:Array Oper}{rest:List Oper}{fr:Fr}{ob O:Obs}{Q:Post}{d:Nat}{f:FuncId}{i:List Operand}{g:Array TypeId}{ty:TypeId}{pos:String}{af:Array Edge}{b R:List S1}{j:List Nat}(o:Met P f b (dN fr) ob j (fun q ob'=>q=R/\ob'=O))(h:FreeKs j fr)(ha:r7 fr i=some b)(k:i.all F9=true)(m:Nat.blt d nt=true)(p:WpL P nt ops rest ((d,kQ R)::fr) O Q):WpL P nt ops (⟨some d,.call ⟨.value (.func f),i.toArray,g⟩,ty,pos,af,none⟩::rest) fr ob Q:=JN o h ha k m (by rintro _ _ ⟨rfl,rfl⟩;exact p)
theorem GO{G G':Prop}(k:G')(h:To 0 G' G:=by exact tt):G:=zz 0 k h
theorem F8{G G':Prop}(k:G')(h:To 1 G' G:=by exact tt):G:=zz 1 k h
theorem H2{G G':Prop}(k:G')(h:To 2 G' G:=by exact tt):G:=zz 2 k h
theorem H8{G G':Prop}(k:G')(h:To 3 G' G:=by exact tt):G:=zz 3 k h
theorem R6{G G':Prop}(k:G')(h:To 4 G' G:=by exact tt):G:=zz 4 k h
theorem I0{G G':Prop}(k:G')(h:To 5 G' G:=by exact tt):G:=zz 5 k h
theorem N0{G G':Prop}(k:G')(h:To 6 G' G:=by exact tt):G:=zz 6 k h
theorem J5{G G':Prop}(k:G')(h:To 7 G' G:=by exact tt):G:=zz 7 k h
theorem X0{G G':Prop}(k:G')(h:To 8 G' G:=by exact tt):G:=zz 8 k h
theorem U7{G G':Prop}(k:G')(h:To 9 G' G:=by exact tt):G:=zz 9 k h
theorem R9{G G':Prop}(k:G')(h:To 10 G' G:=by exact tt):G:=zz 10 k h
theorem o9{G G':Prop}(k:G')(h:To 11 G' G:=by exact tt):G:=zz 11 k h
theorem eI{G G':Prop}(k:G')(h:To 12 G' G:=by exact tt):G:=zz 12 k h
end Go.AL
