/- Plain laws. -/
import Derived.Test.YtgkjogphmmoakaaGreatDoorFs
set_option linter.all false
attribute [local semireducible] Go.AL.Neu Go.AL.Eff Go.AL.EffV Go.AL.WpL Go.AL.WpC Go.AL.FnOk Go.AL.LexD Go.AL.Sees Go.AL.RetOk Go.AL.FnIo Go.AL.Met Go.AL.RetS
namespace Go.AL
open Go Go.RowKit
variable {P:Program}{nt:Nat}{fr:Fr}{ob:Obs}
theorem Sim.shutB{S:Ctx}{G:Gh}{a:Act}{w:World}(h:Sim P S fr ob G a w){k t:Nat}{cs:List Cell}{α:Type}{c:α->Nat->Cell}{x:α}(A:B4 ob k=some (.box (cs.map .p)))(J:D4 fr t=some (.s (.one (.ref k 0))))(F:∀j,j<cs.length->cs[j]?=some (c x j)) :
  Sim P S ((t,.s (.one (.eref α cs.length c x 0)))::fr) (Obs.drop k ob) G a w:=by
 have D:=h.drop k;obtain⟨b,M,tt,y,H,ha⟩:=h.box A;have q:∀b i z,D9 (Mut S ob G) w b i z->D9 (Mut S (Obs.drop k ob) G) w b i z:=by
  intro b i z v;refine⟨v.1,fun g=>v.2 ?_⟩;rcases g with g | ⟨k',o',hk',hb⟩
  ·exact .inl g
  ·refine .inr ⟨k',o',?_,hb⟩;by_cases d:k'=k
   ·subst d;rw[O4]at hk';cases hk'
   ·rwa[M4 d]at hk'
 refine { D with facts:=fun i s u=>?_ };by_cases E:i=t
 ·subst E;rw[C7]at u;cases u;obtain⟨L,m,K⟩:=h.facts i _ J;rw[y]at m;cases m;refine⟨b,0,K,fun j I=>?_⟩;obtain⟨z,B,C⟩:=ha.get j (.p (c x j)) (by rw[C63,F j I];rfl);refine⟨z,⟨by rw[Nat.zero_add];exact cell_of_heap H (by simpa using B),fun g=>?_⟩,Cell.rep_mono (fun _ _ _ v=>q _ _ _ v) _ _ C⟩;rcases g with g | ⟨k',o',hk',hb,_⟩
  ·have:=h.m0 _ _ g;rcases h.old k _ b A (by rw[y];rfl) with h1 | h1
   ·omega
   ·exact h.m0io _ _ g h1.1
  ·by_cases d:k'=k
   ·subst d;rw[O4]at hk';cases hk'
   ·rw[M4 d]at hk';exact d (h.dis k' k o' _ b hk' A hb (by rw[y];rfl))
 ·rw[B9 (fun e=>E e.symm)]at u;exact D.facts i s u
theorem Sees.shutB{k t:Nat}{cs:List Cell}{α:Type}{c:α->Nat->Cell}(x:α)(d:B4 ob k=some (.box (cs.map .p)))(g:D4 fr t=some (.s (.one (.ref k 0))))(a:∀j,j<cs.length->cs[j]?=some (c x j)) :
  Sees P nt fr ob ((t,.s (.one (.eref α cs.length c x 0)))::fr) (Obs.drop k ob):=fun _ G _ _ _ h=>⟨G,h.shutB d g a⟩
theorem XP{a b:List Bool}(e:a.length=b.length)(h:∀x,F9 a x=F9 b x):a=b:=by
 refine List.ext_getElem e fun i c d=>?_;have:=h i;unfold F9 at this;rw[C29 c,C29 d]at this;exact this
theorem EF{l:List Bool}{i:Nat}(a:i<l.length)(h:F9 l i=false):(l.set i true).count false+1=l.count false:=by
 unfold F9 at h;rw[C29 a]at h;have h:l[i]=false:=h;rw[List.count_set a,h];have:0<l.count false:=List.count_pos_iff.2 (by rw[<-h];exact C35 a);simp only[beq_self_eq_true,if_true,beq_iff_eq,Bool.true_eq_false,if_false];omega
structure Dfs (g:Graph) (c:Nat) (x:Option Nat) (k:Nat) (out:List Bool) (op:List Int):Prop where
 len:out.length=g.length
 sound:∀y,F9 out y=true->c=y\/Reaches g c y
 start:F9 out c=true
 opn:∀y∈op,0<=y/\F9 out y.toNat=true
 at_:∀y,x=some y->F9 out y=true/\∀p∈(D8 g y).take k,F9 out p.toNat=true
 clo:∀y,F9 out y=true->(y:Int)∈op\/x=some y\/∀p∈D8 g y,F9 out p.toNat=true
theorem Dfs.init{g:Graph}{c:Nat}(f:c<g.length):Dfs g c none 0 ((List.replicate g.length false).set c true) [(c:Int)]:=by
 have b:∀y,F9 ((List.replicate g.length false).set c true) y=true->c=y:=fun y a=>by
  rw[fH]at a;have d:F9 (List.replicate g.length false) y=false:=by
   unfold F9;rw[List.getElem?_replicate];split<;>rfl
  rw[d,Bool.false_or]at a;exact (A0 a).1
 have hs:F9 ((List.replicate g.length false).set c true) c=true:=by
  rw[fH,A3 ⟨rfl,by rw[C74];exact f⟩,Bool.or_true]
 exact⟨by rw[C73,C74],fun y a=>.inl (b y a),hs,fun y a=>by rw[List.mem_singleton.1 a];exact⟨by omega,hs⟩,fun y a=>(by cases a),fun y a=>.inl (by rw[b y a];simp)⟩
theorem Dfs.pop{g:Graph}{c:Nat}{d:List Bool}{e:List Int}{x:Nat}(h:Dfs g c none 0 d (e++[(x:Int)])):Dfs g c (some x) 0 d e:=by
 refine⟨h.len,h.sound,h.start,fun y b=>h.opn y (by simp[b]),fun y b=>?_,fun y b=>?_⟩
 ·cases b;exact⟨(h.opn x (by simp)).2,fun p f=>by simp at f⟩
 ·rcases h.clo y b with a | a | a
  ·rcases C37.1 a with a | a
   ·exact .inl a
   ·refine .inr (.inl ?_);have:=List.mem_singleton.1 a
    congr 1;omega
  ·cases a
  ·exact .inr (.inr a)
theorem qB{l:List Int}{k:Nat}{p q:Int}(b:l[k]?=some p)(a:q∈l.take (k+1)):q∈l.take k\/q=p:=by
 rw[List.take_add_one,b]at a;simpa using a
theorem Dfs.skip{g:Graph}{c:Nat}{a:List Bool}{e:List Int}{x k:Nat}{p:Int}(h:Dfs g c (some x) k a e)(j:(D8 g x)[k]?=some p)(l:F9 a p.toNat=true):Dfs g c (some x) (k+1) a e:=by
 refine⟨h.len,h.sound,h.start,h.opn,fun y d=>?_,h.clo⟩;obtain⟨f,i⟩:=h.at_ y d;refine⟨f,fun q m=>?_⟩;cases d;rcases qB j m with b | b
 ·exact i q b
 ·rw[b];exact l
theorem Dfs.push{g:Graph}{c:Nat}{d:List Bool}{z:List Int}{x k p:Nat}(h:Dfs g c (some x) k d z)(w:(D8 g x)[k]?=some (p:Int))(A:p<g.length):Dfs g c (some x) (k+1) (d.set p true) (z++[(p:Int)]):=by
 have b:∀{y},F9 d y=true->F9 (d.set p true) y=true:=fun {y} a=>by rw[fH,a,Bool.true_or]
 have s:F9 (d.set p true) p=true:=by rw[fH,A3 ⟨rfl,by rw[h.len];exact A⟩,Bool.or_true]
 have f:(p:Int)∈D8 g x:=C53 w;refine⟨by rw[C73];exact h.len,fun y a=>?_,b h.start,fun y a=>?_,fun y a=>?_,fun y a=>?_⟩
 ·rw[fH,C64]at a;rcases a with a | a
  ·exact h.sound y a
  ·have j:=(A0 a).1;subst j;rcases h.sound x (h.at_ x rfl).1 with t | t
   ·subst t;exact .inr (.one f)
   ·exact .inr (.more t f)
 ·rcases C37.1 a with a | a
  ·exact⟨(h.opn y a).1,b (h.opn y a).2⟩
  ·rw[List.mem_singleton.1 a];exact⟨by omega,by rw[C31];exact s⟩
 ·cases a;refine⟨b (h.at_ x rfl).1,fun q v=>?_⟩;rcases qB w v with u | u
  ·exact b ((h.at_ x rfl).2 q u)
  ·rw[u,C31];exact s
 ·rw[fH,C64]at a;rcases a with a | a
  ·rcases h.clo y a with j | j | j
   ·exact .inl (by simp[j])
   ·exact .inr (.inl j)
   ·exact .inr (.inr fun q v=>b (j q v))
  ·rw[<-(A0 a).1];exact .inl (by simp)
theorem Dfs.close{g:Graph}{c:Nat}{b:List Bool}{f:List Int}{x:Nat}(h:Dfs g c (some x) (D8 g x).length b f):Dfs g c none 0 b f:=by
 refine⟨h.len,h.sound,h.start,h.opn,fun y d=>by (cases d),fun y d=>?_⟩;rcases h.clo y d with a | a | a
 ·exact .inl a
 ·refine .inr (.inr fun p j=>?_);cases a;exact (h.at_ x rfl).2 p (by rw[C44];exact j)
 ·exact .inr (.inr a)
theorem Dfs.done{g:Graph}(o:related g=true){c:Nat}(t:c<g.length){b:List Bool}(h:Dfs g c none 0 b []):b=N0 g [(c:Int)]:=by
 have i:=fun x=>oI o (s:=[(c:Int)]) (fun f j=>by rw[List.mem_singleton.1 j];omega) x;have e:∀y,F9 b y=true->∀p:Nat,(p:Int)∈D8 g y->F9 b p=true:=fun y l p n=>by
  rcases h.clo y l with a | a | a
  ·cases a
  ·cases a
  ·have:=a _ n;rwa[C31]at this
 have d:∀y,Reaches g c y->F9 b y=true:=fun y l=>by
  induction l with
  | one a=>exact e c h.start _ a
  | more _ m r=>exact e _ r _ m
 refine XP (by rw[h.len,gI]) fun x=>?_;rw[Bool.eq_iff_iff,i x];constructor
 ·intro q;exact⟨c,by simp,h.sound x q⟩
 ·rintro⟨f,j,a⟩;have k:f=c:=by have:=List.mem_singleton.1 j;omega
  rw[k]at a;rcases a with a | a
  ·rw[<-a];exact h.start
  ·exact d x a
def EG(g:Graph)(a b:Nat)(i:Nat):Bool:=F9 (N0 g [(a:Int)]) i&&F9 (N0 g [(b:Int)]) i
def W5(g:Graph)(a b n:Nat):List Int:=((List.range n).filter fun i=>EG g a b i).map fun (i:Nat)=>(i:Int)
theorem SO(g:Graph)(a b n:Nat):W5 g a b (n+1)=if EG g a b n=true then W5 g a b n++[(n:Int)] else W5 g a b n:=by
 unfold W5;rw[C75,C83,C50];by_cases h:EG g a b n=true
 ·rw[A5 h,C80,A5 h];rfl
 ·rw[A6 h,C80,A6 h];simp
theorem XQ(g:Graph)(a b n:Nat):(W5 g a b n).length<=n:=by
 unfold W5;rw[C55];exact Nat.le_trans (List.length_filter_le _ _) (by rw[C72];exact Nat.le_refl _)
def O0(g:Graph)(cov:List Bool)(c:Int)(n:Nat):List Bool:=(List.range cov.length).map fun i=>F9 cov i||(decide (i<n)&&(F9 (N0 g [c]) i&&decide ((i:Int)≠c)))
def x5(g:Graph):List Int->List Bool->List Bool
 | [],cov=>cov
 | c::r,cov=>x5 g r (O0 g cov c g.length)
def GC(g:Graph)(l:List Int):List Int:=l.filter fun i=>!F9 (x5 g l (List.replicate g.length false)) i.toNat
def uJ(g:Graph)(a b:Nat):List Int:=GC g (W5 g a b g.length)
theorem aD(g:Graph)(cov:List Bool)(c:Int)(n:Nat):(O0 g cov c n).length=cov.length:=by unfold O0;rw[C55,C72]
theorem XR(g:Graph)(cov:List Bool)(c:Int):O0 g cov c 0=cov:=by
 refine XP (aD g cov c 0) fun x=>?_;unfold O0 F9;rw[C63];by_cases h:x<cov.length
 ·rw[C29 (by rw[C72];exact h),List.getElem_range];simp[F9]
 ·rw[C49 (by rw[C72];omega),C49 (by omega)];rfl
theorem EH{g:Graph}{a:List Bool}{c:Int}{n x:Nat}(h:x<a.length):(O0 g a c n)[x]?=some (F9 a x||(decide (x<n)&&(F9 (N0 g [c]) x&&decide ((x:Int)≠c)))):=by
 unfold O0;rw[C63,C29 (by rw[C72];exact h),List.getElem_range];rfl
theorem XS{g:Graph}{cov:List Bool}{c:Int}{n:Nat}(h:n<cov.length):(O0 g cov c n).set n (F9 (O0 g cov c n) n||(F9 (N0 g [c]) n&&decide ((n:Int)≠c)))=O0 g cov c (n+1):=by
 refine XP (by rw[C73,aD,aD]) fun x=>?_;have j:F9 (O0 g cov c n) n=F9 cov n:=by
  have:=EH (g:=g) (c:=c) (n:=n) h;unfold F9 at this ⊢;rw[this];simp
 rw[j];by_cases d:x<cov.length
 ·have i:F9 (O0 g cov c (n+1)) x=(F9 cov x||(decide (x<n+1)&&(F9 (N0 g [c]) x&&decide ((x:Int)≠c)))):=by
   have:=EH (g:=g) (c:=c) (n:=n+1) d;rw[show F9 (O0 g cov c (n+1)) x=((O0 g cov c (n+1))[x]?).getD false from rfl,this];rfl
  have f:F9 (O0 g cov c n) x=(F9 cov x||(decide (x<n)&&(F9 (N0 g [c]) x&&decide ((x:Int)≠c)))):=by
   have:=EH (g:=g) (c:=c) (n:=n) d;rw[show F9 (O0 g cov c n) x=((O0 g cov c n)[x]?).getD false from rfl,this];rfl
  rw[i];by_cases a:n=x
  ·subst a;unfold F9;rw[C90 (by rw[aD];exact h)];rw[show decide (n<n+1)=true by simp,Bool.true_and];rfl
  ·rw[show F9 ((O0 g cov c n).set n (F9 cov n||(F9 (N0 g [c]) n&&decide ((n:Int)≠c)))) x=F9 (O0 g cov c n) x by unfold F9;rw[List.getElem?_set_ne a],f];by_cases b:x<n
   ·rw[A3 b,A3 (show x<n+1 by omega)]
   ·rw[A4 b,A4 (show ¬x<n+1 by omega)]
 ·unfold F9;rw[C49 (by rw[C73,aD];omega),C49 (by rw[aD];omega)]
structure AG (A:Auto):Prop where
 len:1<=A.States.length/\A.States.length<=8000
 start:0<=A.Start/\A.Start<A.States.length
 good:∀q∈A.States,JE A.States.length q=true
theorem AG.check{A:Auto}(h:AG A):checkA A=0:=by
 obtain⟨a,b⟩:=h.len;obtain⟨c,d⟩:=h.start;unfold checkA;rw[A6 (by omega),A5 (List.all_eq_true.2 h.good)]
structure MG (A:Auto) (m:Mach):Prop where
 sl:m.2.length=A.States.length
 cnt:m.1.length+m.2.count false<=A.States.length
 st:∀t∈m.1,0<=t.state/\t.state<A.States.length
theorem count_set{sn:List Bool}:∀{i:Nat},sn[i]?=some false->(sn.set i true).count false+1=sn.count false:=by
 induction sn with
 | nil=>intro i h;cases h
 | cons b r a =>
  intro i h;cases i with
  | zero =>
   rw[List.getElem?_cons_zero]at h;cases h;simp
  | succ i =>
   rw[List.getElem?_cons_succ]at h;have:=a h;rw[List.set_cons_succ,C92,C92];omega
theorem MG.first(A:Auto):MG A ([],List.replicate A.States.length false):=⟨by simp,by simp,fun _ h=>by cases h⟩
theorem on_get{sn:List Bool}{i:Nat}(h:i<sn.length):sn[i]?=some (F9 sn i):=by
 unfold F9;rw[C29 h];rfl
theorem MG.push{A:Auto}{m:Mach}(h:MG A m){i:Int}(c:0<=i/\i<A.States.length)(fr:Int)(d:F9 m.2 i.toNat=false):MG A (m.1++[⟨i,fr⟩],m.2.set i.toNat true):=by
 have b:=h.sl;have e:=count_set (sn:=m.2) (i:=i.toNat) (by rw[<-d];exact on_get (by omega));have f:=h.cnt;refine⟨by dsimp only;rw[C73];exact b,by dsimp only;rw[C32,List.length_singleton];omega,fun t a=>?_⟩;rcases C37.1 a with a | a
 ·exact h.st t a
 ·rw[List.mem_singleton.1 a];exact c
section
variable (A:Auto) (s:Str)
variable {A}
theorem SP(fr:Int):∀a:List Thread,(SN fr a).length<=a.length/\∀t∈SN fr a,t∈a
 | []=>⟨Nat.le_refl _,fun _ h=>h⟩
 | t::r=>by
  have c:=SP fr r;unfold SN;split
  ·exact⟨Nat.zero_le _,fun _ h=>by cases h⟩
  ·refine⟨by rw[C34,C34];omega,fun x b=>?_⟩;rcases C36.1 b with rfl | b
   ·simp
   ·exact List.mem_cons_of_mem _ (c.2 x b)
theorem MG.keep{m:Mach}(h:MG A m)(fr:Int):MG A (SN fr m.1,m.2):=by
 have a:=SP fr m.1;have c:=h.cnt;exact⟨h.sl,by dsimp only;omega,fun t b=>h.st t (a.2 t b)⟩
end
section
variable (A:Auto) (s:Str)
abbrev epsOf(p:Nat)(k:Int):List Int:=ZX (oT A k) (decide (p=0)) (decide (p=s.length))
def reads(p:Nat)(k:Int):Prop:=(oT A k).Kind=0/\bitSet (oT A k).Set (s.getD p 0).toNat=1
inductive Run:Int->Nat->Prop
 | start {i:Nat} (hi:i<=s.length):Run A.Start i
 | eps {k j:Int} {p:Nat} (h:Run k p) (hj:j∈epsOf A s p k):Run j p
 | read {k:Int} {p:Nat} (h:Run k p) (hp:p<s.length) (hr:reads A s p k):Run (oT A k).Next (p+1)
abbrev inA(k:Int):Prop:=0<=k/\k<A.States.length
variable {A s}
variable (A s)
def onM(m:Mach)(k:Int):Prop:=inA A k/\F9 m.2 k.toNat=true
structure Sy (p:Nat) (m:Mach):Prop where
 mg:MG A m
 fr:∀t∈m.1,0<=t.from_
 sync:∀k,onM A m k↔∃t∈m.1,t.state=k
variable {A s}
theorem B02{a:List Bool}{i c:Nat}(b:i<a.length):F9 (a.set i true) c=(F9 a c||decide (i=c)):=by
 unfold F9;rw[C84];by_cases e:i=c
 ·subst e;rw[A5 rfl,A5 b];simp
 ·rw[A6 e];simp[e]
theorem B73{m:Mach}(d:MG A m){i:Int}(c:inA A i){fr:Int}(k:Int):onM A (m.1++[⟨i,fr⟩],m.2.set i.toNat true) k↔onM A m k\/k=i:=by
 unfold onM;rw[B02 (by rw[d.sl];have:=c.2;have:=c.1;omega),C64,decide_eq_true_eq];constructor
 ·rintro⟨a,b | b⟩
  ·exact .inl ⟨a,b⟩
  ·right;have:=c.1;have:=a.1;omega
 ·rintro (⟨a,b⟩ | rfl)
  ·exact⟨a,.inl b⟩
  ·exact⟨c,.inr rfl⟩
theorem Sy.push{p:Nat}{m:Mach}(h:Sy A p m){i:Int}(c:inA A i){fr:Int}(b:0<=fr)(d:F9 m.2 i.toNat=false):Sy A p (m.1++[⟨i,fr⟩],m.2.set i.toNat true) where
 mg:=h.mg.push c fr d
 fr:=fun t a=>by
  rcases C37.1 a with a | a
  ·exact h.fr t a
  ·rw[List.mem_singleton.1 a];exact b
 sync:=fun k=>by
  rw[B73 h.mg c,h.sync k];constructor
  ·rintro (⟨t,a,e⟩ | rfl)
   ·exact⟨t,List.mem_append_left _ a,e⟩
   ·exact⟨⟨k,fr⟩,by simp,rfl⟩
  ·rintro⟨t,a,e⟩;rcases C37.1 a with a | a
   ·exact .inl ⟨t,a,e⟩
   ·right;rw[<-e,List.mem_singleton.1 a]
def Shut(A:Auto)(s:Str)(p:Nat)(m:Mach):Prop:=∀k,onM A m k->∀j∈epsOf A s p k,onM A m j
theorem Sy.first(A:Auto)(p:Nat):Sy A p ([],List.replicate A.States.length false) where
 mg:=MG.first A
 fr:=fun _ h=>by cases h
 sync:=fun k=>by
  constructor
  ·rintro⟨b,a⟩;unfold F9 at a;rw[List.getElem?_replicate]at a;split at a<;>cases a
  ·rintro⟨_,h,_⟩;cases h
structure NI (A:Auto) (s:Str) (a:Nat) (m:Mach):Prop where
 sy:Sy A a m
 shut:Shut A s a m
 sound:∀k,onM A m k->Run A s k a
 all:∀p k,p+1=a->Run A s k p->reads A s p k->onM A m (oT A k).Next
 no:∀p k,p<a->Run A s k p->(oT A k).Kind≠4
end
def numF(s:Str)(i:Nat):Option (Int×Nat):=(j8 (s.drop i)).map fun p=>((p.1:Int),i+p.2)
theorem digs_le(s:Str):(M2 s).length<=s.length:=(List.takeWhile_sublist _).length_le
def okN(l:List Node):Prop:=∀(i:Nat) (n:Node),l[i]?=some n->fitsN n i=true
section
variable (s:Str)
abbrev inN(st:PSt)(k:Int):Prop:=0<=k/\k<st.nodes.length
structure Gr (a b:Nat) (st st':PSt):Prop where
 at_:st.at_<=st'.at_
 len:st'.at_<=s.length
 dep:st'.depth=st.depth
 cnt:st'.nodes.length+st.at_+a<=st.nodes.length+st'.at_+b
 more:st.nodes.length<=st'.nodes.length
 ok:okN st.nodes->okN st'.nodes
variable {s}
theorem Gr.trans{a b c d:Nat}{x y z:PSt}(h:Gr s a b x y)(g:Gr s c d y z):Gr s (a+c) (b+d) x z where
 at_:=Nat.le_trans h.at_ g.at_
 len:=g.len
 dep:=g.dep.trans h.dep
 cnt:=by have:=h.cnt;have:=g.cnt;omega
 more:=Nat.le_trans h.more g.more
 ok:=fun k=>g.ok (h.ok k)
theorem Gr.le{a b c d:Nat}{x y:PSt}(h:Gr s a b x y)(e:c+b<=a+d):Gr s c d x y where
 at_:=h.at_
 len:=h.len
 dep:=h.dep
 cnt:=by have:=h.cnt;omega
 more:=h.more
 ok:=h.ok
theorem Gr.refl{x:PSt}(h:x.at_<=s.length):Gr s 0 0 x x:=⟨Nat.le_refl _,h,rfl,by omega,Nat.le_refl _,fun h=>h⟩
structure GrAll (f:Nat):Prop where
 pat:∀{x y:PSt} {n:Int},x.at_<=s.length->patP s numF f x=.ok (y,n)->Gr s 0 2 x y/\inN y n
 loop:∀{x y:PSt} {kids:List Int} {n:Int},x.at_<=s.length->(∀k∈kids,inN x k)->NH s numF f x kids=.ok (y,n)->Gr s 0 1 x y/\inN y n
 alt:∀{x y:PSt} {kids:List Int} {n:Int},x.at_<=s.length->(∀k∈kids,inN x k)->altP s numF f x kids=.ok (y,n)->Gr s 0 1 x y/\inN y n
 piece:∀{x y:PSt} {c:UInt8} {n:Int},s[x.at_]?=some c->pieceP s numF f x c=.ok (y,n)->Gr s 0 0 x y/\inN y n
 paren:∀{x y:PSt} {n:Int},x.at_+1<=s.length->parenP s numF f x=.ok (y,n)->Gr s 0 0 x y/\inN y n
end
abbrev Lng:=Nat->Nat->Prop
section
variable (A:Auto) (s:Str)
def AcN:Nat->Int->Nat->Prop
 | 0,k,p=>(oT A k).Kind=4/\p<=s.length
 | n+1,k,p=>(∃j∈epsOf A s p k,AcN n j p)\/(p<s.length/\reads A s p k/\AcN n (oT A k).Next (p+1))
def Ac(k:Int)(p:Nat):Prop:=∃n,AcN A s n k p
def Leads(q next:Int)(R:Lng):Prop:=(∀n i,AcN A s n q i->∃m j,m<=n/\R i j/\AcN A s m next j)/\(∀i j,R i j->Ac A s next j->Ac A s q i)
variable {A s}
theorem Leads.congr{q next:Int}{R S:Lng}(h:Leads A s q next R)(a:∀i j,R i j↔S i j):Leads A s q next S :=
 ⟨fun n i ha=>let ⟨m,j,b,c,d⟩:=h.1 n i ha;⟨m,j,b,(a i j).1 c,d⟩,fun i j hs ha=>h.2 i j ((a i j).2 hs) ha⟩
theorem Leads.trans{q r t:Int}{R S:Lng}(h:Leads A s q r R)(g:Leads A s r t S):Leads A s q t (fun i j=>∃p,R i p/\S p j) :=
 ⟨fun n i ha=>let ⟨m,p,d,b,e⟩:=h.1 n i ha;let ⟨f,j,g1,a,c⟩:=g.1 m p e;⟨f,j,Nat.le_trans g1 d,⟨p,b,a⟩,c⟩,
  fun i j ⟨p,b,a⟩ ha=>h.2 i p b (g.2 p j a ha)⟩
end
variable {L:List Node}{s:Str}
def cellT(T:List (List Bool))(i j:Nat):Bool:=((T[i]?).getD [])[j]?.getD false
structure Tab (s:Str) (T:List (List Bool)) (R:Lng):Prop where
 len:T.length=s.length+1
 row:∀r∈T,r.length=s.length+1
 is:∀i j,i<=s.length->j<=s.length->(cellT T i j=true↔R i j)
theorem Tab.congr{T:List (List Bool)}{R S:Lng}(h:Tab s T R)(d:∀i j,i<=s.length->j<=s.length->(R i j↔S i j)):Tab s T S:=⟨h.len,h.row,fun i j b c=>(h.is i j b c).trans (d i j b c)⟩
variable {n:Node}{D:Int->Lng}
theorem Tab.cell{T:List (List Bool)}{R:Lng}(h:Tab s T R){i:Nat}(b:i<=s.length):∃a,T[i]?=some a/\a.length=s.length+1/\∀j,j<=s.length->a[j]?=some (cellT T i j):=by
 have d:=h.len;refine⟨T[i],C29 (by omega),h.row _ (C35 _),fun j c=>?_⟩;have e:=h.row T[i] (C35 _);unfold cellT;rw[C29 (show i<T.length by omega)];dsimp only[Option.getD_some];rw[C29 (by omega)];rfl
abbrev names4:List Str:=[[97],[98,47,120],[98,47,121],[99,32,100]]
theorem names4_asc:names4.Pairwise (fun x y=>zA x y=true):=by decide
theorem SQ:∀p∈names4,aB p=0/\p.length<=3:=by decide
theorem NJ:∀p∈names4,∀q∈names4,above p q=false:=by decide
def NoDig(b:Str):Prop:=∀c∈b,c.toNat<48\/57<c.toNat
theorem NoDig.app{a b:Str}(ha:NoDig a)(hb:NoDig b):NoDig (a++b):=fun c d=>(C37.1 d).elim (ha c) (hb c)
theorem NoDig.sub{a b:Str}(h:NoDig b)(hs:∀c∈a,c∈b):NoDig a:=fun c d=>h c (hs c d)
structure GN (L:Nat) (l:List File):Prop where
 sub:(l.map (·.Path)).Sublist names4
 cnt:∀f∈l,f.Blob.count 10<=L
 dig:∀f∈l,NoDig f.Blob
theorem GN.name{L:Nat}{l:List File}(h:GN L l):∀f∈l,f.Path∈names4:=fun _ a=>h.sub.subset (List.mem_map_of_mem a)
theorem GN.mono{L L':Nat}{l:List File}(h:GN L l)(a:L<=L'):GN L' l:=⟨h.sub,fun f b=>Nat.le_trans (h.cnt f b) a,h.dig⟩
theorem JF:∀{l:List File},AscS (l.map (·.Path))->ascend l=true
 | [],_=>rfl
 | [_],_=>rfl
 | f::g::r,h=>by
  rw[C39]at h;have b:=List.pairwise_cons.1 h;unfold ascend;rw[b.1 g.Path (by simp),JF b.2];rfl
theorem GN.asc{L:Nat}{l:List File}(h:GN L l):ascend l=true:=JF (names4_asc.sublist h.sub)
theorem GN.tree{L:Nat}{l:List File}(h:GN L l)(o:L+1<=4096)(i:∀f∈l,f.Blob.length<=1048576):K6 l=0:=by
 have d:l.length<=4:=by have:=h.sub.length_le;simpa using this
 unfold K6
 rw[A6 (by omega),A6 (fun a=>by
  obtain⟨f,b,c⟩:=List.any_eq_true.1 a
  exact A0 c (SQ _ (h.name f b)).1),A6 (fun a=>by
  rw[qY h.asc fun x j y k=>NJ _ (h.name x j) _ (h.name y k)]at a;cases a),A6 (fun a=>by
  obtain⟨f,b,c⟩:=List.any_eq_true.1 a;refine A0 c ?_;unfold s9;have m:=h.cnt f b;have n:=i f b;have e:=X0 f.Blob;rw[A6];rintro (g | g)
  ·omega
  ·split at e<;>omega)]
theorem SR{n:Int}:∀{ps a:List Int},(∀p∈ps,0<=p/\p<n/\p∉a)->ps.Nodup->mZ n a ps=true
 | [],_,_,_=>rfl
 | p::r,a,h,hn=>by
  have e:=List.nodup_cons.1 hn;unfold mZ;rw[A3 (h p (by simp)),Bool.true_and];refine SR (fun q d=>?_) e.2;have c:=h q (by simp[d]);refine⟨c.1,c.2.1,fun b=>?_⟩;rcases C37.1 b with b | b
  ·exact c.2.2 b
  ·rw[List.mem_singleton.1 b]at d;exact e.1 d
def OneWay(g:Graph):Prop:=(∀c p:Nat,(p:Int)∈D8 g c->p<c)\/(∀c p:Nat,(p:Int)∈D8 g c->c<p)
theorem OneWay.acyc{g:Graph}(h:OneWay g)(c:Nat):¬Reaches g c c:=by
 rcases h with h | h
 ·have f:∀{a b:Nat},Reaches g a b->b<a:=fun {a b} e=>by
   induction e with
   | one d=>exact h _ _ d
   | more _ d i=>have:=h _ _ d;omega
  exact fun e=>Nat.lt_irrefl _ (f e)
 ·have f:∀{a b:Nat},Reaches g a b->a<b:=fun {a b} e=>by
   induction e with
   | one d=>exact h _ _ d
   | more _ d i=>have:=h _ _ d;omega
  exact fun e=>Nat.lt_irrefl _ (f e)
theorem yJ:∀{g:List Commit},(∀c∈g,K6 c.Files=0)->p6 g=0
 | [],_=>rfl
 | c::r,h=>by
  unfold p6;rw[A6 (fun a=>a (h c (by simp)))];exact yJ fun d b=>h d (by simp[b])
structure GV (g:Graph):Prop where
 len:g.length<=16
 pars:∀c∈g,c.Parents.length<=3/\(∀p∈c.Parents,0<=p/\p<(g.length:Int))/\c.Parents.Nodup/\0<=c.Date/\c.Date<=5
 way:OneWay g
 files:∀c∈g,GN 2111 c.Files/\∀f∈c.Files,f.Blob.length<=1048576
theorem GV.check{g:Graph}(h:GV g):X8 g=0:=by
 have l:related g=true:=by
  unfold related;rw[List.all_eq_true];exact fun c a=>SR (fun p k=>⟨((h.pars c a).2.1 p k).1,((h.pars c a).2.1 p k).2,by simp⟩) (h.pars c a).2.2.1
 have j:¬cyclic g=true:=fun d=>by
  obtain⟨c,a⟩:=(kP l).1 d;exact h.way.acyc c a
 have m:=h.len;have b:bC g=true:=by
  unfold bC;rw[A3 (by omega),Bool.true_and];cases ha:g.any fun c=>decide (c.Parents.length>32)
  ·rfl
  obtain⟨c,a,f⟩:=List.any_eq_true.1 ha;have:=A0 f;have:=(h.pars c a).1;omega
 have i:¬uC g=true:=fun d=>by
  obtain⟨c,a,f⟩:=List.any_eq_true.1 d;have:=A0 f;have:=(h.pars c a).2.2.2;omega
 unfold X8;rw[b,l,A6 (by simp),A6 (by simp),A6 j,A6 i];exact yJ fun c a=>(h.files c a).1.tree (by omega) (h.files c a).2
def cI(r:Row):Bool:=!r.Lost&&decide (r.Marks=0)
def dL(a:List Span)(v:Int):List Span:=match a.getLast? with
 | some s=>a.dropLast++[⟨s.From,v⟩]
 | none=>a
def nI:List Bool->Nat->Bool->List Span->List Span
 | [],_,_,out=>out
 | b::r,i,p,out=>nI r (i+1) b (if b=true then dL (if p=true then out else out++[⟨i,i⟩]) ((i:Int)+1) else out)
def W6(l:List Bool):List Span:=nI l 0 false []
def rR(n:Nat)(a:List Span):Prop:=a.length<=n/\∀s∈a,(0<=s.From/\s.From<=n)/\(0<=s.To/\s.To<=n)
theorem JG{n:Nat}{a:List Span}(h:rR n a):rR (n+1) a:=⟨by have:=h.1;omega,fun s hs=>by have:=h.2 s hs;omega⟩
theorem B74{n:Nat}{b:List Span}(h:rR n b):rR (n+1) (b++[⟨n,n⟩]):=by
 refine⟨by rw[C32];have:=h.1;simp;omega,fun x a=>?_⟩;rcases C37.1 a with a | a
 ·have:=h.2 x a;omega
 ·simp only[C36,C66,or_false]at a;rw[a];dsimp only;omega
theorem EI{n:Nat}{a:List Span}{v:Int}(h:rR n a)(j:0<=v/\v<=(n:Int)):rR n (dL a v):=by
 unfold dL;cases d:a.getLast? with
 | none=>dsimp only;exact h
 | some s =>
  dsimp only;have g:=h.2 s (List.mem_of_getLast? d);have f:a≠[]:=fun e=>by rw[e]at d;cases d
  have i:=List.length_pos_iff.2 f;refine⟨by rw[C32,List.length_dropLast];have:=h.1;simp;omega,fun x c=>?_⟩;rcases C37.1 c with c | c
  ·exact h.2 x ((List.dropLast_sublist _).subset c)
  ·simp only[C36,C66,or_false]at c;rw[c];dsimp only;omega
theorem ZY{i:Nat}{a:List Span}(b p:Bool)(h:rR i a):rR (i+1) (if b=true then dL (if p=true then a else a++[⟨i,i⟩]) ((i:Int)+1) else a):=by
 split
 ·split
  ·exact EI (JG h) (by omega)
  ·exact EI (B74 h) (by omega)
 ·exact JG h
theorem ZZ:∀(l:List Bool) (i:Nat) (p:Bool) (a:List Span),rR i a->rR (i+l.length) (nI l i p a)
 | [],i,p,a,h=>h
 | b::r,i,p,a,h=>by
  rw[nI,C34,show i+(r.length+1)=(i+1)+r.length by omega];exact ZZ r (i+1) b _ (ZY b p h)
theorem EJ(l:List Bool):rR l.length (W6 l):=by
 have:=ZZ l 0 false [] ⟨Nat.le_refl _,fun s hs=>by cases hs⟩
 rwa[Nat.zero_add]at this
def bK(t:Table):List Span×Int:=if J2 t≠0 then ([],J2 t) else (W6 (t.Rows.map fun r=>!cI r),0)
def yK(b:List Row):Int:=b.foldl (fun a r=>L1 a r.Marks) 0
def gN(t:Table)(s:Span):Bool:=(List.range t.Parents.toNat).all fun p=>!decide (yK ((t.Rows.drop s.From.toNat).take (s.To.toNat-s.From.toNat)) / 2 ^ p % 2=0)
def F5(t:Table)(d:Bool):List Span×Int:=if (bK t).2≠0 then ([],(bK t).2) else ((bK t).1.filter fun s=>!d||gN t s,0)
def R9(l:List Span)(a:Int)(k:Nat):Bool:=l.any fun s=>decide (s.From-a<=k/\(k:Int)<s.To+a)
def K9(t:Table)(ctx:Int)(d:Bool):List Span×Int :=
 if (F5 t d).2≠0 then ([],(F5 t d).2) else if ctx<0\/1048576<ctx then ([],3)
 else (W6 ((List.range t.Rows.length).map (R9 (F5 t d).1 ctx)),0)
theorem runs_in(t:Table):rR t.Rows.length (bK t).1:=by
 unfold bK;split
 ·exact⟨Nat.zero_le _,fun s hs=>by cases hs⟩
 ·have:=EJ (t.Rows.map fun r=>!cI r)
  rwa[C55]at this
theorem EK(t:Table)(d:Bool):rR t.Rows.length (F5 t d).1:=by
 have h:=runs_in t;unfold F5;split
 ·exact⟨Nat.zero_le _,fun s hs=>by cases hs⟩
 ·refine⟨?_,fun s hs=>h.2 s (List.mem_filter.1 hs).1⟩;have:=List.length_filter_le (fun s=>!d||gN t s) (bK t).1;have:=h.1;dsimp only;omega
theorem B75(t:Table)(b:Int)(d:Bool):rR t.Rows.length (K9 t b d).1:=by
 unfold K9;split
 ·exact⟨Nat.zero_le _,fun s hs=>by cases hs⟩
 ·split
  ·exact⟨Nat.zero_le _,fun s hs=>by cases hs⟩
  ·have:=EJ ((List.range t.Rows.length).map (R9 (F5 t d).1 b))
   rwa[C55,C72]at this
def yL(l:List Bool)(i:Nat):Bool:=if i=0 then false else l.getD (i-1) false
theorem B03{l:List Bool}{i:Nat}{p:Bool}{a:List Span}(h:i<l.length):nI (l.drop i) i p a=nI (l.drop (i+1)) (i+1) (l.getD i false) (if l.getD i false=true then dL (if p=true then a else a++[⟨i,i⟩]) ((i:Int)+1) else a):=by
 rw[C38 h,nI,C33,C29 h];rfl
def w7(l:List Merged)(c:Int)(a b:Nat):List Merged:=((l.drop a).take (b-a)).map fun y=>⟨y.Line,L1 y.Parents c⟩
def uK(b:List Int)(c:Int)(a n:Nat):List Merged:=((b.drop a).take n).map fun v=>⟨v,c⟩
def bL(l:List Merged)(d:List Int)(b:Int)(k:Nat):List Change->List Merged
 | []=>w7 l b k l.length
 | c::r=>w7 l b k c.Old.toNat++(l.drop c.Old.toNat).take c.OldLen.toNat++uK d b c.New.toNat c.NewLen.toNat++bL l d b (c.Old.toNat+c.OldLen.toNat) r
theorem XT{α:Type}(l:List α){a b c:Nat}(d:a<=b)(f:b<=c):(l.drop a).take (c-a)=(l.drop a).take (b-a)++(l.drop b).take (c-b):=by
 have h:=List.take_add (l:=l.drop a) (i:=b-a) (j:=c-b);rw[List.drop_drop,show b-a+(c-b)=c-a by omega,show a+(b-a)=b by omega]at h;exact h
theorem yM(l:List Merged)(d:Int){a b c:Nat}(e:a<=b)(f:b<=c):w7 l d a c=w7 l d a b++w7 l d b c:=by
 unfold w7;rw[XT l e f,C50]
theorem wJ(l:List Merged)(b:Int)(a:Nat):w7 l b a a=[]:=by unfold w7;simp
theorem wK(l:List Merged)(b:Int){a:Nat}(h:a<l.length):w7 l b a (a+1)=(l[a]?.map fun y=>(⟨y.Line,L1 y.Parents b⟩:Merged)).toList:=by
 unfold w7;rw[show a+1-a=1 by omega,C29 h,C38 h];rfl
theorem EL(l:List Merged)(b:List Int)(c:Int):∀(ps:List Span) (k i j:Nat),k<=i->Asc l.length b.length i j ps ->
  bL l b c k (R5 i j ps l.length b.length)=w7 l c k i++m9 l b c i j ps
 | [],k,i,j,f,ha=>by
  have s:(i:Int)<=l.length/\(j:Int)<=b.length:=ha;unfold R5 m9;by_cases h:(l.length:Int)>i\/(b.length:Int)>j
  ·rw[A5 h];simp only[bL];rw[show (i:Int).toNat+((l.length:Int)-i).toNat=l.length by omega,wJ,C60,C31,C31,show ((l.length:Int)-i).toNat=l.length-i by omega,show ((b.length:Int)-j).toNat=b.length-j by omega,C42];rfl
  ·rw[A6 h];have d:i=l.length:=by omega
   have e:j=b.length:=by omega
   rw[d,e];simp[bL]
 | x::r,k,i,j,f,ha=>by
  obtain⟨s,u,n⟩:=ha;have v:=n.le;have d:((x.From.toNat+1:Nat):Int)=x.From+1:=by omega
  have e:((x.To.toNat+1:Nat):Int)=x.To+1:=by omega
  have m:=fun k (f:k<=x.From.toNat+1)=>EL l b c r k (x.From.toNat+1) (x.To.toNat+1) f (by rw[d,e];exact n);rw[d,e]at m;have g:x.From.toNat<l.length:=by omega
  unfold R5 m9;by_cases h:x.From>i\/x.To>j
  ·rw[A5 h,List.singleton_append,bL];dsimp only;rw[show (i:Int).toNat+(x.From-i).toNat=x.From.toNat by omega,m _ (by omega),wK l c g,C31,C31,show (x.From-(i:Int)).toNat=x.From.toNat-i by omega,show (x.To-(j:Int)).toNat=x.To.toNat-j by omega];unfold uK;simp only[C42]
  ·rw[A6 h,C58];have p:x.From.toNat=i:=by omega
   have q:x.To.toNat=j:=by omega
   rw[m k (by omega),yM l c f (show i<=x.From.toNat+1 by omega),p,q,wK l c (by omega)];simp
theorem B76(l:List Merged)(a:List Int)(c:Int):bL l a c 0 (Q0 (I2 l) a)=m9 l a c 0 0 (H5 0 0 (I2 l) a):=by
 have b:=Z2 (I2 l) a 0 0;rw[Int.zero_add,Int.zero_add,show (I2 l).length=l.length by simp[I2]]at b;have:=EL l a c (H5 0 0 (I2 l) a) 0 0 0 (Nat.le_refl _) b;rw[wJ,C58]at this;unfold Q0 jR;rw[show (I2 l).length=l.length by simp[I2]];exact this
def O9(p:Int)(a:List Int)(c:Change):List Int:=a.mapIdx fun k m=>if c.New.toNat<=k/\k<c.New.toNat+c.NewLen.toNat then L1 m (J6 p) else m
theorem cV(p:Int)(a:List Int)(c:Change):(O9 p a c).length=a.length:=by simp[O9]
theorem fL(p:Int)(b:List Int)(c:Change)(k:Nat):(O9 p b c)[k]?=b[k]?.map fun m=>if c.New.toNat<=k/\k<c.New.toNat+c.NewLen.toNat then L1 m (J6 p) else m:=by
 unfold O9;rw[List.getElem?_mapIdx]
def V0(a:List Change)(k:Nat):Bool:=a.any fun c=>decide (c.New.toNat<=k/\k<c.New.toNat+c.NewLen.toNat)
def nJ(ps:List Span)(k:Nat):Bool:=ps.any fun x=>decide (x.To.toNat=k)
theorem or_or(m b:Int):L1 (L1 m b) b=L1 m b:=by
 unfold L1;have h:BitVec.ofInt IntKind.u32.bits (IntKind.u32.wrap ((BitVec.ofInt IntKind.u32.bits m ||| BitVec.ofInt IntKind.u32.bits b).toNat:Int))=BitVec.ofInt IntKind.u32.bits m ||| BitVec.ofInt IntKind.u32.bits b:=by
  rw[show IntKind.u32.wrap ((BitVec.ofInt IntKind.u32.bits m ||| BitVec.ofInt IntKind.u32.bits b).toNat:Int)=((BitVec.ofInt IntKind.u32.bits m ||| BitVec.ofInt IntKind.u32.bits b).toNat:Int) from eG _ (by
   have:=(BitVec.ofInt IntKind.u32.bits m ||| BitVec.ofInt IntKind.u32.bits b).isLt
   exact this)]
  rw[BitVec.ofInt_natCast,BitVec.ofNat_toNat,BitVec.setWidth_eq]
 rw[h,BitVec.or_assoc,BitVec.or_self]
theorem EM(p:Int):∀(f:List Change) (d:List Int) (k:Nat),(f.foldl (O9 p) d)[k]?=d[k]?.map fun m=>if V0 f k=true then L1 m (J6 p) else m
 | [],d,k=>by simp[V0]
 | c::r,d,k=>by
  rw[C68,EM p r,fL,Option.map_map]
  congr 1
  funext m;show (if V0 r k=true then L1 (if c.New.toNat<=k/\k<c.New.toNat+c.NewLen.toNat then L1 m (J6 p) else m) (J6 p) else if c.New.toNat<=k/\k<c.New.toNat+c.NewLen.toNat then L1 m (J6 p) else m)=if V0 (c::r) k=true then L1 m (J6 p) else m
  have e:V0 (c::r) k=(decide (c.New.toNat<=k/\k<c.New.toNat+c.NewLen.toNat)||V0 r k):=rfl;rw[e];by_cases b:c.New.toNat<=k/\k<c.New.toNat+c.NewLen.toNat
  ·rw[A5 b,A3 b,Bool.true_or,A5 rfl];cases V0 r k
   ·rw[A6 (by decide)]
   ·rw[A5 rfl,or_or]
  ·rw[A6 b,A4 b,Bool.false_or]
theorem clr_clr(m b:Int):aY (aY m b) b=aY m b:=by
 unfold aY;have h:BitVec.ofInt IntKind.u32.bits (IntKind.u32.wrap ((BitVec.ofInt IntKind.u32.bits m &&& ~~~BitVec.ofInt IntKind.u32.bits b).toNat:Int))=BitVec.ofInt IntKind.u32.bits m &&& ~~~BitVec.ofInt IntKind.u32.bits b:=by
  rw[show IntKind.u32.wrap ((BitVec.ofInt IntKind.u32.bits m &&& ~~~BitVec.ofInt IntKind.u32.bits b).toNat:Int)=((BitVec.ofInt IntKind.u32.bits m &&& ~~~BitVec.ofInt IntKind.u32.bits b).toNat:Int) from eG _ (by
   have:=(BitVec.ofInt IntKind.u32.bits m &&& ~~~BitVec.ofInt IntKind.u32.bits b).isLt
   exact this)]
  rw[BitVec.ofInt_natCast,BitVec.ofNat_toNat,BitVec.setWidth_eq]
 rw[h,BitVec.and_assoc,BitVec.and_self]
theorem JH(p:Int):∀(ps:List Span) (b:List Int) (k:Nat),(∀x∈ps,x.To.toNat<b.length)->(ps.foldl (a8 p) b)[k]?=b[k]?.map fun m=>if nJ ps k=true then aY m (J6 p) else m
 | [],b,k,_=>by simp[nJ]
 | x::r,b,k,hp=>by
  have i:=hp x (by simp);have d:(a8 p b x).length=b.length:=by simp[a8]
  rw[C68,JH p r _ k (fun y j=>by rw[d];exact hp y (by simp[j]))];have c:(a8 p b x)[k]?=b[k]?.map fun m=>if x.To.toNat=k then aY m (J6 p) else m:=by
   unfold a8;rw[C84];by_cases h:x.To.toNat=k
   ·subst h;rw[A5 rfl,A5 i,C29 i,C33,C29 i];simp
   ·rw[A6 h];simp[h]
  rw[c,Option.map_map]
  congr 1
  funext m;show (if nJ r k=true then aY (if x.To.toNat=k then aY m (J6 p) else m) (J6 p) else if x.To.toNat=k then aY m (J6 p) else m)=if nJ (x::r) k=true then aY m (J6 p) else m
  have e:nJ (x::r) k=(decide (x.To.toNat=k)||nJ r k):=rfl;rw[e];by_cases f:x.To.toNat=k
  ·rw[A5 f,A3 f,Bool.true_or,A5 rfl];cases nJ r k
   ·rw[A6 (by decide)]
   ·rw[A5 rfl,clr_clr]
  ·rw[A6 f,A4 f,Bool.false_or]
theorem clr_or(m:Nat)(p:Nat)(l:p<32)(k:m<2 ^ p):aY (L1 m (J6 p)) (J6 p)=m:=by
 have q:2 ^ p<2 ^ 32:=Nat.pow_lt_pow_right (by decide) l;have hb:J6 (p:Int)=((2 ^ p:Nat):Int):=by
  unfold J6;rw[WJ (n:=(p:Int)) (by omega),show min ((p:Int)).toNat IntKind.u32.bits=p by rw[C31];exact Nat.min_eq_left (by show p<=32;omega),Int.one_mul];rw[show (2:Int) ^ p=((2 ^ p:Nat):Int) by simp];exact eG _ (by omega)
 rw[hb];obtain⟨e,u⟩:=dC m (2 ^ p) (by omega) (by omega);rw[e];unfold aY;have c:BitVec.ofInt IntKind.u32.bits (((m ||| 2 ^ p:Nat)):Int)=BitVec.ofNat 32 (m ||| 2 ^ p):=by simp[BitVec.ofInt_natCast];rfl
 have d:BitVec.ofInt IntKind.u32.bits ((2 ^ p:Nat):Int)=BitVec.ofNat 32 (2 ^ p):=by rw[BitVec.ofInt_natCast];rfl
 rw[c,d];have f:(BitVec.ofNat 32 (m ||| 2 ^ p) &&& ~~~BitVec.ofNat 32 (2 ^ p))=BitVec.ofNat 32 m:=by
  apply BitVec.eq_of_getLsbD_eq;intro i j;simp only[BitVec.getLsbD_and,BitVec.getLsbD_not,BitVec.getLsbD_ofNat,j,decide_true,Bool.true_and,Nat.testBit_or,Nat.testBit_two_pow];by_cases b:p=i
  ·subst b;simp[Nat.testBit_lt_two_pow k]
  ·simp[b]
 have g:(BitVec.ofNat 32 m).toNat=m:=by rw[BitVec.toNat_ofNat];exact Nat.mod_eq_of_lt (by omega)
 have h:((BitVec.ofNat 32 (m ||| 2 ^ p) &&& ~~~BitVec.ofNat 32 (2 ^ p)).toNat:Int)=m:=by rw[f,g]
 exact (congrArg IntKind.u32.wrap h).trans (eG _ (by omega))
theorem SS(a b:List Span)(k:Nat):nJ (a++b) k=(nJ a k||nJ b k):=by unfold nJ;rw[C93]
theorem uL(i j:Int)(t:Nat)(k:Nat)(d:0<=j):nJ (T6 i j t) k=decide (j<=k/\(k:Int)<j+t):=by
 unfold nJ T6;rw[List.any_map,Bool.eq_iff_iff,List.any_eq_true,decide_eq_true_eq];constructor
 ·rintro⟨s,hs,h⟩;have b:=C40.1 hs;have c:(j+(s:Int)).toNat=k:=A0 h;omega
 ·rintro⟨b,c⟩;refine⟨((k:Int)-j).toNat,C40.2 (by omega),?_⟩;show decide ((j+((((k:Int)-j).toNat:Nat):Int)).toNat=k)=true;exact A3 (by omega)
theorem EN(c:Change)(r:List Change)(k:Nat):V0 (c::r) k=(decide (c.New.toNat<=k/\k<c.New.toNat+c.NewLen.toNat)||V0 r k):=rfl
theorem JI:∀(b:List Change) (f:Nat) (i j m n:Int),L5 f i j b m n=true->0<=i->0<=j ->
  (∀k:Nat,(k:Int)<j->nJ (L8 i j b m) k=false/\V0 b k=false)/\∀k:Nat,j<=k->(k:Int)<n->nJ (L8 i j b m) k=!V0 b k
 | [],f,i,j,m,n,h,h1,h2=>by
  simp only[L5,decide_eq_true_eq]at h;unfold L8;refine⟨fun k l=>⟨?_,rfl⟩,fun k l d=>?_⟩
  ·rw[uL _ _ _ _ h2];exact A4 (by omega)
  ·rw[uL _ _ _ _ h2];show _=true;exact A3 (by omega)
 | c :: r,f,i,j,m,n,h,h1,h2=>by
  simp only[L5,C30,decide_eq_true_eq]at h;obtain⟨hb,u⟩:=h;have s:(0<=c.OldLen/\0<=c.NewLen/\i<=c.Old/\c.Old-i=c.New-j):=by
   unfold MO N1 at hb;by_cases a2:(0<=c.OldLen/\c.OldLen<=4096)<;>by_cases a4:(0<=c.NewLen/\c.NewLen<=4096)<;>simp[a2,a4]at hb ⊢<;>omega
  obtain⟨v,w,x,y⟩:=s;obtain⟨p,i2⟩:=JI r (f+1) (c.Old+c.OldLen) (c.New+c.NewLen) m n u (by omega) (by omega);unfold L8;rw[show max i c.Old=c.Old by omega,show j+((c.Old-i).toNat:Int)+c.NewLen=c.New+c.NewLen by omega];refine⟨fun k l=>?_,fun k l d=>?_⟩
  ·obtain⟨e,g⟩:=p k (by omega);rw[SS,uL _ _ _ _ h2,EN,e,g,A4 (by omega),A4 (by omega)];exact⟨rfl,rfl⟩
  ·rw[SS,uL _ _ _ _ h2,EN];by_cases g1:(k:Int)<c.New
   ·obtain⟨e,g⟩:=p k (by omega);rw[e,g,A3 (by omega),A4 (by omega)];rfl
   ·rw[A4 (by omega),Bool.false_or];by_cases q:(k:Int)<c.New+c.NewLen
    ·obtain⟨e,g⟩:=p k q;rw[e,A3 (by omega)];rfl
    ·rw[i2 k (by omega) d,A4 (by omega),Bool.false_or]
theorem A00{m n:Int}:∀{p:List Span} {i j:Int},Asc m n i j p->∀x∈p,i<=x.From/\x.From<m/\j<=x.To/\x.To<n
 | x::r,i,j,h,y,hy=>by
  obtain⟨b,c,a⟩:=h;have d:=a.le;rcases C36.1 hy with rfl | hy
  ·omega
  ·have:=A00 a y hy;omega
def dM(b:List (List Int))(s:Loom)(p:Nat):Loom :=
 let a:=b.getD (p+1) [];let c:=Q0 a (b.getD 0 [])
 (c.foldl (O9 p) s.1,c.foldl (R6 p a) s.2)
def cJ(ids:List (List Int))(a n p:Nat):Loom:=(List.range p).foldl (dM ids) (CH a n)
theorem nK(ids:List (List Int))(a n p:Nat):cJ ids a n (p+1)=dM ids (cJ ids a n p) p:=by
 unfold cJ;rw[C75,C78];rfl
def LowM(p:Nat)(a:List Int):Prop:=∀v∈a,0<=v/\v<((2 ^ p:Nat):Int)
theorem oL{p:Nat}(b:p<32):J6 (p:Int)=((2 ^ p:Nat):Int):=by
 have c:2 ^ p<2 ^ 32:=Nat.pow_lt_pow_right (by decide) b;unfold J6;rw[WJ (n:=(p:Int)) (by omega),show min ((p:Int)).toNat IntKind.u32.bits=p by rw[C31];exact Nat.min_eq_left (by show p<=32;omega),Int.one_mul];rw[show (2:Int) ^ p=((2 ^ p:Nat):Int) by simp];exact eG _ (by omega)
theorem or_low{m:Int}{p:Nat}(a:p<32)(h:0<=m/\m<((2 ^ p:Nat):Int)):0<=L1 m (J6 p)/\L1 m (J6 p)<((2 ^ (p+1):Nat):Int):=by
 have c:2 ^ p<2 ^ 32:=Nat.pow_lt_pow_right (by decide) a;obtain⟨q,rfl⟩:∃q:Nat,m=q:=⟨m.toNat,by omega⟩
 have e:q<2 ^ p:=by omega
 rw[oL a];obtain⟨b,_⟩:=dC q (2 ^ p) (by omega) (by omega);rw[b];have d:q ||| 2 ^ p<2 ^ (p+1):=Nat.or_lt_two_pow (by rw[Nat.pow_succ];omega) (by rw[Nat.pow_succ];omega);omega
theorem B04{ids:List (List Int)}{s:Loom}{p:Nat}{a b:List Int}(N:a=ids.getD (p+1) [])(hb:b=ids.getD 0 [])(P:p<32)(A:LowM p s.1)(z:s.1.length=b.length)(T:a.length<=4096)(S:b.length<=4096) :
  dM ids s p=y4 ids s p/\LowM (p+1) (dM ids s p).1/\(dM ids s p).1.length=b.length:=by
 have u:=Z2 a b 0 0;rw[Int.zero_add,Int.zero_add]at u;have K:=oC (m:=a.length) (n:=b.length) ⟨by omega,by omega⟩ ⟨by omega,by omega⟩ (H5 0 0 a b) 0 0 0 0 0 u (by omega) (by omega) (by omega) (by omega) (by omega);obtain⟨_,O⟩:=JI _ 0 0 0 a.length b.length K (by omega) (by omega);have B:=MF a b;obtain⟨i,j⟩:∃i,i=Q0 a b:=⟨_,rfl⟩
 have D:R5 0 0 (H5 0 0 a b) a.length b.length=i:=by rw[j];rfl
 rw[D]at O;have I:dM ids s p=(i.foldl (O9 p) s.1,i.foldl (R6 p a) s.2):=by rw[j,N,hb];rfl
 have R:y4 ids s p=((z8 i a.length).foldl (a8 p) (s.1.map (L1 · (J6 p))),i.foldl (R6 p a) s.2):=by rw[j,N,hb];rfl
 have y:=EM p i s.1;have w:(i.foldl (O9 p) s.1).length=s.1.length:=by
  have M:∀(H:List Change) (G:List Int),(H.foldl (O9 p) G).length=G.length:=by
   intro H;induction H with
   | nil=>intro G;rfl
   | cons c r U=>intro G;rw[C68,U,cV]
  exact M i s.1
 refine⟨?_,?_,by rw[I];dsimp only;rw[w,z]⟩
 ·rw[I,R,Prod.mk.injEq];refine⟨?_,rfl⟩;refine List.ext_getElem? fun k=>?_;have L:∀x∈z8 i a.length,x.To.toNat<(s.1.map (L1 · (J6 p))).length:=by
   intro x Q;rw[C55,z];rw[j,B]at Q;have:=A00 u x Q;omega
  rw[y,JH p _ _ k L,C63,Option.map_map];cases C:s.1[k]? with
  | none=>rfl
  | some v =>
   have hkl:k<b.length:=by have:=(List.getElem?_eq_some_iff.1 C).1;omega
   have J:=O k (by omega) (by omega);have F:=A v (C53 C);show some (if V0 i k=true then L1 v (J6 p) else v)=some (if nJ (z8 i a.length) k=true then aY (L1 v (J6 p)) (J6 p) else L1 v (J6 p));have J:nJ (z8 i a.length) k=!V0 i k:=J;rw[J];cases V0 i k
   ·obtain⟨q,rfl⟩:∃q:Nat,v=q:=⟨v.toNat,by omega⟩
    rw[A6 (by decide),A5 (show (!false)=true from rfl),clr_or q p P (by omega)]
   ·rw[A5 rfl,A6 (by decide)]
 ·rw[I];intro v F;obtain⟨k,C,rfl⟩:=List.mem_iff_getElem.1 F;have hkl:k<s.1.length:=by rw[<-w];exact C
  have E:=y k;rw[C29 C,C29 hkl]at E;have E:(i.foldl (O9 p) s.1)[k]=if V0 i k=true then L1 s.1[k] (J6 p) else s.1[k]:=Option.some.inj E
  show 0<=(i.foldl (O9 p) s.1)[k]/\(i.foldl (O9 p) s.1)[k]<_;rw[E];have F:=A s.1[k] (C35 hkl);split
  ·exact or_low P F
  ·have:2 ^ p<=2 ^ (p+1):=Nat.pow_le_pow_right (by decide) (by omega);omega
theorem oM{ids:List (List Int)}{a:List Int}{n:Nat}(hb:a=ids.getD 0 [])(f:∀x∈ids,x.length<=4096)(b:a.length<=4096):∀p,p<=32->cJ ids a.length n p=g9 ids a.length n p/\LowM p (cJ ids a.length n p).1/\(cJ ids a.length n p).1.length=a.length
 | 0,_=>by
  refine⟨rfl,fun v m=>?_,by simp[cJ,CH]⟩;have:=List.eq_of_mem_replicate (show v∈List.replicate a.length 0 from m);subst this;decide
 | p+1,hp=>by
  obtain⟨d,j,k⟩:=oM (n:=n) hb f b p (by omega);have c:(ids.getD (p+1) []).length<=4096:=by
   rw[C33];cases o:ids[p+1]? with
   | none=>simp
   | some x=>exact f x (C53 o)
  obtain⟨s1,s2,i⟩:=B04 (ids:=ids) (s:=cJ ids a.length n p) (p:=p) rfl hb (by omega) j k c b;rw[nK,mN,s1,d];rw[s1,d]at s2 i;exact⟨rfl,s2,i⟩
theorem SU(p:Int)(c:List Int)(a b d:Int):O9 p c ⟨a,b,d,0⟩=c:=by
 refine List.ext_getElem? fun k=>?_;rw[fL];cases h:c[k]? with
 | none=>rfl
 | some v=>simp only[Option.map_some];rw[A6 (by omega)]
theorem SW(p:Int)(c:List Int)(a b:Int)(d t:Nat)(h:d+t<c.length):(O9 p c ⟨a,b,d,t⟩)[d+t]?=some (c.getD (d+t) 0)/\(O9 p c ⟨a,b,d,t⟩).set (d+t) (L1 (c.getD (d+t) 0) (J6 p))=O9 p c ⟨a,b,d,((t+1:Nat):Int)⟩:=by
 have f:c[d+t]?=some (c.getD (d+t) 0):=by rw[C33,C29 h];rfl
 refine⟨?_,?_⟩
 ·rw[fL,f];simp only[Option.map_some,C31];rw[A6 (by omega)]
 ·refine List.ext_getElem? fun k=>?_;rw[C84,fL,fL,cV];simp only[C31];by_cases i:d+t=k
  ·subst i;rw[A5 rfl,A5 h,f];simp only[Option.map_some];rw[A5 (by omega)]
  ·rw[A6 i];cases c[k]? with
   | none=>rfl
   | some v =>
    simp only[Option.map_some];by_cases g:d<=k/\k<d+t
    ·rw[A5 g,A5 (by omega)]
    ·rw[A6 g,A6 (by omega)]
theorem cK(c:List Span)(a b v:Int):dL (c++[⟨a,b⟩]) v=c++[⟨a,v⟩]:=by unfold dL;simp
def SX(n:Int)(c:List Span):Prop:=(∀s∈c,s.From<=n)/\c.Pairwise fun a b=>a.From<=b.From
theorem B77{n:Int}{c:List Span}(h:SX n c)(v:Int):SX n (c++[⟨n,v⟩]):=by
 refine⟨fun s hs=>?_,?_⟩
 ·rcases C37.1 hs with hs | hs
  ·exact h.1 s hs
  ·simp only[C36,C66,or_false]at hs;rw[hs];exact Int.le_refl _
 ·rw[List.pairwise_append];refine⟨h.2,List.pairwise_singleton _ _,fun a ha b hb=>?_⟩;simp only[C36,C66,or_false]at hb;rw[hb];exact h.1 a ha
theorem B78{n:Int}{c:List Span}(h:SX n c)(v:Int):SX n (dL c v):=by
 unfold dL;cases j:c.getLast? with
 | none=>exact h
 | some s =>
  dsimp only;have e:c=c.dropLast++[s]:=by
   have g:c≠[]:=fun e=>by rw[e]at j;cases j
   have f:=List.dropLast_concat_getLast g;rw[List.getLast?_eq_some_getLast g]at j;cases j;exact f.symm
  rw[e]at h;obtain⟨k,f⟩:=h;rw[List.pairwise_append]at f;refine⟨fun x d=>?_,?_⟩
  ·rcases C37.1 d with d | d
   ·exact k x (C37.2 (.inl d))
   ·simp only[C36,C66,or_false]at d;rw[d];exact k s (by simp)
  ·rw[List.pairwise_append];refine⟨f.1,List.pairwise_singleton _ _,fun a ha b hb=>?_⟩;simp only[C36,C66,or_false]at hb;rw[hb];exact f.2.2 a ha s (by simp)
theorem B05{n m:Int}{a:List Span}(h:SX n a)(b:n<=m):SX m a:=⟨fun s hs=>Int.le_trans (h.1 s hs) b,h.2⟩
theorem A01:∀(l:List Bool) (i:Nat) (p:Bool) (a:List Span),SX i a->∃m,SX m (nI l i p a)
 | [],i,p,a,h=>⟨_,h⟩
 | b::r,i,p,a,h=>by
  rw[nI];refine A01 r (i+1) b _ (B05 (n:=(i:Int)) ?_ (by omega));split
  ·split
   ·exact B78 h _
   ·rw[cK];exact B77 h _
  ·exact h
theorem B79(l:List Bool):(W6 l).Pairwise fun a b=>a.From<=b.From:=by
 obtain⟨m,h⟩:=A01 l 0 false [] ⟨fun s hs=>(by cases hs),List.Pairwise.nil⟩;exact h.2
theorem EO(t:Table)(d:Bool):(F5 t d).1.Pairwise fun a b=>a.From<=b.From:=by
 unfold F5 bK;split
 ·exact List.Pairwise.nil
 ·dsimp only;split
  ·exact List.Pairwise.nil
  ·exact List.Pairwise.sublist List.filter_sublist (B79 _)
theorem up_get{L:List Span}(h:L.Pairwise fun a b=>a.From<=b.From){k:Nat}(c:k+1<L.length):L[k].From<=L[k+1].From:=(List.pairwise_iff_getElem.1 h) k (k+1) (by omega) c (by omega)
theorem B80{n:Int}{a:List Span}(h:∀s∈a,s.From<=s.To/\s.From<=n)(v:Int)(d:n<=v):∀s∈dL a v,s.From<=s.To/\s.From<=n:=by
 unfold dL;cases c:a.getLast? with
 | none=>exact h
 | some x =>
  dsimp only;intro s hs;rcases C37.1 hs with hs | hs
  ·exact h s ((List.dropLast_sublist _).subset hs)
  ·simp only[C36,C66,or_false]at hs;rw[hs];have:=h x (List.mem_of_getLast? c);exact⟨by dsimp only;omega,this.2⟩
theorem A02:∀(l:List Bool) (i:Nat) (p:Bool) (c:List Span),(∀s∈c,s.From<=s.To/\s.From<=(i:Int))->∀s∈nI l i p c,s.From<=s.To
 | [],i,p,c,h=>fun s hs=>(h s hs).1
 | b :: r,i,p,c,h=>by
  rw[nI];refine A02 r (i+1) b _ ?_;have a:∀q:List Span,(∀s∈q,s.From<=s.To/\s.From<=(i:Int))->∀s∈q,s.From<=s.To/\s.From<=((i+1:Nat):Int):=fun q d s hs=>by have:=d s hs;omega
  split
  ·refine a _ (B80 ?_ _ (by omega));split
   ·exact h
   ·intro s hs;rcases C37.1 hs with hs | hs
    ·exact h s hs
    ·simp only[C36,C66,or_false]at hs;rw[hs];exact⟨Int.le_refl _,Int.le_refl _⟩
  ·exact a _ h
theorem B81(l:List Bool):∀s∈W6 l,s.From<=s.To:=A02 l 0 false [] (fun s hs=>by cases hs)
theorem NK(L:List Span)(a:Int)(k:Nat)(h:k<L.length)(i:Nat):R9 (L.take (k+1)) a i=(R9 (L.take k) a i||decide (L[k].From-a<=i/\(i:Int)<L[k].To+a)):=by
 unfold R9;rw[C48 h,C93];simp
theorem JJ{n:Nat}(c:n<=32):∀(b:List Row) (a:Int),(0<=a/\a<((2 ^ n:Nat):Int))->(∀r∈b,0<=r.Marks/\r.Marks<((2 ^ n:Nat):Int))->0<=b.foldl (fun a r=>L1 a r.Marks) a/\b.foldl (fun a r=>L1 a r.Marks) a<((2 ^ n:Nat):Int)
 | [],a,h,_=>h
 | x::r,a,h,hr=>by
  have g:=hr x (by simp);have e:2 ^ n<=2 ^ 32:=Nat.pow_le_pow_right (by decide) c;rw[C68];refine JJ c r _ ?_ fun y i=>hr y (by simp[i]);obtain⟨q,rfl⟩:∃q:Nat,a=q:=⟨a.toNat,by omega⟩
  obtain⟨m,f⟩:∃m:Nat,x.Marks=m:=⟨x.Marks.toNat,by omega⟩
  rw[f]at g ⊢;obtain⟨d,_⟩:=dC q m (by omega) (by omega);rw[d];have:=Nat.or_lt_two_pow (n:=n) (x:=q) (y:=m) (by omega) (by omega);omega
theorem B82(n A:Nat)(f:A<2 ^ n):A=2 ^ n-1↔((List.range n).all fun p=>!decide ((A:Int) / 2 ^ p % 2=0))=true:=by
 have b:∀p,decide ((A:Int) / 2 ^ p % 2=0)=!A.testBit p:=by
  intro p;have e:(A:Int) / 2 ^ p % 2=((A / 2 ^ p % 2:Nat):Int):=by simp
  rw[e,Nat.testBit_eq_decide_div_mod_eq];have d:A / 2 ^ p % 2=0\/A / 2 ^ p % 2=1:=by omega
  rcases d with d | d<;>rw[d]<;>rfl
 rw[List.all_eq_true];constructor
 ·rintro rfl p c;rw[b,Bool.not_not,Nat.testBit_two_pow_sub_one];exact A3 (C40.1 c)
 ·intro h;refine Nat.eq_of_testBit_eq fun p=>?_;rw[Nat.testBit_two_pow_sub_one];by_cases c:p<n
  ·have:=h p (C40.2 c);rw[b,Bool.not_not]at this;rw[this,A3 c]
  ·rw[A4 c];exact Nat.testBit_lt_two_pow (Nat.lt_of_lt_of_le f (Nat.pow_le_pow_right (by decide) (by omega)))
theorem B83{t:Table}{s:Span}{n:Nat}(h:t.Parents=n)(c:1<=n/\n<=32)(g:∀r∈t.Rows,0<=r.Marks/\r.Marks<((2 ^ n:Nat):Int))(F T:Nat)(hs:s=⟨F,T⟩) :
  decide (yK ((t.Rows.drop F).take (T-F))=((2 ^ n-1:Nat):Int))=gN t s:=by
 obtain⟨A,b⟩:∃A,A=yK ((t.Rows.drop F).take (T-F)):=⟨_,rfl⟩
 have d:0<=A/\A<((2 ^ n:Nat):Int):=by
  rw[b];refine JJ c.2 _ 0 ⟨Int.le_refl _,by have:=Nat.pow_pos (n:=n) (show 0<2 by decide);omega⟩ fun r i=>g r (List.mem_of_mem_drop (List.mem_of_mem_take i))
 obtain⟨q,rfl⟩:∃q:Nat,A=q:=⟨A.toNat,by omega⟩
 have f:gN t s=(List.range n).all fun p=>!decide ((q:Int) / 2 ^ p % 2=0):=by
  unfold gN;rw[hs,h];dsimp only;rw[C31,C31,C31,<-b]
 rw[<-b,f,Bool.eq_iff_iff,decide_eq_true_eq,<-B82 n q (by omega)];omega
theorem B06{a:List Row}{n:Nat}(i:K1 a)(h:R0 a n=true):∀r∈a,0<=r.Marks/\r.Marks<((2 ^ n:Nat):Int):=by
 intro r d;have b:=List.all_eq_true.1 h r d;unfold U6 at b;simp only[C30,beq_iff_eq]at b;refine⟨(i r d).1,?_⟩;have e:(2:Int) ^ n=((2 ^ n:Nat):Int):=by simp
 have c:=b.1;rw[e]at c;have g:(0:Int)<((2 ^ n:Nat):Int):=by have:=Nat.pow_pos (n:=n) (show 0<2 by decide);omega
 have j:=Int.emod_lt_of_pos r.Marks g;have f:=Int.mul_ediv_add_emod r.Marks ((2 ^ n:Nat):Int);rw[c,Int.mul_zero,Int.zero_add]at f;omega
theorem B84(n:Nat)(e:1<=n/\n<=32):(4294967295:Int).fdiv (2 ^ (min (32-(n:Int)).toNat IntKind.u32.bits))=((2 ^ n-1:Nat):Int):=by
 have c:min (32-(n:Int)).toNat IntKind.u32.bits=32-n:=by
  rw[show (32-(n:Int)).toNat=32-n by omega];exact Nat.min_eq_left (by show 32-n<=32;omega)
 rw[c,Int.fdiv_eq_ediv_of_nonneg _ (Int.pow_nonneg (by decide))];have b:∀k:Fin 33,1<=k.val->(4294967295:Int) / 2 ^ (32-k.val)=((2 ^ k.val-1:Nat):Int):=by decide
 exact b ⟨n,by omega⟩ e.1
theorem uM{p:Nat}(b:p<32):2 ^ p<4294967296:=Nat.pow_lt_pow_right (a:=2) (by decide) b
theorem uN{m:Int}{p q:Nat}(b:0<=m/\m<4294967296)(a:p<32):Y4 (L1 m (J6 p)) q=(Y4 m q||decide (p=q)):=by
 obtain⟨k,rfl⟩:∃k:Nat,m=k:=⟨m.toNat,by omega⟩
 have:=uM a;rw[oL a,(dC k (2 ^ p) (by omega) (by omega)).1,aA,aA,Nat.testBit_or,Nat.testBit_two_pow]
theorem JK{p q:Nat}(a:p<32):Y4 (J6 p) q=decide (p=q):=by
 rw[oL a,aA,Nat.testBit_two_pow]
theorem JL{m:Int}{p q:Nat}(h:0<=m/\m<((2 ^ p:Nat):Int))(a:p<=q):Y4 m q=false:=by
 obtain⟨k,rfl⟩:∃k:Nat,m=k:=⟨m.toNat,by omega⟩
 rw[aA];exact Nat.testBit_lt_two_pow (Nat.lt_of_lt_of_le (by omega) (Nat.pow_le_pow_right (by decide) a))
def bM(q:Nat)(l:List Merged):List Int:=I2 (l.filter fun m=>Y4 m.Parents q)
theorem w8(q:Nat)(a b:List Merged):bM q (a++b)=bM q a++bM q b:=by unfold bM I2;rw[C83,C50]
theorem wL{q:Nat}{l:List Merged}(h:∀m∈l,Y4 m.Parents q=false):bM q l=[]:=by
 unfold bM;rw[List.filter_eq_nil_iff.2 (fun m a=>by rw[h m a];decide)];rfl
theorem uO{p q:Nat}(b:p<32)(l:List Int):bM q (l.map fun v=>(⟨v,J6 p⟩:Merged))=if p=q then l else []:=by
 by_cases h:p=q
 ·rw[A5 h];unfold bM I2;rw[List.filter_eq_self.2 (fun m a=>by obtain⟨v,_,rfl⟩:=C54.1 a;rw[JK b];exact A3 h),C71];exact List.map_id _
 ·rw[A6 h];exact wL fun m a=>by obtain⟨v,_,rfl⟩:=C54.1 a;rw[JK b];exact A4 h
def LowP(p:Nat)(l:List Merged):Prop:=∀m∈l,0<m.Parents/\m.Parents<((2 ^ p:Nat):Int)
theorem LowP.sub{p:Nat}{l a:List Merged}(h:LowP p l)(hs:∀m∈a,m∈l):LowP p a:=fun m b=>h m (hs m b)
theorem LowP.up{p:Nat}{l:List Merged}(h:LowP p l):LowP (p+1) l:=fun m a=>by
 have:=h m a;have:2 ^ p<=2 ^ (p+1):=Nat.pow_le_pow_right (by decide) (by omega);omega
theorem uP{p:Nat}{a b:List Merged}(ha:LowP p a)(hb:LowP p b):LowP p (a++b):=fun m c=>by
 rcases C37.1 c with h | h
 ·exact ha m h
 ·exact hb m h
theorem SY{p:Nat}(b:p<32)(l:List Int):LowP (p+1) (l.map fun v=>(⟨v,J6 p⟩:Merged)):=fun m a=>by
 obtain⟨v,_,rfl⟩:=C54.1 a;have c:0<2 ^ p:=Nat.pow_pos (by decide);have d:2 ^ (p+1)=2*2 ^ p:=by rw[Nat.pow_succ];omega
 show 0<J6 p/\J6 p<_;rw[oL b];omega
theorem or_pos{m:Int}{p:Nat}(b:p<32)(h:0<m/\m<((2 ^ p:Nat):Int)):0<L1 m (J6 p)/\L1 m (J6 p)<((2 ^ (p+1):Nat):Int):=by
 have c:=or_low b (m:=m) (by omega);refine⟨?_,c.2⟩;have d:=uM b;have a:=uN (m:=m) (q:=p) (by omega) b;rw[A3 rfl,Bool.or_true]at a;have:L1 m (J6 p)≠0:=fun e=>by rw[e]at a;simp[Y4]at a
 omega
theorem fM{α:Type}(l:List α){a b:Nat}(h:a<=b):l.drop a=(l.drop a).take (b-a)++l.drop b:=by
 have:=C70 (b-a) (l.drop a);rw[List.drop_drop,show a+(b-a)=b by omega]at this;exact this.symm
theorem JM{l:List Merged}{list:List Int}{p:Nat}(b:p<32)(g:LowP p l):∀(ps:List Span) (i j:Nat),Asc l.length list.length i j ps->(∀x∈ps,(I2 l)[x.From.toNat]?=list[x.To.toNat]?) ->
  bM p (m9 l list (J6 p) i j ps)=list.drop j/\(∀q,q≠p->bM q (m9 l list (J6 p) i j ps)=bM q (l.drop i))/\LowP (p+1) (m9 l list (J6 p) i j ps)
 | [],i,j,ha,_=>by
  have z:(l.drop i).take (l.length-i)=l.drop i:=C65 (by simp);have B:(list.drop j).take (list.length-j)=list.drop j:=C65 (by simp);unfold m9;rw[z,B];refine⟨?_,fun q h=>?_,uP ((g.sub fun m c=>List.mem_of_mem_drop c).up) (SY b _)⟩
  ·rw[w8,uO b,A5 rfl,wL fun m c=>JL (p:=p) (by have:=g m (List.mem_of_mem_drop c);omega) (Nat.le_refl _)];rfl
  ·rw[w8,uO b,A6 (Ne.symm h),C60]
 | x :: r,i,j,ha,hx=>by
  obtain⟨Q,R,G⟩:=ha;have S:=G.le;have z:((x.From.toNat+1:Nat):Int)=x.From+1:=by omega
  have B:((x.To.toNat+1:Nat):Int)=x.To+1:=by omega
  obtain⟨O,i2,i3⟩:=JM b g r (x.From.toNat+1) (x.To.toNat+1) (by rw[z,B];exact G) (fun y D=>hx y (List.mem_cons_of_mem _ D));have v:x.From.toNat<l.length:=by omega
  have H:x.To.toNat<list.length:=by omega
  have D:=g l[x.From.toNat] (C35 v);have f:l[x.From.toNat].Line=list[x.To.toNat]:=by
   have:=hx x (by simp);rw[C29 H]at this;unfold I2 at this;rw[C63,C29 v]at this;exact Option.some.inj this
  have J:=uM b;have E:l.drop i=(l.drop i).take (x.From.toNat-i)++l[x.From.toNat]::l.drop (x.From.toNat+1):=by
   rw[<-C38 v];exact fM l (by omega)
  have F:list.drop j=(list.drop j).take (x.To.toNat-j)++list[x.To.toNat]::list.drop (x.To.toNat+1):=by
   rw[<-C38 H];exact fM list (by omega)
  have K:(l[x.From.toNat]?.map fun y=>(⟨y.Line,L1 y.Parents (J6 p)⟩:Merged)).toList=[⟨l[x.From.toNat].Line,L1 l[x.From.toNat].Parents (J6 p)⟩]:=by rw[C29 v];rfl
  have d:=fun q=>uN (m:=l[x.From.toNat].Parents) (p:=p) (q:=q) (by omega) b;have C:LowP p ((l.drop i).take (x.From.toNat-i)):=g.sub fun m c=>c7 c;unfold m9;rw[K];generalize M:(l.drop i).take (x.From.toNat-i)=A at C E ⊢;generalize N:(list.drop j).take (x.To.toNat-j)=A2 at F ⊢;refine⟨?_,fun q h=>?_,?_⟩
  ·rw[w8,w8,w8,O,uO b,A5 rfl,wL (l:=A) fun m c=>JL (p:=p) (by have:=C m c;omega) (Nat.le_refl _),C58,F];have:bM p [(⟨l[x.From.toNat].Line,L1 l[x.From.toNat].Parents (J6 p)⟩:Merged)]=[list[x.To.toNat]]:=by
    unfold bM;rw[List.filter_cons_of_pos (by rw[d,A3 rfl,Bool.or_true])];show [l[x.From.toNat].Line]=_;rw[f]
   rw[this];simp
  ·have I:bM q (l.drop i)=bM q A++(bM q [l[x.From.toNat]]++bM q (l.drop (x.From.toNat+1))):=by
    rw[E,<-w8,<-w8];rfl
   rw[w8,w8,w8,i2 q h,uO b,A6 (Ne.symm h),C60,I];have:bM q [(⟨l[x.From.toNat].Line,L1 l[x.From.toNat].Parents (J6 p)⟩:Merged)]=bM q [l[x.From.toNat]]:=by
    unfold bM;have hb:Y4 (L1 l[x.From.toNat].Parents (J6 p)) q=Y4 l[x.From.toNat].Parents q:=by rw[d,A4 (Ne.symm h),Bool.or_false]
    cases w:Y4 l[x.From.toNat].Parents q
    ·rw[List.filter_cons_of_neg (by rw[hb,w];decide),List.filter_cons_of_neg (by rw[w];decide)]
    ·rw[List.filter_cons_of_pos (by rw[hb,w]),List.filter_cons_of_pos (by rw[w])];rfl
   rw[this]
  ·refine uP (uP C.up (SY b _)) (uP ?_ i3);intro m c;rw[List.mem_singleton.1 c];exact or_pos b D
theorem SZ{l:List Merged}{list:List Int}{p:Nat}(f:p<32)(d:LowP p l) :
  bM p (n8 l list p)=list/\(∀q,q≠p->bM q (n8 l list p)=bM q l)/\LowP (p+1) (n8 l list p):=by
 have a:=Z2 (I2 l) list 0 0;rw[Int.zero_add,Int.zero_add,show (I2 l).length=l.length by simp[I2]]at a
 have:=JM (list:=list) f d (H5 0 0 (I2 l) list) 0 0 a (fun x i=>by
  obtain⟨_,_,v,b,c⟩:=IG (I2 l) list 0 0 x i;rw[Int.sub_zero]at b c
  rw[b,c])
 exact this
theorem qC:∀(c:List (List Int)) (b:List Merged) (p:Nat),p+c.length<=32->LowP p b->(I8 b p c).2=0 ->
  LowP (p+c.length) (I8 b p c).1/\(∀q,q<p->bM q (I8 b p c).1=bM q b)/\∀t,t<c.length->bM (p+t) (I8 b p c).1=c.getD t []
 | [],b,p,_,ha,_=>⟨ha,fun _ _=>rfl,fun t d=>absurd d (Nat.not_lt_zero _)⟩
 | x :: r,b,p,hp,ha,h=>by
  rw[C34]at hp;unfold I8 at h ⊢;split at h
  ·cases h
  ·rename_i e;rw[A6 e];obtain⟨g,i,j⟩:=SZ (list:=x) (p:=p) (by omega) ha;obtain⟨f,i2,i3⟩:=qC r (n8 b x p) (p+1) (by omega) j h;refine⟨?_,fun q k=>?_,fun t d=>?_⟩
   ·rw[C34,show p+(r.length+1)=p+1+r.length by omega];exact f
   ·exact (i2 q (by omega)).trans (i q (by omega))
   ·cases t with
    | zero=>exact (i2 p (by omega)).trans g
    | succ t =>
     have:=i3 t (by rw[C34]at d;omega);rw[show p+1+t=p+(t+1) by omega]at this;exact this
theorem zC{a:List (List Int)}(h:(H7 a).2=0):LowP a.length (H7 a).1/\∀q,q<a.length->bM q (H7 a).1=a.getD q []:=by
 unfold H7 at h ⊢;split at h
 ·cases h
 ·rename_i d;rw[A6 d];obtain⟨b,_,c⟩:=qC a [] 0 (by omega) (fun m e=>by cases e) h;rw[Nat.zero_add]at b;exact⟨b,fun q f=>by have:=c q f;rwa[Nat.zero_add]at this⟩
theorem qD(B:Nat):∀(b:List (List Int)) (a:List Merged) (p:Nat),(∀x∈b,x.length<=B)->a.length+b.length*B<=4096->(I8 a p b).2=0
 | [],a,p,_,_=>rfl
 | x::r,a,p,hl,h=>by
  have e:=hl x (by simp);have d:=fY a x p;rw[C34,C62,Nat.one_mul]at h;unfold I8;rw[A6 (by omega)];exact qD B r (n8 a x p) (p+1) (fun y c=>hl y (List.mem_cons_of_mem _ c)) (by omega)
theorem zD{B:Nat}{a:List (List Int)}(b:∀x∈a,x.length<=B)(c:a.length<=32)(h:a.length*B<=4096):(H7 a).2=0:=by
 unfold H7;rw[A6 (by omega)];exact qD B a [] 0 b (by simpa using h)
def cL{α:Type}(G:Nat->List α)(a b:Nat):List α:=((List.range (b-a)).map fun t=>G (a+t)).flatten
theorem fN{α:Type}(G:Nat->List α){a b c:Nat}(d:a<=b)(e:b<=c):cL G a c=cL G a b++cL G b c:=by
 unfold cL;rw[show c-a=(b-a)+(c-b) by omega,List.range_add,C50,C69,C71]
 congr 3
 funext t;show G (a+(b-a+t))=G (b+t);rw[show a+(b-a+t)=b+t by omega]
theorem nL{α:Type}(G:Nat->List α)(a:Nat):cL G a (a+1)=G a:=by
 unfold cL;rw[show a+1-a=1 by omega];simp[C75]
theorem JN{α:Type}(G:Nat->List α)(a:Nat):cL G a a=[]:=by unfold cL;simp
theorem kX{α:Type}{G G':Nat->List α}{a b:Nat}(h:∀k,a<=k->k<b->G k=G' k):cL G a b=cL G' a b:=by
 unfold cL
 congr 1
 exact List.map_congr_left fun t c=>h _ (by omega) (by have:=C40.1 c;omega)
theorem EP{α:Type}{G:Nat->List α}{a b:Nat}(h:∀k,a<=k->k<b->G k=[]):cL G a b=[]:=by
 rw[kX (G':=fun _=>[]) h];unfold cL;exact List.flatten_eq_nil_iff.2 fun l c=>by obtain⟨t,_,rfl⟩:=C54.1 c;rfl
theorem B85{α β:Type}(f:α->β)(G:Nat->List α)(a b:Nat):cL (fun k=>(G k).map f) a b=(cL G a b).map f:=by
 unfold cL;rw[List.map_flatten,C71];rfl
theorem TA{α:Type}(l:List α):∀d i,i+d=l.length->cL (fun k=>(l[k]?).toList) i (l.length+1)=l.drop i
 | 0,i,h=>by
  rw[show l.length+1=i+1 by omega,nL,C49 (by omega),List.drop_of_length_le (by omega)];rfl
 | d+1,i,h=>by
  have a:i<l.length:=by omega
  rw[fN _ (show i<=i+1 by omega) (show i+1<=l.length+1 by omega),nL,TA l d (i+1) (by omega),C29 a,C38 a];rfl
def piece(b:List Int)(c:Change):List Int:=(b.drop c.Old.toNat).take ((c.Old+c.OldLen).toNat-c.Old.toNat)
def gO(b:List Int)(d:List Change)(k:Nat)(a:List Int):List Int:=d.foldl (fun a c=>if k=c.New.toNat then piece b c else a) a
theorem JO{b:List Int}{k:Nat}:∀{e:List Change} {a:List Int},(∀c∈e,k≠c.New.toNat)->gO b e k a=a
 | [],_,_=>rfl
 | c::r,a,h=>by
  unfold gO;rw[C68,A6 (h c (by simp))];exact JO (fun d f=>h d (List.mem_cons_of_mem _ f))
theorem JP(c:List Int)(a b:List Change)(k:Nat)(z:List Int):gO c (a++b) k z=gO c b k (gO c a k z):=by unfold gO;rw[C78]
theorem TB(p:Nat)(a:List Int)(k:Nat):∀(b:List Change) (g:Nat->List (List Int)),b.foldl (R6 p a) g k=(g k).set p (gO a b k ((g k).getD p []))
 | [],g=>by
  refine List.ext_getElem? fun q=>?_;show (g k)[q]?=((g k).set p ((g k).getD p []))[q]?;rw[C84];split
  ·rename_i h;subst h;split
   ·rename_i h;rw[C33,C29 h];rfl
   ·rename_i h;exact C49 (by omega)
  ·rfl
 | c::r,g=>by
  rw[C68,TB p a k r];have e:R6 p a g c k=if k=c.New.toNat then (g k).set p (piece a c) else g k:=rfl
  rw[e];show _=(g k).set p (gO a r k (if k=c.New.toNat then piece a c else (g k).getD p []));split
  ·rw[List.set_set];by_cases d:p<(g k).length
   ·rw[C33,C90 d];rfl
   ·rw[List.set_eq_of_length_le (by omega),List.set_eq_of_length_le (by omega)]
  ·rfl
theorem JQ(a b:List Change)(k:Nat):V0 (a++b) k=(V0 a k||V0 b k):=by unfold V0;rw[C93]
theorem B07{a:List Change}{k:Nat}(h:∀c∈a,(k:Int)<c.New):V0 a k=false:=by
 unfold V0;rw[List.any_eq_false];intro c b;have:=h c b;rw[decide_eq_true_eq];omega
def EQ(b a:List Int)(c:List Change)(k:Nat):List Int:=gO b c k []++(if V0 c k=true then [] else (a[k]?).toList)
theorem TD{b d:List Int}:∀(ps:List Span) (i j:Nat),Asc b.length d.length i j ps->(∀x∈ps,b[x.From.toNat]?=d[x.To.toNat]?) ->
  cL (EQ b d (R5 i j ps b.length d.length)) j (d.length+1)=b.drop i
 | [],i,j,ha,_=>by
  have K:(i:Int)<=b.length/\(j:Int)<=d.length:=ha;unfold R5;rw[fN _ (show j<=j+1 by omega) (show j+1<=d.length+1 by omega),nL];by_cases h:(b.length:Int)>i\/(d.length:Int)>j
  ·rw[A5 h];have v:∀k,gO b [⟨i,(b.length:Int)-i,j,(d.length:Int)-j⟩] k []=if k=j then b.drop i else []:=by
    intro k;show (if k=(j:Int).toNat then piece b _ else [])=_;rw[C31];have w:piece b ⟨i,(b.length:Int)-i,j,(d.length:Int)-j⟩=b.drop i:=by
     unfold piece;dsimp only;rw[C31,C65 (by rw[C45];omega)]
    rw[w]
   have u:∀k,j<=k->(if V0 [⟨i,(b.length:Int)-i,j,(d.length:Int)-j⟩] k=true then [] else (d[k]?).toList)=([]:List Int):=by
    intro k g;by_cases q:k<d.length
    ·rw[A5];unfold V0;simp only[List.any_cons,List.any_nil,Bool.or_false,decide_eq_true_eq,C31];omega
    ·rw[C49 (by omega)];split<;>rfl
   rw[EP (fun k g _=>by unfold EQ;rw[v,u k (by omega),A6 (by omega)];rfl)];unfold EQ;rw[v,u j (Nat.le_refl _),A5 rfl];simp
  ·rw[A6 h,EP (fun k g q=>by omega)];unfold EQ;rw[C49 (by omega),List.drop_of_length_le (by omega)];rfl
 | x :: r,i,j,ha,hx=>by
  obtain⟨K,Q,C⟩:=ha;have S:=C.le;have v:((x.From.toNat+1:Nat):Int)=x.From+1:=by omega
  have w:((x.To.toNat+1:Nat):Int)=x.To+1:=by omega
  have B:=TD r (x.From.toNat+1) (x.To.toNat+1) (by rw[v,w];exact C) (fun y P=>hx y (List.mem_cons_of_mem _ P));rw[v,w]at B;have n:=C.made;have O:=hx x (by simp);have F:x.From.toNat<b.length:=by omega
  have T:x.To.toNat<d.length:=by omega
  have G:b.drop i=(b.drop i).take (x.From.toNat-i)++(d[x.To.toNat]?.toList++b.drop (x.From.toNat+1)):=by
   rw[<-O,C29 F];show _=_++(b[x.From.toNat]::b.drop (x.From.toNat+1))
   rw[<-C38 F];exact fM b (by omega)
  unfold R5;obtain⟨R,M⟩:∃R,R=R5 (x.From+1) (x.To+1) r b.length d.length:=⟨_,rfl⟩
  rw[<-M]at n B ⊢;have m:∀k:Nat,(k:Int)<=x.To->∀z,gO b R k z=z:=fun k g z=>JO fun c D=>by have:=n c D;omega
  have l:∀k:Nat,(k:Int)<=x.To->V0 R k=false:=fun k g=>B07 fun c D=>by have:=n c D;omega
  rw[fN _ (show j<=x.To.toNat by omega) (show x.To.toNat<=d.length+1 by omega),fN _ (show x.To.toNat<=x.To.toNat+1 by omega) (show x.To.toNat+1<=d.length+1 by omega),nL];by_cases h:x.From>i\/x.To>j
  ·rw[A5 h];have H:∀k,gO b [⟨i,x.From-i,j,x.To-j⟩] k []=if k=j then (b.drop i).take (x.From.toNat-i) else []:=by
    intro k;show (if k=(j:Int).toNat then piece b _ else [])=_;rw[C31];have u:piece b ⟨i,x.From-i,j,x.To-j⟩=(b.drop i).take (x.From.toNat-i):=by
     unfold piece;dsimp only;rw[C31,show ((i:Int)+(x.From-i)).toNat=x.From.toNat by omega]
    rw[u]
   have I:∀k,V0 [⟨i,x.From-i,j,x.To-j⟩] k=decide (j<=k/\k<x.To.toNat):=by
    intro k;unfold V0;simp only[List.any_cons,List.any_nil,Bool.or_false,C31];refine decide_eq_decide.2 ?_;omega
   have f:∀k:Nat,(k:Int)<=x.To->EQ b d ([⟨i,x.From-i,j,x.To-j⟩]++R) k=(if k=j then (b.drop i).take (x.From.toNat-i) else [])++(if j<=k/\k<x.To.toNat then [] else (d[k]?).toList):=by
    intro k g;unfold EQ;rw[JP,m k g,H,JQ,l k g,I,Bool.or_false];by_cases A:j<=k/\k<x.To.toNat
    ·rw[A3 A,A5 (show true=true from rfl),A5 A]
    ·rw[A4 A,A6 (show ¬false=true by decide),A6 A]
   have p:cL (EQ b d ([⟨i,x.From-i,j,x.To-j⟩]++R)) (x.To.toNat+1) (d.length+1)=b.drop (x.From.toNat+1):=by
    rw[<-B];refine kX fun k g q=>?_;unfold EQ;rw[JP,H,A6 (by omega),JQ,I,A4 (by omega),Bool.false_or]
   rw[p,f _ (by omega),A6 (show ¬(j<=x.To.toNat/\x.To.toNat<x.To.toNat) by omega)]
   conv=>rhs;rw[G]
   by_cases E:x.To.toNat=j
   ·rw[A5 E,E,JN];simp
   ·rw[A6 E,fN _ (show j<=j+1 by omega) (show j+1<=x.To.toNat by omega),nL,EP (fun k g q=>by rw[f k (by omega),A6 (by omega),A5 (by omega)];rfl),f j (by omega),A5 rfl,A5 (by omega)];simp
  ·rw[A6 h,C58,B];have u:x.From.toNat=i:=by omega
   have J:x.To.toNat=j:=by omega
   conv=>rhs;rw[G]
   rw[u,J,JN];unfold EQ;rw[m j (by omega),l j (by omega),A6 (by decide)];simp
theorem B86(b a:List Int):cL (EQ b a (Q0 b a)) 0 (a.length+1)=b:=by
 have c:=Z2 b a 0 0;rw[Int.zero_add,Int.zero_add]at c
 have:=TD (H5 0 0 b a) 0 0 c (fun x f=>by
  obtain⟨_,_,v,d,e⟩:=IG b a 0 0 x f;rw[Int.sub_zero]at d e
  rw[d,e])
 exact this
theorem TE(a:List (List Int))(b n:Nat):∀p,p<=n->∀k,((g9 a b n p).2 k).length=n/\∀q,((g9 a b n p).2 k).getD q []=if q<p then gO (a.getD (q+1) []) (Q0 (a.getD (q+1) []) (a.getD 0 [])) k [] else []
 | 0,_,k=>by
  refine⟨by simp[g9,CH],fun q=>?_⟩;rw[A6 (by omega)];show (List.replicate n []).getD q []=[]
  rw[C33,List.getElem?_replicate];split<;>rfl
 | p+1,hp,k=>by
  obtain⟨i,d⟩:=TE a b n p (by omega) k;rw[mN];have e:(y4 a (g9 a b n p) p).2 k=((g9 a b n p).2 k).set p (gO (a.getD (p+1) []) (Q0 (a.getD (p+1) []) (a.getD 0 [])) k (((g9 a b n p).2 k).getD p [])):=TB p _ k _ _;rw[e,d p,A6 (by omega)];refine⟨by rw[C73,i],fun q=>?_⟩;rw[C33,C84];by_cases f:p=q
  ·subst f;rw[A5 rfl,A5 (by omega),A5 (by omega)];rfl
  ·rw[A6 f,<-C33,d q];by_cases c:q<p
   ·rw[A5 c,A5 (by omega)]
   ·rw[A6 c,A6 (by omega)]
theorem JR{b:List (List Int)}{a:List Int}{n:Nat}(hb:a=b.getD 0 [])(j:∀x∈b,x.length<=4096)(c:a.length<=4096):∀p,p<=32->∀(q k:Nat) (v:Int),(cJ b a.length n p).1[k]?=some v->Y4 v q=(decide (q<p)&&V0 (Q0 (b.getD (q+1) []) a) k)
 | 0,_,q,k,v,h=>by
  have:=List.eq_of_mem_replicate (show v∈List.replicate a.length 0 from C53 h);subst this;rw[A4 (by omega),Bool.false_and];simp[Y4]
 | p+1,hp,q,k,v,h=>by
  obtain⟨y,t,z⟩:=oM (n:=n) hb j c p (by omega);rw[nK]at h;have e:(dM b (cJ b a.length n p) p).1=(Q0 (b.getD (p+1) []) (b.getD 0 [])).foldl (O9 p) (cJ b a.length n p).1:=rfl;rw[e,EM,<-hb]at h;cases g:(cJ b a.length n p).1[k]? with
  | none=>rw[g]at h;cases h
  | some w =>
   rw[g]at h;have i:=JR (n:=n) hb j c p (by omega) q k w g;have m:=t w (C53 g);have u:=uM (p:=p) (by omega);have h:(if V0 (Q0 (b.getD (p+1) []) a) k=true then L1 w (J6 p) else w)=v:=Option.some.inj h;rw[<-h];by_cases r:p=q
   ·subst r;rw[A4 (Nat.lt_irrefl _),Bool.false_and]at i;rw[A3 (by omega),Bool.true_and];cases V0 (Q0 (b.getD (p+1) []) a) k
    ·rw[A6 (by decide),i]
    ·rw[A5 rfl,uN (by omega) (by omega),A3 rfl,Bool.or_true]
   ·have s:decide (q<p+1)=decide (q<p):=by by_cases h:q<p<;>simp[h]<;>omega
    rw[s,<-i];split
    ·rw[uN (by omega) (by omega),A4 r,Bool.or_false]
    ·rfl
theorem TF(s:Str):∀(l:List Str) (k:Int),0<=k->s∈l->l[(J0 l s k-k).toNat]?=some s
 | [],_,_,h=>(by cases h)
 | x::r,k,hk,h=>by
  unfold J0;by_cases b:x=s
  ·rw[A5 b,Int.sub_self,b];rfl
  ·rw[A6 b];have c:s∈r:=by rcases C36.1 h with rfl | h;exact absurd rfl b;exact h
   have e:=jV r s (k+1) (by omega) c;have d:=TF s r (k+1) (by omega) c;rw[show (J0 r s (k+1)-k).toNat=(J0 r s (k+1)-(k+1)).toNat+1 by omega,List.getElem?_cons_succ];exact d
def nM(a:List Str)(v:Int):Str:=a.getD v.toNat []
theorem A03{a:List Str}{s:Str}(h:s∈a):nM a (J0 a s 0)=s:=by
 have:=TF s a 0 (Int.le_refl _) h;rw[Int.sub_zero]at this;unfold nM;rw[C33,this];rfl
theorem XU{b f:List Str}(h:∀s∈f,s∈b):(R4 b f).map (nM b)=f:=by
 unfold R4;rw[C71]
 conv=>rhs;rw[<-List.map_id f]
 exact List.map_congr_left fun s hs=>A03 (h s hs)
theorem JS(G:Nat->List Row)(a b:Nat)(c:Int):L9 (cL G a b) c=cL (fun k=>L9 (G k) c) a b:=by
 unfold L9 cL;rw[List.filter_flatten,List.map_flatten,C71,C71];rfl
theorem wM(a b:List Row)(c:Int):L9 (a++b) c=L9 a c++L9 b c:=by unfold L9;rw[C83,C50]
theorem ER(w:Row){q:Nat}(a:q<32):y3 w q=(Y4 w.Marks q == w.Lost):=by
 rw[y3,A6 (by omega),A6 (by omega),C31]
theorem TG(f:Int->Str){q:Nat}(c:q<32):∀l:List Merged,L9 (l.map fun m=>(⟨true,m.Parents,f m.Line⟩:Row)) q=(bM q l).map f
 | []=>rfl
 | m::r=>by
  have b:=TG f c r;unfold L9 bM I2 at b ⊢;rw[C39,C80,C80,ER _ c];dsimp only;rw[show (Y4 m.Parents q == true)=Y4 m.Parents q by simp];cases Y4 m.Parents q
  ·rw[A6 (by decide),A6 (by decide)];exact b
  ·rw[A5 rfl,A5 rfl,C39,C39,C39,b]
theorem B08(f:Int->Str)(l:List Merged):L9 (l.map fun m=>(⟨true,m.Parents,f m.Line⟩:Row)) (-1)=[]:=by
 unfold L9;rw[List.filter_eq_nil_iff.2]
 ·rfl
 ·intro w a;obtain⟨m,_,rfl⟩:=C54.1 a;simp[y3]
structure Made16 (x:Str) (r:List Str) (rows:List Row):Prop where
 res:L9 rows (-1)=B6 x
 par:∀q,q<r.length->L9 rows q=B6 (r.getD q [])
 marks:R0 rows r.length=true
 texts:∀w∈rows,K0 w.Text=true
theorem yN{x:Str}{r:List Str}(hx:(B6 x).length<=4096)(hr:∀b∈r,(B6 b).length<=4096)(h:(E7 x r).2=0) :
  (1<=r.length/\r.length<=32)/\(E7 x r).1.Parents=r.length/\Made16 x r (E7 x r).1.Rows:=by
 by_cases hn:r.length<1\/32<r.length
 ·rw[E7,A5 hn]at h;cases h
 obtain⟨F,hF⟩:∃F,F=B6 x:=⟨_,rfl⟩
 obtain⟨N,W⟩:∃N,N=J1 (F::r.map B6):=⟨_,rfl⟩
 obtain⟨A,u⟩:∃A,A=(F::r.map B6).map (R4 N):=⟨_,rfl⟩
 obtain⟨s,hs⟩:∃s,s=g9 A F.length r.length r.length:=⟨_,rfl⟩
 have hm:E7 x r=if ∃k,k<F.length+1/\(H7 (s.2 k)).2≠0 then (⟨0,[]⟩,1) else (⟨r.length,i6 N F s (F.length+1)⟩,0):=by
  rw[E7,A6 hn,hs,u,W,hF]
 rw[hm]at h ⊢;split at h
 ·cases h
 rename_i ad;rw[A6 ad];have L:∀k,k<F.length+1->(H7 (s.2 k)).2=0:=fun k G=>Classical.byContradiction fun hc=>ad ⟨k,G,hc⟩;refine⟨by omega,rfl,?_⟩;dsimp only;have ae:i6 N F s (F.length+1)=cL (V6 N F s) 0 (F.length+1):=by
  unfold i6 cL;rw[Nat.sub_zero]
  congr 1
  exact List.map_congr_left fun t _=>by rw[Nat.zero_add]
 rw[ae];have J:∀f∈F::r.map B6,∀t∈f,t∈N:=fun f H t ht=>by rw[W];exact mO _ t f H ht
 have C:∀f∈F::r.map B6,f.length<=4096/\∀t∈f,K0 t=true:=by
  intro f H;rcases C36.1 H with rfl | H
  ·rw[hF];exact⟨hx,(cC x).1⟩
  ·obtain⟨b,hb,rfl⟩:=C54.1 H;exact⟨hr b hb,(cC b).1⟩
 have S:∀z∈A,z.length<=4096:=by
  intro z L;rw[u]at L;obtain⟨f,H,rfl⟩:=C54.1 L;rw[R4,C55];exact (C f H).1
 obtain⟨d,hb⟩:∃d,d=R4 N F:=⟨_,rfl⟩
 have M:d=A.getD 0 []:=by rw[hb,u];rfl
 have Q:d.length=F.length:=by rw[hb,R4,C55]
 have ai:F.length<=4096:=(C F (by simp)).1;obtain⟨p1,p2,p3⟩:=oM (n:=r.length) M S (by omega) r.length (by omega);rw[Q]at p1 p2 p3;rw[<-hs]at p1;rw[p1]at p2 p3;have E:=JR (n:=r.length) M S (by omega) r.length (by omega);rw[Q,p1]at E;have B:=TE A F.length r.length r.length (Nat.le_refl _);rw[<-hs]at B;have X:=fun k G=>zC (L k G);have U:LoomOk (fun v=>0<=v/\v<(N.length:Int)) 4096 F.length r.length s:=by
  rw[hs];refine iP (fun z L=>⟨S z L,fun v hv=>?_⟩) _;rw[u,W]at L;rw[W];exact ids_in _ z L v hv
 have D:∀k,k<F.length->∃v,s.1[k]?=some v/\s.1.getD k 0=v/\0<=v/\v<((2 ^ r.length:Nat):Int):=by
  intro k G;refine⟨s.1[k]'(by omega),C29 _,?_,p2 _ (C35 _)⟩;rw[C33,C29 (by omega)];rfl
 have K:∀w∈cL (V6 N F s) 0 (F.length+1),U6 r.length w=true/\K0 w.Text=true:=by
  intro w V;unfold cL at V;obtain⟨l,hl,i⟩:=List.mem_flatten.1 V;obtain⟨k,G,rfl⟩:=C54.1 hl;have G:=C40.1 G;rw[Nat.zero_add]at i;have aj:((2 ^ r.length:Nat):Int)=2 ^ r.length:=by simp
  unfold V6 at i;rcases C37.1 i with i | i
  ·obtain⟨m,ac,rfl⟩:=C54.1 i;have h1:=(X k (by omega)).1 m ac;rw[(B k).1]at h1;have h2:=((gZ _ 4096 (s.2 k) (U.gaps k).2).2 m ac).2;refine⟨?_,?_⟩
   ·unfold U6;dsimp only;rw[Int.ediv_eq_zero_of_lt (by omega) (by omega)];have:(m.Parents == 0)=false:=by rw[beq_eq_false_iff_ne];omega
    rw[this];decide
   ·show K0 (N.getD m.Line.toNat [])=true;have h3:m.Line.toNat<N.length:=by omega
    rw[C33,C29 h3];have h4:N[m.Line.toNat]∈J1 (F::r.map B6):=by rw[<-W];exact C35 h3
    obtain⟨f,H,ht⟩:=List.mem_flatten.1 (xP _ _ h4);exact (C f H).2 _ ht
  ·split at i
   ·rename_i c;rw[List.mem_singleton]at i;subst i;obtain⟨v,_,g2,g3,g4⟩:=D k c;refine⟨?_,?_⟩
    ·unfold U6;dsimp only;rw[g2,Int.ediv_eq_zero_of_lt g3 (by omega)];rfl
    ·show K0 (F.getD k [])=true;rw[C33,C29 c];exact (C F (by simp)).2 _ (C35 c)
   ·cases i
 have I:∀(z:List Str) (k:Nat) (h:k<z.length),z.getD k []=z[k]:=fun z k h=>by rw[C33,C29 h];rfl
 refine⟨?_,fun q T=>?_,List.all_eq_true.2 fun w V=>(K w V).1,fun w V=>(K w V).2⟩
 ·rw[JS,<-hF];have:=TA F F.length 0 (by omega);rw[List.drop_zero]at this
  conv=>rhs;rw[<-this]
  refine kX fun k _ G=>?_;unfold V6;rw[wM,show (fun m:Merged=>(⟨true,m.Parents,N.getD m.Line.toNat []⟩:Row))=fun m=>⟨true,m.Parents,nM N m.Line⟩ from rfl,B08,C58];by_cases c:k<F.length
  ·rw[A5 c,C29 c,I F k c];rfl
  ·rw[A6 c,C49 (by omega)];rfl
 ·obtain⟨j,y⟩:∃j,j=A.getD (q+1) []:=⟨_,rfl⟩
  have ah:j=R4 N (B6 (r.getD q [])):=by
   rw[y,u,I r q T,C33,C39,List.getElem?_cons_succ,C63,C63,C29 T];rfl
  have O:j.map (nM N)=B6 (r.getD q []):=by
   rw[ah];refine XU fun t ht=>J _ (List.mem_cons_of_mem _ (List.mem_map_of_mem ?_)) t ht;rw[I r q T];exact C35 T
  have Y:=B86 j d;rw[JS,<-O]
  conv=>rhs;rw[<-Y,<-B85,Q]
  refine kX fun k _ G=>?_;have Z:=(B k).2 q;rw[A5 T,<-y,<-M]at Z;have ag:=(X k G).2 q (by rw[(B k).1];exact T);unfold V6 EQ;rw[wM,show (fun m:Merged=>(⟨true,m.Parents,N.getD m.Line.toNat []⟩:Row))=fun m=>⟨true,m.Parents,nM N m.Line⟩ from rfl,TG (nM N) (by omega),ag,Z,C50]
  congr 1
  by_cases c:k<F.length
  ·obtain⟨v,g1,g2,_⟩:=D k c;have ab:=E q k v g1;rw[A3 T,Bool.true_and,<-y]at ab;rw[A5 c,g2];unfold L9;rw[C80,ER _ (by omega)];dsimp only;rw[ab];cases V0 (Q0 j d) k
   ·rw[A5 (show (false == false)=true from rfl),A6 (show ¬false=true by decide)];have af:d[k]?=some (J0 N F[k] 0):=by rw[hb,R4,C63,C29 c];rfl
    rw[af,I F k c];show [F[k]]=[nM N (J0 N F[k] 0)]
    rw[A03 (J F (by simp) _ (C35 c))]
   ·rw[A6 (show ¬(true == false)=true by decide),A5 (show true=true from rfl)];rfl
  ·rw[A6 c,C49 (by omega)];split<;>rfl
theorem Made16.texts16{x:Str}{r:List Str}{a:List Row}(h:Made16 x r a):aX a r.length=true:=by
 unfold aX;rw[C30];refine⟨List.all_eq_true.2 h.texts,List.all_eq_true.2 fun k c=>?_⟩;have c:=C40.1 c;have d:=fun b=>kI (B6 b) (cC b).1 (cC b).2;cases k with
 | zero=>rw[show ((0:Nat):Int)-1 = -1 from rfl,h.res];exact d x
 | succ q =>
  rw[show ((q+1:Nat):Int)-1=(q:Int) by omega,h.par q (by omega)];exact d _
theorem NM{x:Str}{r:List Str}(f:(B6 x).length<=4096)(d:∀b∈r,(B6 b).length<=4096)(h:(E7 x r).2=0):J2 (E7 x r).1=0:=by
 obtain⟨i,c,a⟩:=yN f d h;unfold J2;rw[c,A6 (by omega),C31,a.marks,A6 (by decide),a.texts16,A6 (by decide)]
theorem TH{x:Str}{r:List Str}{B:Nat}(o:1<=r.length/\r.length<=32)(u:(B6 x).length<=B)(q:∀b∈r,(B6 b).length<=B)(h:r.length*B<=4096):(E7 x r).2=0:=by
 unfold E7;rw[A6 (by omega)];dsimp only;rw[A6];rintro⟨k,_,j⟩;refine j ?_
 have c:=(iP (Q:=fun _=>True) (B:=B) (lines:=(B6 x).length) (n:=r.length) (ids:=(B6 x::r.map B6).map (R4 (J1 (B6 x::r.map B6)))) (fun z i=>by
  obtain⟨f,d,rfl⟩:=C54.1 i;refine⟨?_,fun _ _=>trivial⟩;rw[R4,C55];rcases C36.1 d with rfl | d
  ·exact u
  ·obtain⟨b,hb,rfl⟩:=C54.1 d
   exact q b hb) r.length).gaps k
 exact zD (B:=B) (fun z i=>(c.2 z i).1) (by rw[c.1];exact o.2) (by rw[c.1];exact h)
def CutSp(m:Nat):Int->List Span->Prop
 | _,[]=>True
 | e,s::r=>e<=s.From/\s.From<s.To/\s.To<=m/\CutSp m s.To r
def endOf(e:Int):List Span->Int
 | []=>e
 | s::r=>endOf s.To r
theorem CutSp.mono{m a:Nat}(c:m<=a):∀{b:List Span} {e:Int},CutSp m e b->CutSp a e b
 | [],_,_=>trivial
 | s::r,e,h=>⟨h.1,h.2.1,by have:=h.2.2.1;omega,CutSp.mono c h.2.2.2⟩
theorem CutSp.end_le{m:Nat}:∀{sp:List Span} {e:Int},CutSp m e sp->e<=m->endOf e sp<=m
 | [],_,_,he=>he
 | s::r,_,h,_=>CutSp.end_le (sp:=r) (e:=s.To) h.2.2.2 h.2.2.1
theorem XV{m:Nat}{s:Span}:∀{sp:List Span} {e:Int},CutSp m e (sp++[s])↔CutSp m e sp/\endOf e sp<=s.From/\s.From<s.To/\s.To<=m
 | [],e=>⟨fun h=>⟨trivial,h.1,h.2.1,h.2.2.1⟩,fun h=>⟨h.2.1,h.2.2.1,h.2.2.2,trivial⟩⟩
 | x::r,e=>by
  have c:=XV (m:=m) (s:=s) (sp:=r) (e:=x.To);constructor
  ·intro h;obtain⟨a,b⟩:=c.1 h.2.2.2;exact⟨⟨h.1,h.2.1,h.2.2.1,a⟩,b⟩
  ·rintro⟨a,b⟩;exact⟨a.1,a.2.1,a.2.2.1,c.2 ⟨a.2.2.2,b⟩⟩
theorem TI:∀(l:List Bool) (i:Nat) (p:Bool) (c:List Span),CutSp i 0 c->(p=true->∃o a,c=o++[⟨a,i⟩])->CutSp (i+l.length) 0 (nI l i p c)
 | [],i,p,c,h,_=>h
 | b :: r,i,p,c,h,hp=>by
  rw[nI,C34,show i+(r.length+1)=i+1+r.length by omega];have d:(b=true->∃o a,(if b=true then dL (if p=true then c else c++[⟨i,i⟩]) ((i:Int)+1) else c)=o++[⟨a,((i+1:Nat):Int)⟩])/\CutSp (i+1) 0 (if b=true then dL (if p=true then c else c++[⟨i,i⟩]) ((i:Int)+1) else c):=by
   cases b
   ·exact⟨fun hb=>(by cases hb),h.mono (by omega)⟩
   ·rw[A5 rfl];cases p
    ·rw[A6 (by decide),cK];refine⟨fun _=>⟨c,i,by rw[show ((i+1:Nat):Int)=(i:Int)+1 by omega]⟩,?_⟩;have:=h.end_le (by omega);exact XV.2 ⟨h.mono (by omega),this,by dsimp only;omega,by dsimp only;omega⟩
    ·obtain⟨o,a,rfl⟩:=hp rfl;rw[A5 rfl,cK];refine⟨fun _=>⟨o,a,by rw[show ((i+1:Nat):Int)=(i:Int)+1 by omega]⟩,?_⟩;obtain⟨f,e,g,j⟩:=XV.1 h;dsimp only at e g j;exact XV.2 ⟨f.mono (by omega),e,by dsimp only;omega,by dsimp only;omega⟩
  exact TI r (i+1) b _ d.2 d.1
theorem B09(l:List Bool):CutSp l.length 0 (W6 l):=by
 have:=TI l 0 false [] trivial (fun h=>by cases h)
 rwa[Nat.zero_add]at this
def XW(n:Nat)(b:List Row)(s:Span):CHunk:=⟨F8 (b.take s.From.toNat) n,(b.drop s.From.toNat).take (s.To.toNat-s.From.toNat)⟩
def Y0(n:Nat)(a:List Row)(sp:List Span):List CHunk:=sp.map (XW n a)
theorem ES(n:Nat)(a:List Row):∀(b:List Span) (e:Int) (hs:List CHunk),CutSp a.length e b->bJ n a e hs b=some (hs++Y0 n a b)
 | [],_,hs,_=>by simp[bJ,Y0]
 | s::r,e,hs,h=>by
  obtain⟨d,f,g,c⟩:=h;rw[bJ,A6 (by omega),ES n a r _ _ c];simp[Y0,XW]
theorem ET(a b:List Row)(n k:Nat):N2 (a++b) n k=N2 a n k+N2 b n k:=by
 unfold N2;rw[wM,C32];omega
theorem NN(a:List Row)(n k:Nat):0<=N2 a n k/\N2 a n k<=a.length:=by
 have:=vR a (dQ n k);unfold N2;omega
theorem wN(a:List Row)(n k:Nat)(h:k<n+1):(F8 a n).getD k 0=N2 a n k:=fI _ _ _ h
theorem rS{α:Type}(c:List α){a b:Nat}(h:a<=b):c.take b=c.take a++(c.drop a).take (b-a):=by
 have:=List.take_add (l:=c) (i:=a) (j:=b-a)
 rwa[show a+(b-a)=b by omega]at this
theorem B87(n:Nat)(b:List Row){s:Span}(d:0<=s.From)(f:s.From<s.To):X9 n (XW n b s)=F8 (b.take s.To.toNat) n:=by
 unfold X9 F8;refine List.map_congr_left fun k c=>?_;have c:=C40.1 c;show (F8 (b.take s.From.toNat) n).getD k 0+N2 ((b.drop s.From.toNat).take (s.To.toNat-s.From.toNat)) n k=_;rw[wN _ _ _ c,<-ET,<-rS b (by omega)]
theorem EU(n:Nat){b:List Row}(p:b.length<=4096):∀(d:List Span) (e:Int),0<=e->CutSp b.length e d->v7 n (F8 (b.take e.toNat) n) (Y0 n b d)=true
 | [],_,_,_=>rfl
 | s::r,e,he,h=>by
  obtain⟨u,j,v,m⟩:=h;show (rJ n (F8 (b.take e.toNat) n) (XW n b s)&&v7 n (X9 n (XW n b s)) (Y0 n b r))=true;rw[B87 n b (by omega) j,EU n p r s.To (by omega) m,Bool.and_true];unfold rJ;rw[C30];refine⟨A3 ⟨DS _ _,fun o=>?_⟩,List.all_eq_true.2 fun k c=>A3 ?_⟩
  ·have:((b.drop s.From.toNat).take (s.To.toNat-s.From.toNat)).length=0:=by
    rw[show (b.drop s.From.toNat).take (s.To.toNat-s.From.toNat)=[] from o];rfl
   rw[C41,C45]at this;omega
  ·have c:=C40.1 c;show ((F8 (b.take e.toNat) n).getD k 0<=(F8 (b.take s.From.toNat) n).getD k 0/\(F8 (b.take s.From.toNat) n).getD k 0<=4096)/\(F8 (b.take s.From.toNat) n).getD k 0+N2 ((b.drop s.From.toNat).take (s.To.toNat-s.From.toNat)) n k<=4096;rw[wN _ _ _ c,wN _ _ _ c,<-ET,<-rS b (by omega)];have g1:=ET (b.take e.toNat) ((b.drop e.toNat).take (s.From.toNat-e.toNat)) n k;rw[<-rS b (by omega)]at g1;have q:=NN ((b.drop e.toNat).take (s.From.toNat-e.toNat)) n k;have f:=NN (b.take s.From.toNat) n k;have i:=NN (b.take s.To.toNat) n k;rw[C41]at f i;omega
theorem yO(n:Nat)(c:List Row):∀(d:List Span) (e:Int),0<=e->CutSp c.length e d->(bD (Y0 n c d)).Sublist (c.drop e.toNat)
 | [],_,_,_=>List.nil_sublist _
 | s::r,e,he,h=>by
  obtain⟨m,o,p,g⟩:=h;have j:=yO n c r s.To (by omega) g;show ((c.drop s.From.toNat).take (s.To.toNat-s.From.toNat)++bD (Y0 n c r)).Sublist _;have f:c.drop e.toNat=(c.drop e.toNat).take (s.From.toNat-e.toNat)++((c.drop s.From.toNat).take (s.To.toNat-s.From.toNat)++c.drop s.To.toNat):=by
   rw[<-fM c (show s.From.toNat<=s.To.toNat by omega)];exact fM c (by omega)
  rw[f];exact (List.Sublist.append (List.Sublist.refl _) j).trans (List.sublist_append_right _ _)
theorem EV:∀{l:List Str},mL l=true->(∀s∈l,K0 s=true)/\R7 l=true
 | [],_=>⟨fun s hs=>(by cases hs),rfl⟩
 | x::r,h=>by
  rw[xQ,C30,C30]at h;obtain⟨⟨a,b⟩,c⟩:=h;obtain⟨d,i2⟩:=EV c;refine⟨fun s hs=>?_,?_⟩
  ·rcases C36.1 hs with rfl | hs
   ·exact a
   ·exact d s hs
  ·show ((r.isEmpty||ended x)&&R7 r)=true;rw[b,i2];rfl
theorem B10{a b:List Row}{n:Nat}(hs:a.Sublist b)(h:aX b n=true):aX a n=true:=by
 unfold aX at h ⊢;rw[C30]at h ⊢;obtain⟨e,f⟩:=h;refine⟨List.all_eq_true.2 fun r j=>List.all_eq_true.1 e r (hs.subset j),List.all_eq_true.2 fun k g=>?_⟩;have c:=EV (List.all_eq_true.1 f k g);have d:(L9 a ((k:Int)-1)).Sublist (L9 b ((k:Int)-1)):=by unfold L9;exact (hs.filter _).map _
 exact kI _ (fun s hs=>c.1 s (d.subset hs)) (kF d c.2)
theorem GD{t:Table}(h:J2 t=0):(1<=t.Parents/\t.Parents<=32)/\R0 t.Rows t.Parents.toNat=true/\aX t.Rows t.Parents.toNat=true:=by
 unfold J2 at h;split at h
 ·cases h
 ·rename_i c;split at h
  ·cases h
  ·rename_i a;split at h
   ·cases h
   ·rename_i b;exact⟨by omega,by simpa using a,by simpa using b⟩
theorem XX{path:Str}{t:Table}{sp:List Span}{d:Bool}(y:i7 path=true)(v:J2 t=0)(D:t.Rows.length<=4096)(f:CutSp t.Rows.length 0 sp)
  (I:4*path.length+48+926*t.Rows.length+(t.Rows.map (rP t.Parents.toNat)).sum<=16777216) :
  bR path t sp d=(⟨path,d,t.Parents,Y0 t.Parents.toNat t.Rows sp⟩,0)/\J7 ⟨path,d,t.Parents,Y0 t.Parents.toNat t.Rows sp⟩=0/\(P6 ⟨path,d,t.Parents,Y0 t.Parents.toNat t.Rows sp⟩).length<=4*path.length+48+926*t.Rows.length+(t.Rows.map (rP t.Parents.toNat)).sum:=by
 obtain⟨A,q,B⟩:=GD v;have c:=ES t.Parents.toNat t.Rows sp 0 [] f;rw[C58]at c;have b:=yO t.Parents.toNat t.Rows sp 0 (Int.le_refl _) f;rw[show (0:Int).toNat=0 from rfl,List.drop_zero]at b;have F:=SG ⟨path,d,t.Parents,Y0 t.Parents.toNat t.Rows sp⟩;have w:=zV (rP t.Parents.toNat) (28*(t.Parents.toNat+1)+2) t.Parents.toNat t.Rows sp 0 [] _ (Int.le_refl _) c (by simp) (by simp);have j:(Y0 t.Parents.toNat t.Rows sp).length<=t.Rows.length:=by have:=w.2;simpa using this
 have x:(28*(t.Parents.toNat+1)+2)*(Y0 t.Parents.toNat t.Rows sp).length<=926*t.Rows.length:=Nat.mul_le_mul (by omega) j;have p:(P6 ⟨path,d,t.Parents,Y0 t.Parents.toNat t.Rows sp⟩).length<=4*path.length+48+926*t.Rows.length+(t.Rows.map (rP t.Parents.toNat)).sum:=by
  have:=w.1;dsimp only at F;omega
 have i:J7 ⟨path,d,t.Parents,Y0 t.Parents.toNat t.Rows sp⟩=0:=by
  unfold J7;dsimp only;have G:cG t.Parents.toNat (Y0 t.Parents.toNat t.Rows sp)=true:=by
   unfold cG;refine List.all_eq_true.2 fun h C=>List.all_eq_true.2 fun r E=>List.all_eq_true.1 q r (b.subset ?_);exact List.mem_flatten.2 ⟨h.Rows,List.mem_map_of_mem C,E⟩
  have H:b8 t.Parents.toNat (Y0 t.Parents.toNat t.Rows sp)=true:=by
   unfold b8;have z:List.replicate (t.Parents.toNat+1) 0=F8 (t.Rows.take (0:Int).toNat) t.Parents.toNat:=by
    unfold F8;refine List.ext_getElem (by simp) fun k A q=>?_;simp[N2,L9]
   rw[z,EU _ D sp 0 (Int.le_refl _) f,B10 b B];rfl
  rw[A6 (by rw[y];decide),A6 (by omega),G,A6 (by decide),H,A6 (by decide),A6 (by omega)]
 refine⟨?_,i,p⟩;unfold bR;rw[A6 (by rw[y];decide),v,A6 (by decide),c];dsimp only;rw[i,A6 (by decide)]
theorem NO{t:Table}{b:Int}(d:Bool)(c:J2 t=0)(h:0<=b/\b<=1048576):(K9 t b d).2=0/\CutSp t.Rows.length 0 (K9 t b d).1:=by
 have e:(F5 t d).2=0:=by
  unfold F5 bK;rw[c,A6 (show ¬(0:Int)≠0 by decide)];rfl
 unfold K9;rw[e,A6 (by decide),A6 (by omega)];refine⟨rfl,?_⟩;have:=B09 ((List.range t.Rows.length).map (R9 (F5 t d).1 b))
 rwa[C55,C72]at this
def iZ(f:Nat->Nat):Nat->Nat
 | 0=>0
 | m+1=>iZ f m+f m
theorem EW{f g:Nat->Nat}:∀{m:Nat},(∀k,f k<=g k)->iZ f m<=iZ g m
 | 0,_=>Nat.le_refl _
 | m+1,h=>by
  have a:=EW (f:=f) (g:=g) (m:=m) h;have b:=h m;show iZ f m+f m<=iZ g m+g m;omega
theorem JT{f g:Nat->Nat}{k0:Nat}(h:∀k,f k<=g k)(a:f k0+1<=g k0):∀{m:Nat},k0<m->iZ f m+1<=iZ g m
 | 0,hm=>absurd hm (Nat.not_lt_zero _)
 | m+1,hm=>by
  show iZ f m+f m+1<=iZ g m+g m;by_cases b:k0=m
  ·subst b;have:=EW (f:=f) (g:=g) (m:=k0) h;omega
  ·have c:=JT h a (m:=m) (by omega);have d:=h m;omega
theorem JU{n:Nat}(p:n<=32){r:Row}(h:U6 n r=true):∃k,k<n+1/\y3 r ((k:Int)-1)=true:=by
 obtain⟨g,i,d⟩:=kQ h;cases a:r.Lost
 ·exact⟨0,by omega,by rw[show ((0:Nat):Int)-1 = -1 from rfl,y3,A5 rfl,a];rfl⟩
 ·have j:=d a;obtain⟨m,e⟩:∃m:Nat,r.Marks=m:=⟨r.Marks.toNat,by omega⟩
  have l:((2 ^ n:Nat):Int)=2 ^ n:=by simp
  have b:m≠0:=by omega
  obtain⟨q,c⟩:=Nat.exists_testBit_of_ne_zero b;have f:q<n:=by
   refine Classical.byContradiction fun o=>?_;have:m<2 ^ n:=by omega
   rw[Nat.testBit_lt_two_pow (Nat.lt_of_lt_of_le this (Nat.pow_le_pow_right (by decide) (by omega)))]at c;cases c
  refine⟨q+1,by omega,?_⟩;rw[show ((q+1:Nat):Int)-1=(q:Int) by omega,ER _ (by omega),e,aA,c,a];rfl
theorem JV{f:Nat->Nat}{B:Nat}:∀{m:Nat},(∀k,k<m->f k<=B)->iZ f m<=m*B
 | 0,_=>by simp[iZ]
 | m+1,h=>by
  have a:=JV (f:=f) (B:=B) (m:=m) fun k c=>h k (by omega);have b:=h m (by omega);show iZ f m+f m<=(m+1)*B;rw[C62,Nat.one_mul];omega
theorem TJ{n:Nat}(a:n<=32):∀{rows:List Row},(∀r∈rows,U6 n r=true)->rows.length<=iZ (fun k=>(L9 rows ((k:Int)-1)).length) (n+1)
 | [],_=>Nat.zero_le _
 | r::rs,h=>by
  have i:=TJ a (rows:=rs) fun x d=>h x (by simp[d]);obtain⟨k,b,c⟩:=JU a (h r (by simp))
  have:=JT (f:=fun k=>(L9 rs ((k:Int)-1)).length) (g:=fun k=>(L9 (r::rs) ((k:Int)-1)).length) (k0:=k) (fun q=>by
   unfold L9;simp only[C55,C80];split
   ·rw[C34];omega
   ·exact Nat.le_refl _) (by
   unfold L9;simp only[C55,C80];rw[c,A5 rfl,C34]
   exact Nat.le_refl _) b
  rw[C34];omega
theorem Made16.few{x:Str}{r:List Str}{a:List Row}(h:Made16 x r a)(c:r.length<=32){L:Nat}(f:(B6 x).length<=L)(d:∀b∈r,(B6 b).length<=L):a.length<=(r.length+1)*L:=by
 refine Nat.le_trans (TJ c (List.all_eq_true.1 h.marks)) (JV fun k i=>?_);cases k with
 | zero=>rw[show ((0:Nat):Int)-1 = -1 from rfl,h.res];exact f
 | succ q =>
  rw[show ((q+1:Nat):Int)-1=(q:Int) by omega,h.par q (by omega)];refine d _ ?_;rw[C33,C29 (by omega)];exact C35 _
def wsum(l:List Span):Int:=(l.map fun s=>s.To-s.From).sum
theorem TK(a b:List Span):wsum (a++b)=wsum a+wsum b:=by unfold wsum;rw[C50,C76]
theorem TL(s:Span):wsum [s]=s.To-s.From:=by simp[wsum]
theorem EX:∀(l:List Bool) (i:Nat) (p:Bool) (c:List Span),(p=true->∃o a,c=o++[⟨a,i⟩])->wsum (nI l i p c)=wsum c+l.count true
 | [],i,p,c,_=>by rw[nI];simp
 | b :: r,i,p,c,h=>by
  rw[nI];cases b with
  | false =>
   rw[EX r (i+1) false _ (fun e=>by cases e)];simp
  | true =>
   have d:∃o a,(if p=true then c else c++[⟨(i:Int),(i:Int)⟩])=o++[⟨a,i⟩]/\wsum c=wsum o+(i-a):=by
    cases p with
    | true =>
     obtain⟨o,a,f⟩:=h rfl;exact⟨o,a,by rw[A5 rfl];exact f,by rw[f,TK,TL]⟩
    | false=>exact⟨c,i,by rw[A6 (by decide)],by omega⟩
   obtain⟨o,a,g,j⟩:=d;rw[A5 rfl,g,cK];rw[EX r (i+1) true _ (fun _=>⟨o,a,by simp⟩),TK,TL,j];simp only[List.count_cons_self];omega
theorem JW(l:List Bool):wsum (W6 l)=l.count true:=by
 have:=EX l 0 false [] (fun e=>by cases e);unfold W6;rw[this];simp[wsum]
theorem B88{n:Nat}{f h:Nat->Bool}(d:∀k,f k=true->h k=true):((List.range n).map f).count true<=((List.range n).map h).count true:=by
 generalize List.range n=l;induction l with
 | nil=>exact Nat.le_refl _
 | cons x r e =>
  rw[C39,C39,C92,C92];have:=d x;cases b:f x
  ·simp;omega
  ·rw[this b];simp;omega
theorem XY(t:Table)(ctx:Int)(i:J2 t=0)(h:0<=ctx/\ctx<=1048576):wsum (K9 t ctx true).1<=wsum (K9 t ctx false).1:=by
 have c:(bK t).2=0:=by unfold bK;rw[A6 (by rw[i];decide)]
 have j:∀d,(F5 t d).2=0:=fun d=>by unfold F5;rw[A6 (by rw[c];decide)]
 have e:∀d,(K9 t ctx d).1=W6 ((List.range t.Rows.length).map (R9 (F5 t d).1 ctx)):=fun d=>by
  unfold K9;rw[A6 (by rw[j d];decide),A6 (by omega)]
 rw[e true,e false,JW,JW]
 have:=B88 (n:=t.Rows.length) (f:=R9 (F5 t true).1 ctx) (h:=R9 (F5 t false).1 ctx) (fun k b=>by
  unfold R9 at b ⊢;rw[List.any_eq_true]at b ⊢;obtain⟨s,hs,g⟩:=b;refine⟨s,?_,g⟩;unfold F5 at hs ⊢;rw[A6 (by rw[c];decide)]at hs ⊢;have:=(List.mem_filter.1 hs).1
  exact List.mem_filter.2 ⟨this,rfl⟩)
 omega
structure ChainA (A:Auto) (w:Str):Prop where
 ag:AG A
 start:A.Start=(w.length:Int)+2
 s0:(oT A ((w.length:Int)+2)).Kind=2/\(oT A ((w.length:Int)+2)).Next=(w.length:Int)+1
 lt:∀(j:Nat) (c:UInt8),w[j]?=some c->(oT A ((w.length:Int)+1-j)).Kind=0/\(oT A ((w.length:Int)+1-j)).Next=(w.length:Int)-j/\∀x:UInt8,bitSet (oT A ((w.length:Int)+1-j)).Set x.toNat=1↔x=c
 en:(oT A 1).Kind=3/\(oT A 1).Next=0
 ac:(oT A 0).Kind=4
theorem wO{a c:Int}{d:Bool}{t:Str}(ha:¬(a<0\/2147483647<a))(b:¬(c<0\/2147483647<c)):(rE ⟨4,a,0,c,d,t⟩).2=0:=by
 cases d<;>simp[rE,formsL,RE,zR,i8,kK,Cmd.get,Cmd.put,wC,ha,b]
def P0(l:List CHunk)(k:Nat):Nat:=((l.take k).map fun h=>h.Rows.length).sum
theorem GH(l:List CHunk):P0 l 0=0:=by simp[P0]
theorem qE{l:List CHunk}{k:Nat}{h:CHunk}(a:l[k]?=some h):P0 l (k+1)=P0 l k+h.Rows.length:=by
 unfold P0;rw[List.take_add_one,a];simp
theorem TM(n:Nat)(b:List Row):∀(c:List Span) (e:Int),0<=e->CutSp b.length e c->((((Y0 n b c).map fun h=>h.Rows.length).sum:Nat):Int)=wsum c
 | [],_,_,_=>by simp[Y0,wsum]
 | s::r,e,he,h=>by
  obtain⟨j,k,q,f⟩:=h;have d:=TM n b r s.To (by omega) f;unfold wsum at d ⊢;unfold Y0 at d ⊢;simp only[C39,C67];have i:(XW n b s).Rows.length=s.To.toNat-s.From.toNat:=by
   unfold XW;dsimp only;rw[C41,C45];omega
  rw[i];omega
theorem uQ{n:Nat}{a:List Row}{b:List Span}(h:CutSp a.length 0 b):(P0 (Y0 n a b) (Y0 n a b).length:Int)=wsum b:=by
 unfold P0;rw[C44];exact TM n a b 0 (Int.le_refl _) h
theorem gP(l:List CHunk)(k:Nat):P0 l k<=P0 l l.length:=by
 unfold P0;rw[C44]
 conv=>rhs;rw[<-C70 k l,C50,C76]
 omega
theorem EY:∀a:List Row,a.length<=(a.map P9).sum
 | []=>Nat.le_refl _
 | x::r=>by
  have:=EY r;simp only[C39,C67,C34];unfold P9 at this ⊢;omega
theorem TN(l:List CHunk):P0 l l.length<=eO l:=by
 unfold P0 eO;rw[C44];induction l with
 | nil=>exact Nat.le_refl _
 | cons h r a =>
  have:=EY h.Rows;have e:uF h=2048+h.At.length+(h.Rows.map P9).sum:=rfl;simp only[C39,C67];rw[e];omega
end Go.AL
