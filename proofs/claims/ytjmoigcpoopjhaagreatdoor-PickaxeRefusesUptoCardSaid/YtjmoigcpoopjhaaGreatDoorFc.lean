/- Walks of the program's functions. -/
import Derived.Test.YtjmoigcpoopjhaaGreatDoorFb
import Derived.Test.YtjmoigcpoopjhaaGreatDoorFa
import Derived.Test.YtjmoigcpoopjhaaGreatDoorFs
set_option linter.unusedSimpArgs false
namespace Go.Proofs.YtjmoigcpoopjhaaGreatDoor
open Go Go.AL
set_option maxRecDepth 100000
set_option maxHeartbeats 1000000
theorem D9 {K:List Nat} {T rest:Obs} {k:Nat} {o:Ob} (hn:C1 rest k=none) (h:∀j x,G4 K j=false→C1 rest j=some x→C1 T j=some x):∀j x,G4 K j=false→C1 rest j=some x→C1 ((k,o)::T) j=some x:=by
 intro j x hj hx
 have:k≠j:=fun e=>by rw [e,hx] at hn;cases hn
 rw [B4 this];exact h j x hj hx
def G8 (ks:List Nat) (ob:Obs):Obs:=ks.foldl (fun f k=>Obs.forget k f) ob
theorem W8 {k:Nat}:∀{ks:List Nat} {ob:Obs},C1 ob k=none→C1 (G8 ks ob) k=none
 | [],_,h=>h
 | q::ks,ob,h=>W8 (ks:=ks) (ob:=Obs.forget q ob) (by rw [K6,h];rfl)
theorem D37 (k:Nat):∀(ks:List Nat) (ob:Obs),G8 ks (Obs.forget k ob)=Obs.forget k (G8 ks ob)
 | [],_=>rfl
 | q::ks,ob=>by
  show G8 ks (Obs.forget q (Obs.forget k ob))=Obs.forget k (G8 ks (Obs.forget q ob))
  rw [E59 q k,D37 k ks]
theorem B11 {k:Nat}:∀{ks:List Nat} {ob:Obs},G4 ks k=true→Obs.forget k (G8 ks ob)=G8 ks ob
 | [],ob,h=>by cases h
 | q::ks,ob,h=>by
  show Obs.forget k (G8 ks (Obs.forget q ob))=G8 ks (Obs.forget q ob)
  by_cases hq:k=q
  ·subst hq;rw [D37,Obs.forget_idem]
  ·have h2:G4 ks k=true:=by
    rw [hasN_iff] at h ⊢
    rcases List.mem_cons.1 h with h | h
    ·exact absurd h hq
    ·exact h
   exact B11 h2
theorem M5 {K ks:List Nat} {T ob:Obs} (k:Nat) (hk:G4 ks k=true) (h:∀j x,G4 K j=false→C1 (G8 ks ob) j=some x→C1 T j=some x) :
  ∀j x,G4 K j=false→C1 (G8 ks ob) j=some x→C1 (Obs.forget k T) j=some x:=by
 intro j x hj hx
 rw [←B11 hk,K6] at hx
 rw [K6]
 cases hr:C1 (G8 ks ob) j with
 | none=>rw [hr] at hx;cases hx
 | some y=>rw [hr] at hx;rw [h j y hj hr];exact hx
abbrev qAcc:AL.State:=⟨4,⟨0,0,0,0⟩,0,0⟩
abbrev qEnd:AL.State:=⟨3,⟨0,0,0,0⟩,0,0⟩
abbrev qSet:AL.State:=⟨0,⟨0,8589934592,0,0⟩,2,0⟩
abbrev qSp:AL.State:=⟨1,⟨0,0,0,0⟩,3,1⟩
abbrev qSta:AL.State:=⟨2,⟨0,0,0,0⟩,4,0⟩
set_option maxHeartbeats 1000000
def oZ (ks:List Nat) (ob:Obs):Obs:=(G8 ks ob).filter fun p=>!G4 ks p.1
theorem F16 (k:Nat) (o:Ob):(o.forget k).free k=true:=by
 have key:∀ts:List TC,(ts.map (TC.forget k)).all (TC.free k)=true:=fun ts=>by
  rw [List.all_map,List.all_eq_true]
  intro t _
  exact TC.free_forget k t
 cases o with
 | box ts=>exact key ts
 | tbx e ts=>exact key ts
 | tarr n m ts=>exact key ts
 | growT e n m ts=>exact key ts
 | growA e α ec c xs p ts=>exact key ts
 | _=>rfl
theorem F17 {k:Nat}:∀{Z:Obs},Nat.blt k 1000000=true→(∀p∈Z,p.1≠k∧p.2.free k=true)→L0 k Z=true
 | [],h,_=>h
 | (i,o)::r,h,hp=>by
  have h1:=hp (i,o) (List.mem_cons_self ..)
  simp only [L0,L02,Bool.not_eq_true']
  exact ⟨W6 h1.1,h1.2,F17 h fun p hm=>hp p (List.mem_cons_of_mem _ hm)⟩
theorem C99 {k:Nat}:∀{Z:Obs} {j:Nat} {x:Ob},L0 k Z=true→C1 Z j=some x→j≠k∧x.free k=true
 | [],j,x,_,h=>by cases h
 | (i,o)::r,j,x,hz,h=>by
  simp only [L0,L02,Bool.not_eq_true'] at hz
  by_cases e:i=j
  ·subst e
   rw [C4] at h
   cases h
   exact ⟨fun e=>(by rw [e,Nat.beq_refl] at hz;cases hz.1),hz.2.1⟩
  ·rw [B4 e] at h
   exact C99 hz.2.2 h
theorem D38 {k:Nat} {ks:List Nat} {ob:Obs} (hk:G4 ks k=true) (hb:Nat.blt k 1000000=true):L0 k (oZ ks ob)=true:=by
 refine F17 hb fun p hp=>?_
 obtain ⟨h1,h2⟩:=List.mem_filter.1 hp
 refine ⟨fun e=>(by rw [e,hk] at h2;cases h2),?_⟩
 rw [←B11 hk] at h1
 obtain ⟨q,_,rfl⟩:=List.mem_map.1 h1
 exact F16 k q.2
theorem C13 {f:Nat→Bool}:∀{ob:Obs} {j:Nat} {x:Ob},C1 (ob.filter fun p=>f p.1) j=some x→C1 ob j=some x
 | [],_,_,h=>by cases h
 | (i, o)::r,j,x,h=>by
  by_cases e:i=j
  ·subst e
   rw [L46] at h
   split at h
   ·rw [C4] at h ⊢;exact h
   ·rename_i hf
    exfalso
    have:∀(r:Obs),C1 (r.filter fun p=>f p.1) i=none:=by
     intro r
     induction r with
     | nil=>rfl
     | cons p r ih =>
      obtain ⟨a,b⟩:=p
      rw [L46]
      split
      ·rename_i h2
       have:a≠i:=fun e=>hf (by rw [e] at h2;exact h2)
       rw [B4 this];exact ih
      ·exact ih
    rw [this r] at h;cases h
  ·rw [L46] at h
   rw [B4 e]
   split at h
   ·rw [B4 e] at h;exact C13 h
   ·exact C13 h
theorem oZ_base {K ks:List Nat} {ob:Obs}:∀j x,G4 K j=false→C1 (oZ ks ob) j=some x→C1 (G8 ks ob) j=some x:=fun _ _ _ h=>C13 (f:=fun i=>!G4 ks i) h
theorem C75 {K:List Nat} {k:Nat} {T Z:Obs} (hz:L0 k Z=true) (h:∀j x,G4 K j=false→C1 Z j=some x→C1 T j=some x):∀j x,G4 K j=false→C1 Z j=some x→C1 (Obs.forget k T) j=some x:=by
 intro j x hj hx
 rw [K6,h j x hj hx]
 show some (x.forget k)=some x
 rw [Ob.forget_free (C99 hz hx).2]
theorem getO_mapO (f:Ob→Ob):∀(ob:Obs) (j:Nat),C1 (K78 f ob) j=(C1 ob j).map f
 | [],_=>rfl
 | (i,o)::r,j=>by
  show C1 ((i,f o)::K78 f r) j=_
  by_cases e:i=j
  ·subst e;rw [C4,C4];rfl
  ·rw [B4 e,B4 e,getO_mapO f r j]
theorem B33 {k j:Nat} (h:j≠k):∀(ob:Obs),C1 (Obs.drop k ob) j=C1 ob j
 | []=>rfl
 | (i,o)::r=>by
  unfold Obs.drop
  cases hb:Nat.beq i k
  ·show C1 ((i,o)::Obs.drop k r) j=_
   by_cases e:i=j
   ·subst e;rw [C4,C4]
   ·rw [B4 e,B4 e,B33 h r]
  ·have:i≠j:=fun e=>h (by rw [←e];exact Nat.eq_of_beq_eq_true hb)
   rw [B4 this]
   exact B33 h r
theorem A06 {K:List Nat} {k:Nat} {α:Type} {ec:Nat} {c:α→Nat→Cell} {xs:List α} {T Z:Obs} (hz:L0 k Z=true) (h:∀j x,G4 K j=false→C1 Z j=some x→C1 T j=some x) :
  ∀j x,G4 K j=false→C1 Z j=some x→C1 (K78 (Ob.freeze k α ec c xs) (Obs.drop k T)) j=some x:=by
 intro j x hj hx
 obtain ⟨h1,h2⟩:=C99 hz hx
 rw [getO_mapO,B33 h1,h j x hj hx]
 show some (x.freeze k α ec c xs)=some x
 rw [Ob.freeze_free h2]
theorem F18 {k:Nat} {α:Type} {ec:Nat} {c:α→Nat→Cell} {xs:List α} {s:SV} (h:s.free k=true):s.freeze k α ec c xs=s:=by
 cases s with
 | s x=>cases x with
  | one t=>simp only [SV.freeze,S1.freeze,TC.freeze_free (show t.free k=true from h)]
  | agg ts=>simp only [SV.freeze,S1.freeze];rw [X4 fun t ht=>TC.freeze_free (List.all_eq_true.1 (show ts.all (TC.free k)=true from h) t ht)]
 | tup l =>
  simp only [SV.freeze]
  rw [X4 fun x hx=>?_]
  have hf:=List.all_eq_true.1 (show l.all (S1.free k)=true from h) x hx
  cases x with
  | one t=>simp only [S1.freeze,TC.freeze_free (show t.free k=true from hf)]
  | agg ts=>simp only [S1.freeze];rw [X4 fun t ht=>TC.freeze_free (List.all_eq_true.1 (show ts.all (TC.free k)=true from hf) t ht)]
 | _=>rfl
theorem D00 {k:Nat}:∀{F:Fr},(∀p∈F,p.2.free k=true)→K4 k F=true
 | [],_=>rfl
 | (i,s)::r,h=>by
  simp only [K4,L02]
  exact ⟨h (i,s) (List.mem_cons_self ..),D00 fun p hp=>h p (List.mem_cons_of_mem _ hp)⟩
theorem K46 {F:Fr} {i:Nat} {s:SV}:E5 F i=some s→∃p∈F,p.2=s:=by
 induction F with
 | nil=>intro h;cases h
 | cons p r ih =>
  obtain ⟨j,t⟩:=p
  intro h
  by_cases e:j=i
  ·subst e;rw [E0] at h;cases h;exact ⟨_,List.mem_cons_self ..,rfl⟩
  ·rw [C8 e] at h
   obtain ⟨q,h1,h2⟩:=ih h
   exact ⟨q,List.mem_cons_of_mem _ h1,h2⟩
theorem d7 {ks:List Nat} {k:Nat} {α:Type} {ec:Nat} {c:α→Nat→Cell} {xs:List α} {gf fr:Fr} (hk:G4 ks k=true) (h:Tail (C0 ks gf) fr):Tail (C0 ks gf) (K84 (SV.freeze k α ec c xs) fr):=by
 intro i s hi hs
 have:=h i s hi hs
 rw [C37,this]
 obtain ⟨p,hp,rfl⟩:=K46 hs
 show some (p.2.freeze k α ec c xs)=some p.2
 rw [F18 (m6 hk p hp)]
theorem P2 {i k:Nat} {o:Ob} {r:Obs} (h1:Nat.beq i k=false) (h2:o.free k=true) (h3:L0 k r=true):L0 k ((i,o)::r)=true:=by
 simp only [L0,h1,h2,h3,Bool.not_false,Bool.and_self]
theorem C14 {i k:Nat} {s:SV} {r:Fr} (h1:s.free k=true) (h2:K4 k r=true):K4 k ((i,s)::r)=true:=by
 simp only [K4,h1,h2,Bool.and_self]
theorem I72 {b:Bool} (h:b=true):(true&&b)=true:=h
theorem and_tt {a b:Bool} (h1:a=true) (h2:b=true):(a&&b)=true:=by rw [h1,h2];rfl
theorem F19 {X:Obs}:∀{Z:Obs} {seen:List Nat},(∀j x,G4 seen j=false→C1 Z j=some x→C1 X j=some x)→J31 X seen Z
 | [],_,_=>trivial
 | (k,o)::r,seen,h=>by
  refine ⟨?_,F19 fun j x hj hx=>?_⟩
  ·cases hs:G4 seen k
   ·exact .inr (h k o hs (C4 _ _ _))
   ·exact .inl rfl
  ·have h1:k≠j∧G4 seen j=false:=by
    refine ⟨fun e=>?_,?_⟩
    ·have:G4 (k::seen) j=true:=by rw [hasN_iff];exact e ▸ List.mem_cons_self ..
     rw [this] at hj;cases hj
    ·cases hs:G4 seen j
     ·rfl
     ·have:G4 (k::seen) j=true:=by rw [hasN_iff];exact List.mem_cons_of_mem _ (hasN_iff.1 hs)
      rw [this] at hj;cases hj
   exact h j x h1.2 (by rw [B4 h1.1];exact hx)
set_option maxHeartbeats 1000000
abbrev auto5:AL.Auto:=⟨[qAcc,qEnd,qSp,qSet,qSet,qSta],5⟩
theorem C15 {gf:Fr} {ob:Obs} (i n:Int) (h:C1 ob 3=some (.box [.p (.v (.int .i64 n))])) :
  AL.Met Tryz.prog 95 [R5 i,.one (.ref 3 0)] gf ob [] (fun rs ob'=>rs=[C10 (decide (0≤i∧i < n))]∧ob'=ob):=by
 refine AL.Met.intro Tryz.func95 (by decide) A0 A0 A0 ?_
 refine k2 (A3 (A7 A0 A0 (A5 ?_)));refine k1 (k2 (A3 (A4 A0 A0 (A6 (V2 A0 A0) A0 (A4 A0 A0 (B5 A0 A0 A0 A0 (fun hg=>by rw [hg];exact C2 A0 A0) ?_))))));refine B5 A0 A0 A0 A0 (fun hg=>by rw [hg];exact C5 A0 h A0) ?_;refine B5 A0 A0 A0 A0 (fun hg=>by rw [hg];exact A75 A0 A0) ?_;refine K7 A0 A0 ?_;refine A7 A0 A0 (A5 ?_);refine k1 (k10 ?_);refine G7 (I8 rfl rfl) (by repeat (first | exact A8 | refine A9 rfl ?_ | refine D4 _ ?_)) (fun _ _ h=>h) ⟨?_,rfl⟩
 rw [and_pick]
set_option maxHeartbeats 1000000
set_option maxHeartbeats 1000000
abbrev aa:Str:=[97,97]
structure AS where
 opn:List Int
 th:List AL.Thread
 sn:List Bool
def topI (x:AS):Int:=atG x.opn (x.opn.length - 1)
def addStep (a:Nat) (fr:Int) (x:AS):AS :=
 if K2 x.sn (topI x).toNat=true then ⟨x.opn.take (x.opn.length - 1),x.th,x.sn⟩
 else ⟨x.opn.take (x.opn.length - 1)++Z3 (auto5.States.getD (topI x).toNat z7) (decide ((a:Int)=0)) (decide ((a:Int)=(aa.length:Int))),x.th++[⟨topI x,fr⟩],x.sn.set (topI x).toNat true⟩
def addIt (a:Nat) (fr:Int) (x:AS):Nat→AS
 | 0=>x
 | n+1=>addStep a fr (addIt a fr x n)
def I73 (y:AS):Prop:=0 < y.opn.length∧y.opn.length≤10∧0≤topI y∧topI y < 6∧y.sn.length=6∧y.th.length≤10
instance (y:AS):Decidable (I73 y):=by unfold I73;infer_instance
def addOk (a:Nat) (fr:Int) (x:AS) (n:Nat):Bool:=(List.range n).all (fun k=>decide (I73 (addIt a fr x k)))
set_option maxHeartbeats 1000000
set_option maxHeartbeats 1000000
set_option maxHeartbeats 1000000
set_option maxHeartbeats 1000000
theorem G90 (n:Nat) (hn:n≤1000000):AL.Met Tryz.prog 49 [.one (.p (.v (.slice none 0 0))),R5 n] [] [] [] (fun rs ob'=>rs=[.one (.mut 803)]∧ob'=[(803,J39 [])]):=by
 refine AL.Met.intro Tryz.func49 (by decide) A0 A0 A0 ?_
 refine k2 (A3 (A6 (H4 _ 2 A66) A0 (A5 ?_)));refine k1 (k2 (k2 (A3 (A4 A0 A0 (F7 A0 A0 A0 (A5 ?_))))));refine k1 ?_;refine B1 rfl (fun ht=>?_) (fun ht=>?_)
 ·have h1:=A1 ht
  omega
 refine k5 (k1 (k2 (k2 (A3 (A4 A0 A0 (A4 A0 A0 (A6 (C40 A0) A0 (A4 A0 A0 (A6 (C33 A0) A0 (A6 (N1 A0 A0 (by omega)) A0 (A6 (N1 A0 A0 (by omega)) A0 (A7 A0 A0 (A5 ?_)))))))))))))
 rw [show (n:Int) - (0 - 0)=(n:Int) by omega]
 refine k1 (k2 (A3 (A4 A0 A0 (A6 (O1 A0 A0) A0 (A5 ?_)))));refine k1 ?_;refine B1 rfl (fun ht=>?_) (fun ht=>?_)
 ·have h1:=A1 ht
  skip
  refine A3 (A4 A0 A0 (A4 A0 A0 (A6 (C40 A0) A0 (A6 (C69 A0 A0) A0 (A4 A0 A0 (D1 (G16 803 A0 A0 (by omega) (by omega) A0 A0) A0 (A4 A0 A0 (A6 (C33 A0) A0 (D1 (A88 A0 A0 A0 (by omega) (by omega) A0) A0 (A7 A0 A0 (A5 ?_)))))))))));refine k1 (k2 ?_)
  rw [show Int.toNat 0=0 from rfl,List.take_zero]
  refine D3 (K90 (k:=803) (Str × Str) A66 A0) ?_
  refine A3 (A4 A0 A0 (A7 A0 A0 (A5 ?_)));refine k1 (k10 ?_)
  exact G7 (I8 rfl rfl) (by repeat (first | exact A8 | refine A9 rfl ?_ | refine D4 _ ?_)) (ObIn.spec (ob':=[(803,J39 [])]) ⟨rfl,trivial⟩) ⟨rfl,rfl⟩
 ·refine D3 (K88 0 803 (Str × Str) 2 A66 40 A0 A0) ?_
  refine k5 (k1 (k2 (A3 (A4 A0 A0 (A7 A0 A0 (A5 ?_))))));refine k1 (k10 ?_)
  exact G7 (I8 rfl rfl) (by repeat (first | exact A8 | refine A9 rfl ?_ | refine D4 _ ?_)) (ObIn.spec (ob':=[(803,J39 [])]) ⟨rfl,trivial⟩) ⟨rfl,rfl⟩
theorem F86 (B:List (List (Str × Str))) (hB:FewB B):FnOk Tryz.prog 24 [H27 B] (fun rs=>rs=[pPairs B.flatten]):=by
 have hBl:=hB.len
 have hall:B.flatten=t6 B B.length:=by unfold t6;rw [L08]
 rw [hall]
 refine FnOk.intro Tryz.func24 (by decide) A0 A0 A0 A0 ?_
 refine k2 (A3 (A7 A0 A0 (A5 ?_)));refine k1 (k2 (A3 (A7 A0 A0 (A5 ?_))));refine k1 (k2 (k2 (A3 (A4 A0 A0 (F4 A0 A0 (A4 A0 A0 (A5 ?_)))))));refine k1 (k3 (D2 (X:=Nat) (fun i=>([(0,D6 (List (Str × Str)) 1 B21 B),(3,C7 ((t6 B i).length:Nat)),(9,D6 (List (Str × Str)) 1 B21 B),(10,C7 B.length),(11,C7 i)],[])) (fun i=>i≤B.length) (fun i=>B.length - i) 0 (Nat.zero_le _) (Sees.of ⟨le1 rfl,le1 rfl,le1 rfl,le1 rfl,le1 rfl,trivial⟩ trivial) ?_))
 intro i hi
 dsimp only at hi ⊢
 have hfl:=B55 hB i
 refine k2 (A3 (F7 A0 A0 A0 (A5 ?_)));refine k1 (k2 ?_);refine B1 rfl (fun ht=>?_) (fun ht=>?_)
 ·have hlt:i < B.length:=by have h1:=A1 ht;(try dsimp only at h1);omega
  obtain ⟨l,hl⟩:∃l,l=B[i]:=⟨_,rfl⟩
  have hv:B[i]?=some l:=by rw [hl];simp [hlt]
  have hll:=hB.lens l (by rw [hl];exact L05 hlt)
  have hs:((t6 B (i+1)).length:Int)=(t6 B i).length+l.length:=by rw [E24 hlt,L06,hl];omega
  refine k5 (k1 (k2 (k3 (k2 (A3 (A6 (B6 A0 (.pure _ _ _ _) A0 (by omega) hv) A0 (A6 (B3 A0 A0) A0 (A7 A0 A0 (A5 ?_)))))))));refine k1 (k2 (A3 (A4 A0 A0 (A4 A0 A0 (F4 A0 A0 (E3 A0 A0 A0 (A7 A0 A0 (A5 ?_))))))));refine k1 (k2 (A3 (A4 A0 A0 (F7 A0 A0 A0 (A5 ?_)))));refine k1 ?_;refine B1 rfl (fun ht=>?_) (fun ht=>?_)
  ·have h1:=A1 ht
   omega
  refine k5 (k4 (k1 (A3 (E3 A0 A0 A0 (A4 A0 A0 (A5 ?_))))));refine k1 ?_;refine ⟨i+1,by omega,by omega,?_⟩
  rw [hs]
  exact (Sees.of ⟨le1 rfl,le1 rfl,le1 rfl,le1 rfl,le1 rfl,trivial⟩ trivial)
 have hie:i=B.length:=by have h1:=A2 ht;(try dsimp only at h1);omega
 rw [hie]
 have hfl2:=B55 hB B.length
 refine k6 (k2 (A3 (A4 A0 A0 (A33 (G90 (t6 B B.length).length (by omega)) A0 A0 A0 A0 ?_))));rintro _ _ ⟨rfl,rfl⟩;refine ⟨rfl,?_⟩;refine A7 A0 A0 (A5 ?_);refine k1 (k2 (k2 (A3 (A4 A0 A0 (F4 A0 A0 (A4 A0 A0 (A5 ?_)))))));refine k1 (k3 (D2 (X:=Nat) (fun i=>([(6,.s (.one (.mut 803))),(25,D6 (List (Str × Str)) 1 B21 B),(26,C7 B.length),(27,C7 i)],[(803,J39 (t6 B i))])) (fun i=>i≤B.length) (fun i=>B.length - i) 0 (Nat.zero_le _) (Sees.of ⟨le1 rfl,le1 rfl,le1 rfl,le1 rfl,trivial⟩ ⟨rfl,trivial⟩) ?_))
 intro i hi
 dsimp only at hi ⊢
 have hfl:=B55 hB i
 refine k2 (A3 (F7 A0 A0 A0 (A5 ?_)));refine k1 (k2 ?_);refine B1 rfl (fun ht=>?_) (fun ht=>?_)
 ·have hlt:i < B.length:=by have h1:=A1 ht;(try dsimp only at h1);omega
  obtain ⟨l,hl⟩:∃l,l=B[i]:=⟨_,rfl⟩
  have hv:B[i]?=some l:=by rw [hl];simp [hlt]
  have hll:=hB.lens l (by rw [hl];exact L05 hlt)
  have hs:=E24 hlt
  rw [←hl] at hs
  refine k5 (k1 (k2 (k3 (k2 (A3 (A6 (B6 A0 (.pure _ _ _ _) A0 (by omega) hv) A0 (A6 (B3 A0 A0) A0 (A7 A0 A0 (A5 ?_)))))))));refine k1 (A3 (A4 A0 A0 (A4 A0 A0 (D1 (U3 A0 A0 A0 (.pure _ _ _ _) (by omega) A0) A0 (A7 A0 A0 (A5 ?_))))));refine k4 (k1 (A3 (E3 A0 A0 A0 (A4 A0 A0 (A5 ?_)))));refine k1 ?_;refine ⟨i+1,by omega,by omega,?_⟩
  rw [hs]
  exact (Sees.of ⟨le1 rfl,le1 rfl,le1 rfl,le1 rfl,trivial⟩ ⟨rfl,trivial⟩)
 have hie2:i=B.length:=by have h1:=A2 ht;(try dsimp only at h1);omega
 rw [hie2]
 refine k6 (k2 (D3 (Sees.freezeG (k:=803) A0 A0) ?_))
 refine A3 (A4 A0 A0 (A7 A0 A0 (A5 ?_)));refine k1 (k10 ?_)
 exact B8 (rs:=[pPairs (t6 B B.length)]) (I1 rfl rfl rfl) rfl
set_option maxHeartbeats 1000000
def V8 (B:List (List Str)) (i:Nat):List Str:=(B.take i).flatten
theorem A39 {B:List (List Str)} {i:Nat} (h:i < B.length):V8 B (i+1)=V8 B i++B[i]:=by
 unfold V8
 rw [List.take_add_one,L01 h,Option.toList_some,L45];simp
theorem A17 {B:List (List Str)} (h:B.flatten.length≤1000000) (i:Nat):(V8 B i).length≤1000000:=by
 have e:B.flatten=(B.take i).flatten++(B.drop i).flatten:=by rw [←L45,L48]
 rw [e,L06] at h
 unfold V8;omega
abbrev G91 (l:List Str):Ob:=.grow 9 Str 1 X2 l
theorem H82 (n:Nat) (hn:n≤1000000):AL.Met Tryz.prog 63 [.one (.p (.v (.slice none 0 0))),R5 n] [] [] [] (fun rs ob'=>rs=[.one (.mut 804)]∧ob'=[(804,G91 [])]):=by
 refine AL.Met.intro Tryz.func63 (by decide) A0 A0 A0 ?_
 refine k2 (A3 (A6 (H4 _ 1 X2) A0 (A5 ?_)));refine k1 (k2 (k2 (A3 (A4 A0 A0 (F7 A0 A0 A0 (A5 ?_))))));refine k1 ?_;refine B1 rfl (fun ht=>?_) (fun ht=>?_)
 ·have h1:=A1 ht
  omega
 refine k5 (k1 (k2 (k2 (A3 (A4 A0 A0 (A4 A0 A0 (A6 (C40 A0) A0 (A4 A0 A0 (A6 (C33 A0) A0 (A6 (N1 A0 A0 (by omega)) A0 (A6 (N1 A0 A0 (by omega)) A0 (A7 A0 A0 (A5 ?_)))))))))))))
 rw [show (n:Int) - (0 - 0)=(n:Int) by omega]
 refine k1 (k2 (A3 (A4 A0 A0 (A6 (O1 A0 A0) A0 (A5 ?_)))));refine k1 ?_;refine B1 rfl (fun ht=>?_) (fun ht=>?_)
 ·have h1:=A1 ht
  skip
  refine A3 (A4 A0 A0 (A4 A0 A0 (A6 (C40 A0) A0 (A6 (C69 A0 A0) A0 (A4 A0 A0 (D1 (G16 804 A0 A0 (by omega) (by omega) A0 A0) A0 (A4 A0 A0 (A6 (C33 A0) A0 (D1 (A88 A0 A0 A0 (by omega) (by omega) A0) A0 (A7 A0 A0 (A5 ?_)))))))))));refine k1 (k2 ?_)
  rw [show Int.toNat 0=0 from rfl,List.take_zero]
  refine D3 (K90 (k:=804) Str X2 A0) ?_
  refine A3 (A4 A0 A0 (A7 A0 A0 (A5 ?_)));refine k1 (k10 ?_)
  exact G7 (I8 rfl rfl) (by repeat (first | exact A8 | refine A9 rfl ?_ | refine D4 _ ?_)) (ObIn.spec (ob':=[(804,G91 [])]) ⟨rfl,trivial⟩) ⟨rfl,rfl⟩
 ·refine D3 (K88 0 804 Str 1 X2 9 A0 A0) ?_
  refine k5 (k1 (k2 (A3 (A4 A0 A0 (A7 A0 A0 (A5 ?_))))));refine k1 (k10 ?_)
  exact G7 (I8 rfl rfl) (by repeat (first | exact A8 | refine A9 rfl ?_ | refine D4 _ ?_)) (ObIn.spec (ob':=[(804,G91 [])]) ⟨rfl,trivial⟩) ⟨rfl,rfl⟩
theorem G92 (B:List (List Str)) (hB1:B.length≤1000) (hB2:B.flatten.length≤1000000):FnOk Tryz.prog 31 [pStrss B] (fun rs=>rs=[E12 B.flatten]):=by
 have hBl:=hB1
 have hall:B.flatten=V8 B B.length:=by unfold V8;rw [L08]
 rw [hall]
 refine FnOk.intro Tryz.func31 (by decide) A0 A0 A0 A0 ?_
 refine k2 (A3 (A7 A0 A0 (A5 ?_)));refine k1 (k2 (A3 (A7 A0 A0 (A5 ?_))));refine k1 (k2 (k2 (A3 (A4 A0 A0 (F4 A0 A0 (A4 A0 A0 (A5 ?_)))))));refine k1 (k3 (D2 (X:=Nat) (fun i=>([(0,D6 (List Str) 1 strsC B),(3,C7 ((V8 B i).length:Nat)),(9,D6 (List Str) 1 strsC B),(10,C7 B.length),(11,C7 i)],[])) (fun i=>i≤B.length) (fun i=>B.length - i) 0 (Nat.zero_le _) (Sees.of ⟨le1 rfl,le1 rfl,le1 rfl,le1 rfl,le1 rfl,trivial⟩ trivial) ?_))
 intro i hi
 dsimp only at hi ⊢
 have hfl:=A17 hB2 i
 refine k2 (A3 (F7 A0 A0 A0 (A5 ?_)));refine k1 (k2 ?_);refine B1 rfl (fun ht=>?_) (fun ht=>?_)
 ·have hlt:i < B.length:=by have h1:=A1 ht;(try dsimp only at h1);omega
  obtain ⟨l,hl⟩:∃l,l=B[i]:=⟨_,rfl⟩
  have hv:B[i]?=some l:=by rw [hl];simp [hlt]
  have hfl1:=A17 hB2 (i+1)
  have hfs:(V8 B (i+1)).length=(V8 B i).length+l.length:=by rw [A39 hlt,L06,hl]
  have hs:((V8 B (i+1)).length:Int)=(V8 B i).length+l.length:=by rw [A39 hlt,L06,hl];omega
  refine k5 (k1 (k2 (k3 (k2 (A3 (A6 (B6 A0 (.pure _ _ _ _) A0 (by omega) hv) A0 (A6 (B3 A0 A0) A0 (A7 A0 A0 (A5 ?_)))))))));refine k1 (k2 (A3 (A4 A0 A0 (A4 A0 A0 (F4 A0 A0 (E3 A0 A0 A0 (A7 A0 A0 (A5 ?_))))))));refine k1 (k2 (A3 (A4 A0 A0 (F7 A0 A0 A0 (A5 ?_)))));refine k1 ?_;refine B1 rfl (fun ht=>?_) (fun ht=>?_)
  ·have h1:=A1 ht
   omega
  refine k5 (k4 (k1 (A3 (E3 A0 A0 A0 (A4 A0 A0 (A5 ?_))))));refine k1 ?_;refine ⟨i+1,by omega,by omega,?_⟩
  rw [hs]
  exact (Sees.of ⟨le1 rfl,le1 rfl,le1 rfl,le1 rfl,le1 rfl,trivial⟩ trivial)
 have hie:i=B.length:=by have h1:=A2 ht;(try dsimp only at h1);omega
 rw [hie]
 have hfl2:=A17 hB2 B.length
 refine k6 (k2 (A3 (A4 A0 A0 (A33 (H82 (V8 B B.length).length (by omega)) A0 A0 A0 A0 ?_))));rintro _ _ ⟨rfl,rfl⟩;refine ⟨rfl,?_⟩;refine A7 A0 A0 (A5 ?_);refine k1 (k2 (k2 (A3 (A4 A0 A0 (F4 A0 A0 (A4 A0 A0 (A5 ?_)))))));refine k1 (k3 (D2 (X:=Nat) (fun i=>([(6,.s (.one (.mut 804))),(25,D6 (List Str) 1 strsC B),(26,C7 B.length),(27,C7 i)],[(804,G91 (V8 B i))])) (fun i=>i≤B.length) (fun i=>B.length - i) 0 (Nat.zero_le _) (Sees.of ⟨le1 rfl,le1 rfl,le1 rfl,le1 rfl,trivial⟩ ⟨rfl,trivial⟩) ?_))
 intro i hi
 dsimp only at hi ⊢
 have hfl:=A17 hB2 i
 refine k2 (A3 (F7 A0 A0 A0 (A5 ?_)));refine k1 (k2 ?_);refine B1 rfl (fun ht=>?_) (fun ht=>?_)
 ·have hlt:i < B.length:=by have h1:=A1 ht;(try dsimp only at h1);omega
  obtain ⟨l,hl⟩:∃l,l=B[i]:=⟨_,rfl⟩
  have hv:B[i]?=some l:=by rw [hl];simp [hlt]
  have hfl1:=A17 hB2 (i+1)
  have hfs:(V8 B (i+1)).length=(V8 B i).length+l.length:=by rw [A39 hlt,L06,hl]
  have hs:=A39 hlt
  rw [←hl] at hs
  refine k5 (k1 (k2 (k3 (k2 (A3 (A6 (B6 A0 (.pure _ _ _ _) A0 (by omega) hv) A0 (A6 (B3 A0 A0) A0 (A7 A0 A0 (A5 ?_)))))))));refine k1 (A3 (A4 A0 A0 (A4 A0 A0 (D1 (U3 A0 A0 A0 (.pure _ _ _ _) (by omega) A0) A0 (A7 A0 A0 (A5 ?_))))));refine k4 (k1 (A3 (E3 A0 A0 A0 (A4 A0 A0 (A5 ?_)))));refine k1 ?_;refine ⟨i+1,by omega,by omega,?_⟩
  rw [hs]
  exact (Sees.of ⟨le1 rfl,le1 rfl,le1 rfl,le1 rfl,trivial⟩ ⟨rfl,trivial⟩)
 have hie2:i=B.length:=by have h1:=A2 ht;(try dsimp only at h1);omega
 rw [hie2]
 refine k6 (k2 (D3 (Sees.freezeG (k:=804) A0 A0) ?_))
 refine A3 (A4 A0 A0 (A7 A0 A0 (A5 ?_)));refine k1 (k10 ?_)
 exact B8 (rs:=[E12 (V8 B B.length)]) (I1 rfl rfl rfl) rfl
set_option maxHeartbeats 1000000
abbrev F20 (l:List Int):Ob:=.arr Int 1 F2 l
abbrev U5 (l:List Int):Ob:=.grow 3 Int 1 F2 l
theorem G25 {gf:Fr} {ob:Obs} (ch opn:List Int) (c:Nat) (hc:c < ch.length) (_hl:ch.length≤1000000) (ho:opn.length≤1000000) (h5:C1 ob 5=some (.box [.mut 753])) (h7:C1 ob 7=some (.box [.mut 754])) (h753:C1 ob 753=some (F20 ch)) (h754:C1 ob 754=some (U5 opn)) :
  AL.Met Tryz.prog 75 [.one (.p (.v (.int .i64 c))),.one (.ref 5 0),.one (.ref 7 0)] gf ob [754]
   (fun rs ob'=>rs=[]∧ob'=(5,.box [.mut 753])::(7,.box [.mut 754])::(753,F20 (if atG ch c < 0 then ch.set c 0 else ch))::(754,U5 (if atG ch c < 0 then opn++[(c:Int)] else opn))::Obs.forget 754 ob):=by
 have hva:=C97 (l:=ch) (p:=(c:Int)) (by omega)
 rw [L03] at hva
 refine AL.Met.introH Tryz.func75 (by decide) rfl rfl rfl (fun hH=>?_)
 refine D3 (K77 754 (l:=[(0,C7 c),(1,.s (.one (.ref 5 0))),(2,.s (.one (.ref 7 0)))]) (L:=[(5,_),(7,_),(753,_),(754,_)]) ⟨le1 rfl,le1 rfl,le1 rfl,trivial⟩ hH (by repeat (first | exact A8 | refine A9 rfl ?_)) ⟨h5,h7,h753,h754,trivial⟩) ?_
 refine k2 (A3 (G3 A0 A0 A0 A0 (A4 A0 A0 (A6 (F9 A0 A0 A0 (by omega) (by omega)) A0 (A6 (N8 A0 A0 hva A0) A0 (F7 A0 A0 A0 (A5 ?_)))))));refine k1 ?_;refine B1 rfl (fun ht=>?_) (fun ht=>?_)
 ·have h1:atG ch c < 0:=A1 ht
  rw [if_pos h1,if_pos h1]
  refine k2 (A3 (G3 A0 A0 A0 A0 (A4 A0 A0 (A6 (F9 A0 A0 A0 (by omega) (by omega)) A0 (G1 (L3 TySz.out A0 A0 (by omega) A0 A0) (A5 ?_))))));refine k1 (A3 (G3 A0 A0 A0 A0 (A4 A0 A0 (A6 (D7 (c:=F2) (ys:=[(c:Int)]) (G6 A0 A0 A0 A0 I0) A0 A0 A0) A0 (D1 (U3 A0 A0 A0 (.pure _ _ _ _) (by (simp only [L04,L09];omega)) A0) A0 (G1 (B9 TySz.out A0 A0 A0 A0 A0 A0) (A5 ?_)))))))
  skip
  exact S8 (A81 rfl) (by repeat (first | exact A8 | refine A9 rfl ?_ | refine P9 _ ?_)) (E4 (L:=[(5,_),(7,_),(753,_),(754,_)]) ⟨rfl,rfl,rfl,rfl,trivial⟩ (by repeat (first | exact D5 | refine D8 rfl ?_ | refine A02 _ ?_))) ⟨rfl,rfl⟩
 ·have h1:¬atG ch c < 0:=A2 ht
  rw [if_neg h1,if_neg h1]
  refine k5 ?_
  exact S8 (A81 rfl) (by repeat (first | exact A8 | refine A9 rfl ?_ | refine P9 _ ?_)) (fun _ _ h=>h) ⟨rfl,rfl⟩
def B12 (n i:Nat):List Int:=List.replicate i (-1)++List.replicate (n - i) 0
theorem I74 {n i:Nat} (h:i < n):(B12 n i).set i (-1)=B12 n (i+1):=by
 unfold B12
 rw [List.set_append_right _ _ (by simp),L24,L42,show n - i=(n - (i+1))+1 by omega,List.replicate_succ,List.set_cons_zero,List.replicate_succ',L15];rfl
theorem I75 {n i:Nat} (h:i≤n):(B12 n i).length=n:=by unfold B12;simp;omega
theorem DInv.last {g:Graph} {inn:List Bool} {st:List Int} {k i:Nat} {ch opn D:List Int} (h:DInv g inn st k i ch opn D) (h0:0 < opn.length):∃c:Nat,opn=opn.take (opn.length - 1)++[(c:Int)]∧c < g.length∧opn[opn.length - 1]?=some (c:Int):=by
 have hlt:opn.length - 1 < opn.length:=by omega
 have hm:=h.on opn[opn.length - 1] (List.mem_append_right _ (L05 hlt))
 have e1:opn[opn.length - 1]=(opn[opn.length - 1].toNat:Int):=by omega
 refine ⟨opn[opn.length - 1].toNat,?_,by omega,by rw [L01 hlt];exact congrArg some e1⟩
 have h1:opn.take (opn.length - 1+1)=opn:=L31 (by omega)
 rw [List.take_add_one,L01 hlt,Option.toList_some] at h1
 rw [←e1];exact h1.symm
theorem G93 (g:Graph) (s:List Int) (hf:FewG g) (hr:related g=true) (hs:∀f∈s,0≤f∧f < g.length) (hsl:s.length≤1048576) :
  AL.Met Tryz.prog 43 [.one (.p (.list Commit 3 H2 g)),.one (.p (.list Int 1 F2 s))] [] [] [] (fun rs ob'=>∃ch,rs=[.one (.mut 753)]∧ob'=[(753,F20 ch)]∧ch.length=g.length∧∀p,p < g.length→atG ch p=if K2 (P6 g s) p=true then (E04 g (P6 g s) [] p:Int) else -1):=by
 have hg:=hf.len
 have hrs:=C47 hr hs
 have hcl:=B63 hr s hs
 obtain ⟨inn,hinn⟩:∃inn,inn=P6 g s:=⟨_,rfl⟩
 have hfin:=@DInv.fin g s
 rw [←hinn] at hrs hcl
 refine AL.Met.intro Tryz.func43 (by decide) A0 A0 A0 ?_
 refine k2 (A3 (A7 A0 A0 (A5 ?_)));refine k1 (k2 (A3 (A4 A0 A0 (F4 A0 A0 (D1 (A00 753 Int F2 0 A0 A0 (by omega) (by omega) (fun _=>by first | exact ⟨⟨rfl,rfl⟩,trivial⟩ | exact ⟨I4 _ _ _,trivial⟩ | exact ⟨I4 _ _ _,⟨rfl,rfl⟩,I4 _ _ _,trivial⟩) (by first | rfl | (simp [K4,L0,Ob.free,SV.free,S1.free,TC.free]<;>rfl))) A0 ?_)))));refine D1 (J1 5 A0) A0 (G1 (B9 TySz.out A0 A0 A0 A0 A0 A0) (A5 ?_));refine k1 (k2 (k2 (A3 (G3 A0 A0 A0 A0 (A6 (C35 A0 A0) A0 (A4 A0 A0 (A5 ?_)))))));refine k1 (k3 ?_)
 rw [L03]
 refine D2 (X:=Nat) (fun i=>([(0,D6 Commit 3 H2 g),(1,D6 Int 1 F2 s),(5,.s (.one (.ref 5 0))),(18,C7 g.length),(19,C7 i)],[(5,.box [.mut 753]),(753,F20 (B12 g.length i))])) (fun i=>i≤g.length) (fun i=>g.length - i) 0 (Nat.zero_le _) (by rw [show B12 g.length 0=List.replicate g.length 0 by unfold B12;simp];exact (Sees.of ⟨le1 rfl,le1 rfl,le1 rfl,leE A0 (by first | (simp;done) | (simp;omega)),le1 rfl,trivial⟩ ⟨rfl,rfl,trivial⟩)) ?_
 intro i hi
 dsimp only at hi ⊢
 have hil:=I75 hi
 refine k2 (A3 (F7 A0 A0 A0 (A5 ?_)));refine k1 (k2 ?_);refine B1 rfl (fun ht=>?_) (fun ht=>?_)
 ·have hlt:i < g.length:=by have h1:=A1 ht;(try dsimp only at h1);omega
  have hst:=I74 hlt
  refine k5 (k1 (k2 (k3 (k2 (A3 (A4 A0 A0 (A7 A0 A0 (A5 ?_))))))));refine k1 (A3 (G3 A0 A0 A0 A0 (A4 A0 A0 (A6 (F9 A0 A0 A0 (by omega) (by (rw [hil];omega))) A0 ?_))));refine G1 (L3 TySz.out A0 A0 (by (rw [hil];omega)) A0 A0) ?_;refine A5 ?_;refine k4 (k1 (A3 (E3 A0 A0 A0 (A4 A0 A0 (A5 ?_)))));refine k1 ?_;refine ⟨i+1,by omega,by omega,?_⟩
  rw [L03,hst]
  exact (Sees.of ⟨le1 rfl,le1 rfl,le1 rfl,le1 rfl,le1 rfl,trivial⟩ ⟨rfl,rfl,trivial⟩)
 have hie:i=g.length:=by have h1:=A2 ht;(try dsimp only at h1);omega
 rw [hie,show B12 g.length g.length=List.replicate g.length (-1) by unfold B12;simp]
 have hD0:=DInv.start g inn
 refine k6 (k2 (A3 (D1 (J1 7 A0) A0 (A5 ?_))));refine k1 (k2 (D3 (K81 754 Int 1 F2 3 (kb:=7) (o:=0) A0 A0 A0) ?_))
 refine A3 (A6 (Y7 A0 A0) A0 (A7 A0 A0 (A5 ?_)));refine k1 (k2 (k2 (A3 (A4 A0 A0 (F4 A0 A0 (A4 A0 A0 (A5 ?_)))))));refine k1 (k3 (D2 (X:=Nat × List Int × List Int) (fun x=>([(0,D6 Commit 3 H2 g),(5,.s (.one (.ref 5 0))),(7,.s (.one (.ref 7 0))),(8,.s (.one (.clo 75 [] [(5,0),(7,0)]))),(27,D6 Int 1 F2 s),(28,C7 s.length),(29,C7 x.1)],[(5,.box [.mut 753]),(7,.box [.mut 754]),(753,F20 x.2.1),(754,U5 x.2.2)])) (fun x=>x.1≤s.length∧DInv g inn (s.take x.1) 0 0 x.2.1 x.2.2 []) (fun x=>s.length - x.1) (0,List.replicate g.length (-1),[]) ⟨Nat.zero_le _,hD0⟩ (Sees.of ⟨le1 rfl,le1 rfl,le1 rfl,le1 rfl,le1 rfl,le1 rfl,le1 rfl,trivial⟩ ⟨rfl,rfl,rfl,rfl,trivial⟩) ?_))
 rintro ⟨j,ch,opn⟩ ⟨hj,hD⟩
 dsimp only at hj hD ⊢
 have hDl:=hD.le
 have hchl:=hD.len
 rw [L09,Nat.zero_add] at hDl
 refine k2 (A3 (F7 A0 A0 A0 (A5 ?_)));refine k1 (k2 ?_);refine B1 rfl (fun ht=>?_) (fun ht=>?_)
 ·have hlt:j < s.length:=by have h1:=A1 ht;(try dsimp only at h1);omega
  have hsr:=hs _ (L05 hlt)
  obtain ⟨c,hc⟩:∃c:Nat,s[j]=(c:Int):=⟨s[j].toNat,by omega⟩
  have hv:s[j]?=some (c:Int):=by rw [L01 hlt,hc]
  have hcg:c < g.length:=by omega
  have hon:K2 inn c=true:=(hrs c).2 ⟨c,by rw [←hc];exact L05 hlt,.inl rfl⟩
  obtain ⟨hD2,_⟩:=hD.reach (Nat.le_refl _) hcg hon (s.take (j+1)) (fun f hf=>by
   rw [T7 hlt] at hf
   rcases hf with hf | hf
   ·exact .inl hf
   ·right;rw [hf,hc])
  refine k5 (k1 (k2 (k3 (k2 (A3 (A6 (B6 A0 (.pure _ _ _ _) A0 (by omega) hv) A0 (A6 (B3 A0 A0) A0 (A7 A0 A0 (A5 ?_)))))))));refine k1 (A3 (A4 A0 A0 (A4 A0 A0 (C94 (G25 ch opn c (by omega) (by omega) (by omega) A0 A0 A0 A0) A0 A0 A0 A0 ?_))));rintro _ _ ⟨rfl,rfl⟩;refine A5 ?_;refine k4 (k1 (A3 (E3 A0 A0 A0 (A4 A0 A0 (A5 ?_)))));refine k1 ?_
  exact ⟨(j+1,if atG ch c < 0 then ch.set c 0 else ch,if atG ch c < 0 then opn++[(c:Int)] else opn),⟨hlt,hD2⟩,by dsimp only;omega,(Sees.of ⟨le1 rfl,le1 rfl,le1 rfl,le1 rfl,le1 rfl,le1 rfl,le1 rfl,trivial⟩ ⟨rfl,rfl,rfl,rfl,trivial⟩)⟩
 have hje:j=s.length:=by have h1:=A2 ht;(try dsimp only at h1);omega
 rw [hje,L08] at hD
 refine k6 (k2 (k3 (D2 (X:=List Int × List Int × List Int) (fun x=>([(0,D6 Commit 3 H2 g),(5,.s (.one (.ref 5 0))),(7,.s (.one (.ref 7 0))),(8,.s (.one (.clo 75 [] [(5,0),(7,0)])))],[(5,.box [.mut 753]),(7,.box [.mut 754]),(753,F20 x.1),(754,U5 x.2.1)])) (fun x=>DInv g inn s x.2.2.length 0 x.1 x.2.1 x.2.2) (fun x=>g.length - x.2.2.length) (ch,opn,[]) hD (Sees.of ⟨le1 rfl,le1 rfl,le1 rfl,le1 rfl,trivial⟩ ⟨rfl,rfl,rfl,rfl,trivial⟩) ?_)))
 rintro ⟨ch,opn,D⟩ hD
 dsimp only at hD ⊢
 have hDl:=hD.le
 have hchl:=hD.len
 refine k2 (k2 (A3 (G3 A0 A0 A0 A0 (A6 (X3 A0 A0) A0 (A6 (O1 A0 A0) A0 (A5 ?_))))));refine k1 ?_;refine B1 rfl (fun ht=>?_) (fun ht=>?_)
 rotate_left
 ·have h1:opn=[]:=by
   have h1:=A2 ht
   exact List.length_eq_zero_iff.1 (by omega)
  rw [h1] at hD
  have hF:=hfin hr hs (by rw [←hinn];exact hD)
  refine k6 (k2 (A3 (G3 A0 A0 A0 A0 (A7 A0 A0 (A5 ?_)))));refine k1 (k10 ?_)
  exact G7 (I8 rfl rfl) (by repeat (first | exact A8 | refine A9 rfl ?_ | refine D4 _ ?_)) (ObIn.spec (ob':=[(753,F20 ch)]) ⟨rfl,trivial⟩) ⟨ch,rfl,rfl,hchl,hF⟩
 have h0:0 < opn.length:=by have h1:=A1 ht;omega
 obtain ⟨c,e1,hcg,hvl⟩:=DInv.last hD h0
 obtain ⟨opn1,hop⟩:∃opn1,opn1=opn.take (opn.length - 1):=⟨_,rfl⟩
 have hvl:opn[((opn.length:Int) - 1).toNat]?=some (c:Int):=by rw [show ((opn.length:Int) - 1).toNat=opn.length - 1 by omega];exact hvl
 have hcut:opn.take ((opn.length:Int) - 1).toNat=opn1:=by rw [hop];congr 1;omega
 rw [←hop] at e1
 have hP:=(by rw [e1] at hD;exact hD:DInv g inn s D.length 0 ch (opn1++[(c:Int)]) D).pop
 obtain ⟨cm,hcm⟩:∃cm,cm=g[c]:=⟨_,rfl⟩
 have hvc:g[((c:Nat):Int).toNat]?=some cm:=by rw [hcm];simp [hcg]
 have hps:F3 g c=cm.Parents:=by rw [g9 hcg,hcm]
 have hpl:=hf.pars cm (by rw [hcm];exact L05 hcg)
 have honc:K2 inn c=true:=by
  have:=(hP.on (c:Int) (by simp)).2.2
  rwa [L03] at this
 have hgD:(D++[(c:Int)]).getD D.length 0=(c:Int):=by
  rw [L07,L17 (Nat.le_refl _),L42];rfl
 refine k5 (k1 (k3 (k2 (A3 (G3 A0 A0 A0 A0 (G3 A0 A0 A0 A0 (A6 (X3 A0 A0) A0 (A6 (N1 A0 A0 (by omega)) A0 (A6 (H6 A0 A0 A0 (by omega) (by omega)) A0 (A6 (A15 A0 A0 hvl A0) A0 (A7 A0 A0 (A5 ?_))))))))))));refine k1 (k2 (A3 (G3 A0 A0 A0 A0 (G3 A0 A0 A0 A0 (A6 (X3 A0 A0) A0 (A6 (N1 A0 A0 (by omega)) A0 (D1 (A88 A0 A0 A0 (by omega) (by omega) A0) A0 (G1 (B9 TySz.out A0 A0 A0 A0 A0 A0) (A5 ?_)))))))))
 rw [hcut]
 refine k1 (k2 (A3 (A4 A0 A0 (A4 A0 A0 (A6 (B6 A0 (.pure _ _ _ _) A0 (by omega) hvc) A0 (A6 (C3 A0) A0 (A6 (B3 A0 A0) A0 (F4 A0 A0 (A4 A0 A0 (A5 ?_))))))))));refine k1 (k3 (D2 (X:=Nat × List Int × List Int) (fun x=>([(0,D6 Commit 3 H2 g),(5,.s (.one (.ref 5 0))),(7,.s (.one (.ref 7 0))),(8,.s (.one (.clo 75 [] [(5,0),(7,0)]))),(55,D6 Int 1 F2 cm.Parents),(56,C7 cm.Parents.length),(57,C7 x.1)],[(5,.box [.mut 753]),(7,.box [.mut 754]),(753,F20 x.2.1),(754,U5 x.2.2)])) (fun x=>x.1≤cm.Parents.length∧DInv g inn s D.length x.1 x.2.1 x.2.2 (D++[(c:Int)])) (fun x=>cm.Parents.length - x.1) (0,ch,opn1) ⟨Nat.zero_le _,hP⟩ (Sees.of ⟨le1 rfl,le1 rfl,le1 rfl,le1 rfl,le1 rfl,le1 rfl,le1 rfl,trivial⟩ ⟨rfl,rfl,rfl,rfl,trivial⟩) ?_))
 rintro ⟨i,ch,opn⟩ ⟨hi,hD⟩
 dsimp only at hi hD ⊢
 have hDl:=hD.le
 have hchl:=hD.len
 rw [L06,List.length_singleton] at hDl
 refine k2 (A3 (F7 A0 A0 A0 (A5 ?_)));refine k1 (k2 ?_);refine B1 rfl (fun ht=>?_) (fun ht=>?_)
 rotate_left
 ·have h1:i=cm.Parents.length:=by have h1:=A2 ht;(try dsimp only at h1);omega
  rw [h1,←hps] at hD
  have hN:=hD.next (k:=D.length) (by simp) hgD
  refine k6 (k7 (k7 (k8 A0 (k4 (k1 ?_)))))
  exact ⟨(ch,opn,D++[(c:Int)]),hN,by dsimp only;rw [L06,List.length_singleton];omega,(Sees.of ⟨le1 rfl,le1 rfl,le1 rfl,le1 rfl,trivial⟩ ⟨rfl,rfl,rfl,rfl,trivial⟩)⟩
 have hilt:i < cm.Parents.length:=by have h1:=A1 ht;(try dsimp only at h1);omega
 have hpb:=(K8 hr c).1 cm.Parents[i] (by rw [hps];exact L05 hilt)
 obtain ⟨p,hp⟩:∃p:Nat,cm.Parents[i]=(p:Int):=⟨cm.Parents[i].toNat,by omega⟩
 have hvp:cm.Parents[i]?=some (p:Int):=by rw [L01 hilt,hp]
 have hpg:p < g.length:=by omega
 have honp:K2 inn p=true:=by
  have:=hcl c honc (p:Int) (by rw [hps,←hp];exact L05 hilt)
  rwa [L03] at this
 obtain ⟨hD2,hm2⟩:=hD.reach (by simp) hpg honp s (fun f hf=>.inl hf)
 obtain ⟨q1,q2,hD3⟩:=hD2.count hr hgD (i:=i) (p:=p) (by rw [hps];exact hilt) (by simp only [hps];exact hp) hm2
 have hl2:=hD2.len
 refine k5 (k1 (k2 (k3 (k2 (A3 (A6 (B6 A0 (.pure _ _ _ _) A0 (by omega) hvp) A0 (A6 (B3 A0 A0) A0 (A7 A0 A0 (A5 ?_)))))))));refine k1 (k2 (A3 (A4 A0 A0 (A4 A0 A0 (C94 (G25 ch opn p (by omega) (by omega) (by omega) A0 A0 A0 A0) A0 A0 A0 A0 ?_)))));rintro _ _ ⟨rfl,rfl⟩;refine A5 ?_
 obtain ⟨ch2,hch2⟩:∃ch2,ch2=(if atG ch p < 0 then ch.set p 0 else ch):=⟨_,rfl⟩
 obtain ⟨opn2,hopn2⟩:∃opn2,opn2=(if atG ch p < 0 then opn++[(p:Int)] else opn):=⟨_,rfl⟩
 rw [←hch2] at q1 q2 hl2
 rw [←hch2,←hopn2] at hD3 ⊢
 have hva:=C97 (l:=ch2) (p:=(p:Int)) (by omega)
 refine k1 (A3 (G3 A0 A0 A0 A0 (A4 A0 A0 (A6 (F9 A0 A0 A0 (by omega) (by (rw [hl2];omega))) A0 ?_))));refine A6 (N8 A0 A0 hva A0) A0 (A6 (l6 A0 A0 (by (rw [L03];omega))) A0 ?_);refine A6 (F9 A0 A0 A0 (by omega) (by (rw [hl2];omega))) A0 ?_;refine G1 (L3 TySz.out A0 A0 (by (rw [hl2];omega)) A0 A0) ?_;refine A5 ?_;refine k4 (k1 (A3 (E3 A0 A0 A0 (A4 A0 A0 (A5 ?_)))));refine k1 ?_
 exact ⟨(i+1,bump ch2 p,opn2),⟨hilt,hD3⟩,by dsimp only;omega,(Sees.of ⟨le1 rfl,le1 rfl,le1 rfl,le1 rfl,le1 rfl,le1 rfl,le1 rfl,trivial⟩ ⟨rfl,rfl,rfl,rfl,trivial⟩)⟩
set_option maxHeartbeats 1000000
abbrev B57 (g:Graph):Ob:=.box [.mut 741,.fnc 44 [.list Commit 3 H2 g]]
abbrev sI (n:Int):S1:=.one (.p (.v (.int .i64 n)))
abbrev sIf (n:Int):S1:=.one (.p (.v (.iface 3 (.int .i64 n))))
abbrev F87:S1:=.one (.ifc 96 740 0)
theorem J42 {g:Graph} {c:Int} (h:0≤c∧c < g.length):∃cm,g[c.toNat]?=some cm∧A28 g c.toNat=cm.Date:=by
 have hlt:c.toNat < g.length:=by omega
 exact ⟨g[c.toNat],by simp [hlt],by unfold A28;rw [L01 hlt];rfl⟩
theorem J87 (g:Graph) (a b:Int) (_hg:g.length≤1048576) (ha:0≤a∧a < g.length) (hb:0≤b∧b < g.length):FnOk Tryz.prog 44 [K3 g,E2 a,E2 b] (fun rs=>rs=[H1 (U0 g a b)]):=by
 obtain ⟨x,hx,dx⟩:=J42 ha
 obtain ⟨y,hy,dy⟩:=J42 hb
 unfold U0
 rw [dx,dy]
 refine FnOk.intro Tryz.func44 (by decide) A0 A0 A0 A0 ?_
 refine k2 (A3 (A7 A0 A0 (A5 ?_)));refine k1 (k2 (k2 (E7 (by kernel_rfl) (by kernel_rfl) (E9 A0 A0 (E9 A0 A0 (B7 (B6 A0 (.pure _ _ _ _) A0 (by omega) hx) A0 A0 (B7 (C3 A0) A0 A0 (B7 (B3 A0 A0) A0 A0 (E9 A0 A0 (E9 A0 A0 (B7 (B6 A0 (.pure _ _ _ _) A0 (by omega) hy) A0 A0 (B7 (C3 A0) A0 A0 (B7 (B3 A0 A0) A0 A0 (B7 (O2 A0 A0) A0 A0 (Q6 ?_)))))))))))))));refine k1 ?_;refine B1 rfl (fun ht=>?_) (fun ht=>?_)
 ·have h1:x.Date≠y.Date:=A1 ht
  refine k2 (E7 (by kernel_rfl) (by kernel_rfl) (E9 A0 A0 (E9 A0 A0 (B7 (B6 A0 (.pure _ _ _ _) A0 (by omega) hx) A0 A0 (B7 (C3 A0) A0 A0 (B7 (B3 A0 A0) A0 A0 (E9 A0 A0 (E9 A0 A0 (B7 (B6 A0 (.pure _ _ _ _) A0 (by omega) hy) A0 A0 (B7 (C3 A0) A0 A0 (B7 (B3 A0 A0) A0 A0 (B7 (O1 A0 A0) A0 A0 (B7 (H5 A0 A0) A0 A0 (Q6 ?_))))))))))))));refine k1 (k10 (k11 ?_));refine B8 (I1 rfl rfl rfl) (congrArg (fun b=>[H1 b]) (decide_eq_decide.2 ?_))
  omega
 ·have h1:¬x.Date≠y.Date:=A2 ht
  refine k5 (k1 (k2 (A3 (A4 A0 A0 (A4 A0 A0 (F7 A0 A0 A0 (A7 A0 A0 (A5 ?_))))))));refine k1 (k10 ?_);refine B8 (I1 rfl rfl rfl) (congrArg (fun b=>[H1 b]) (decide_eq_decide.2 ?_))
  omega
theorem F21 {gf:Fr} {ob:Obs} (g:Graph) (l:List Int) (h0:C1 ob 740=some (B57 g)) (h1:C1 ob 741=some (U5 l)) :
  AL.Met Tryz.prog 46 [.one (.ref 740 0)] gf ob [] (fun rs ob'=>rs=[sI l.length]∧ob'=ob):=by
 refine AL.Met.intro Tryz.func46 (by decide) A0 A0 A0 ?_
 refine k2 (A3 (A7 A0 A0 (A5 ?_)));refine k1 (k2 (A3 (A4 A0 A0 (A6 (B2 A0) A0 (A6 (B0 A0) A0 (A6 (C5 A0 h0 A0) A0 (A6 (X3 A0 h1) A0 (A7 A0 A0 (A5 ?_)))))))));refine k1 (k10 ?_)
 exact G7 (I8 rfl rfl) (by repeat (first | exact A8 | refine A9 rfl ?_ | refine D4 _ ?_)) (fun _ _ h=>h) ⟨rfl,rfl⟩
theorem D90 {gf:Fr} {ob:Obs} (g:Graph) (l:List Int) (i j:Nat) (hg:g.length≤1048576) (hl:∀x∈l,0≤x∧x < (g.length:Int)) (hi:i < l.length) (hj:j < l.length) (h0:C1 ob 740=some (B57 g)) (h1:C1 ob 741=some (U5 l)) :
  AL.Met Tryz.prog 204 [.one (.ref 740 0),sI i,sI j] gf ob [] (fun rs ob'=>rs=[.one (.p (.v (.bool (U0 g (atG l i) (atG l j)))))]∧ob'=ob):=by
 have hvi:l[((i:Nat):Int).toNat]?=some (atG l i):=by rw [L03,R3 hi];simp [hi]
 have hvj:l[((j:Nat):Int).toNat]?=some (atG l j):=by rw [L03,R3 hj];simp [hj]
 have hb:=J87 g (atG l i) (atG l j) hg (by rw [R3 hi];exact hl _ (L05 hi)) (by rw [R3 hj];exact hl _ (L05 hj))
 refine AL.Met.intro Tryz.func204 (by decide) A0 A0 A0 ?_
 refine k2 (A3 (A7 A0 A0 (A5 ?_)));refine k1 (k2 (E7 (by kernel_rfl) (by kernel_rfl) (E9 A0 A0 (B7 (B2 A0) A0 A0 (B7 (B0 A0) A0 A0 (B7 (C5 A0 h0 A0) A0 A0 (E9 A0 A0 (B7 (B2 A0) A0 A0 (B7 (B0 A0) A0 A0 (B7 (C5 A0 h0 A0) A0 A0 (E9 A0 A0 (B7 (H6 A0 h1 A0 (by omega) (by omega)) A0 A0 (B7 (A15 A0 h1 hvi A0) A0 A0 (E9 A0 A0 (B7 (B2 A0) A0 A0 (B7 (B0 A0) A0 A0 (B7 (C5 A0 h0 A0) A0 A0 (E9 A0 A0 (B7 (H6 A0 h1 A0 (by omega) (by omega)) A0 A0 (B7 (A15 A0 h1 hvj A0) A0 A0 (B7 (n_callC (hb) A0 A0 A0) A0 A0 (B7 (H5 A0 A0) A0 A0 (Q6 ?_)))))))))))))))))))))));refine k1 (k10 ?_)
 exact G7 (I8 rfl rfl) (by repeat (first | exact A8 | refine A9 rfl ?_ | refine D4 _ ?_)) (fun _ _ h=>h) ⟨rfl,rfl⟩
theorem D91 {gf:Fr} {ob:Obs} (g:Graph) (l:List Int) (i j:Nat) (hi:i < l.length) (hj:j < l.length) (h0:C1 ob 740=some (B57 g)) (h1:C1 ob 741=some (U5 l)) :
  AL.Met Tryz.prog 207 [.one (.ref 740 0),sI i,sI j] gf ob [] (fun rs ob'=>rs=[]∧ob'=(741,U5 (i7 l i j))::ob):=by
 have hvi:l[((i:Nat):Int).toNat]?=some (atG l i):=by rw [L03,R3 hi];simp [hi]
 have hvj:l[((j:Nat):Int).toNat]?=some (atG l j):=by rw [L03,R3 hj];simp [hj]
 obtain ⟨a,ha⟩:∃a,a=atG l i:=⟨_,rfl⟩
 obtain ⟨b,hb⟩:∃b,b=atG l j:=⟨_,rfl⟩
 rw [←ha] at hvi
 rw [←hb] at hvj
 have hvj2:(l.set ((i:Nat):Int).toNat b)[((j:Nat):Int).toNat]?=some (atG (l.set i b) j):=by
  rw [L03,L03]
  have:j < (l.set i b).length:=by rw [L26];exact hj
  rw [R3 this];simp [hj]
 have hsw:(l.set ((i:Nat):Int).toNat b).set ((j:Nat):Int).toNat a=i7 l i j:=by rw [ha,hb];rfl
 have h0':C1 ((741,U5 l)::ob) 740=some (B57 g):=by rw [B4 (by decide)];exact h0
 refine AL.Met.introH Tryz.func207 (by decide) rfl rfl rfl (fun hH=>?_)
 refine D3 (K76 (l:=[(0,.s (.one (.ref 740 0))),(1,C7 i),(2,C7 j)]) (ob':=(741,U5 l)::ob) ⟨le1 rfl,le1 rfl,le1 rfl,trivial⟩ hH (by repeat (first | exact A8 | refine A9 rfl ?_)) (E4 (L:=[(741,_)]) ⟨h1,trivial⟩ D5)) ?_
 skip
 refine Q0 [27,25] [[],[25],[27,25]] [(25,([],[])),(27,([],[]))] [(0,[]),(1,[]),(2,[]),(3,[]),(4,[]),(5,[]),(6,[]),(7,[]),(8,[]),(9,[]),(10,[]),(11,[]),(12,[]),(13,[]),(14,[]),(15,[]),(16,[]),(17,[]),(18,[]),(19,[]),(20,[]),(21,[]),(22,[]),(23,[]),(24,[]),(25,[]),(26,[25]),(27,[25])] [(9,[25])] (by kernel_rfl) (by kernel_rfl) (E6 A0 A0 (by kernel_rfl) A0 A0 (C2 A0 A0) (E6 A0 A0 (by kernel_rfl) A0 A0 (B2 A0) (E6 A0 A0 (by kernel_rfl) A0 A0 (B0 A0) (E6 A0 A0 (by kernel_rfl) A0 A0 (C5 A0 h0' A0) (E6 A0 A0 (by kernel_rfl) A0 A0 (C2 A0 A0) (E6 A0 A0 (by kernel_rfl) A0 A0 (C2 A0 A0) (E6 A0 A0 (by kernel_rfl) A0 A0 (B2 A0) (E6 A0 A0 (by kernel_rfl) A0 A0 (B0 A0) (E6 A0 A0 (by kernel_rfl) A0 A0 (C5 A0 h0' A0) (E6 A0 A0 (by kernel_rfl) A0 A0 (C2 A0 A0) (E6 A0 A0 (by kernel_rfl) A0 A0 (C2 A0 A0) (E6 A0 A0 (by kernel_rfl) A0 A0 (B2 A0) (E6 A0 A0 (by kernel_rfl) A0 A0 (B0 A0) (E6 A0 A0 (by kernel_rfl) A0 A0 (C5 A0 h0' A0) (E6 A0 A0 (by kernel_rfl) A0 A0 (C2 A0 A0) (E6 A0 A0 (by kernel_rfl) A0 A0 (H6 A0 A0 A0 (by omega) (by omega)) (E6 A0 A0 (by kernel_rfl) A0 A0 (A15 A0 A0 hvj A0) (E6 A0 A0 (by kernel_rfl) A0 A0 (C2 A0 A0) (E6 A0 A0 (by kernel_rfl) A0 A0 (B2 A0) (E6 A0 A0 (by kernel_rfl) A0 A0 (B0 A0) (E6 A0 A0 (by kernel_rfl) A0 A0 (C5 A0 h0' A0) (E6 A0 A0 (by kernel_rfl) A0 A0 (C2 A0 A0) (E6 A0 A0 (by kernel_rfl) A0 A0 (H6 A0 A0 A0 (by omega) (by (first | omega | (rw [L26];omega)))) ?_)))))))))))))))))))))));refine E6 A0 A0 (by kernel_rfl) A0 A0 (A15 A0 A0 hvi A0) (E6 A0 A0 (by kernel_rfl) A0 A0 (H6 A0 A0 A0 (by omega) (by omega)) (Z5 A0 A0 (by kernel_rfl) A0 A0 (A84 (fun frc hU=>x9 (b) TySz.out (T9 hU A0) A0 hvi (T9 hU A0) A0 A0 A0 (fun _ _ _ h=>s8 h) (by intro j h1 h2;rcases j with _ | _ | _ | _ | _ | _ | _ | j<;>first | rfl | omega))) A0 ?_));refine E6 A0 A0 (by kernel_rfl) A0 A0 (H6 A0 A0 A0 (by omega) (by (rw [L26];omega))) ?_;refine Z5 A0 A0 (by kernel_rfl) A0 A0 (A84 (fun frc hU=>x9 (a) TySz.out (T9 hU A0) A0 hvj2 (T9 hU A0) A0 A0 A0 (fun _ _ _ h=>s8 h) (by intro j h1 h2;rcases j with _ | _ | _ | _ | _ | _ | _ | j<;>first | rfl | omega))) A0 ?_;refine G11 (by kernel_rfl) rfl ?_ ?_
 ·refine O3 A0 A0 (by kernel_rfl) A0 A0 (C2 A0 A0) ?_;exact C03
 rw [hsw]
 skip
 exact S8 (A81 rfl) (by repeat (first | exact A8 | refine tail_drop rfl ?_ | refine A9 rfl ?_)) (E4 (L:=[(741,_)]) ⟨rfl,trivial⟩ (by repeat (first | exact D5 | refine D8 rfl ?_))) ⟨rfl,rfl⟩
theorem J88 {gf:Fr} {ob:Obs} (g:Graph) (l:List Int) (c:Int) (hl:l.length≤1048576) (h0:C1 ob 740=some (B57 g)) (h1:C1 ob 741=some (U5 l)) :
  AL.Met Tryz.prog 206 [.one (.ref 740 0),sIf c] gf ob [741] (fun rs ob'=>rs=[]∧ob'=(740,B57 g)::(741,U5 (l++[c]))::Obs.forget 741 ob):=by
 refine AL.Met.introH Tryz.func206 (by decide) rfl rfl rfl (fun hH=>?_)
 refine D3 (K77 741 (l:=[(0,.s (.one (.ref 740 0))),(1,.s (sIf c))]) (L:=[(740,_),(741,_)]) ⟨le1 rfl,le1 rfl,trivial⟩ hH (by repeat (first | exact A8 | refine A9 rfl ?_)) ⟨h0,h1,trivial⟩) ?_
 skip
 refine Q0 [11,8] [[],[8],[11,8]] [(8,([741],[8])),(11,([],[]))] [(0,[]),(1,[]),(2,[]),(3,[]),(4,[]),(5,[]),(6,[]),(7,[]),(8,[]),(9,[8]),(10,[8]),(11,[8])] [(0,[8])] (by kernel_rfl) (by kernel_rfl) (E6 A0 A0 (by kernel_rfl) A0 A0 (C2 A0 A0) (E6 A0 A0 (by kernel_rfl) A0 A0 (C2 A0 A0) (E6 A0 A0 (by kernel_rfl) A0 A0 (B2 A0) (E6 A0 A0 (by kernel_rfl) A0 A0 (B0 A0) (E6 A0 A0 (by kernel_rfl) A0 A0 (C5 A0 A0 A0) (E6 A0 A0 (by kernel_rfl) A0 A0 (C2 A0 A0) (E6 A0 A0 (by kernel_rfl) A0 A0 (E17 A0 A0) (E6 A0 A0 (by kernel_rfl) A0 A0 (D7 (c:=F2) (ys:=[c]) (G6 A0 A0 A0 A0 I0) A0 A0 A0) (Z5 A0 A0 (by kernel_rfl) A0 A0 (D84 (fun frc hU=>U3 (T9 hU A0) A0 (T9 hU A0) (.pure _ _ _ _) (by (simp only [L04,L09];omega)) A0)) A0 (E6 A0 A0 (by kernel_rfl) A0 A0 (B2 A0) (E6 A0 A0 (by kernel_rfl) A0 A0 (B0 A0) (Z5 A0 A0 (by kernel_rfl) A0 A0 (A84 (fun frc hU=>B9 TySz.out (T9 hU A0) A0 (T9 hU A0) A0 A0 A0)) A0 ?_))))))))))));refine D85 (ks:=[741]) rfl (by kernel_rfl) rfl ?_ ?_
 ·refine O3 A0 A0 (by kernel_rfl) A0 A0 (C2 A0 A0) ?_;exact C03
 skip
 exact S8 (A81 rfl) (by repeat (first | exact A8 | refine tail_drop rfl ?_ | refine A9 rfl ?_ | refine P9 _ ?_ | refine D4 _ ?_)) (E4 (L:=[(740,_),(741,_)]) ⟨rfl,rfl,trivial⟩ (by repeat (first | exact D5 | refine D8 rfl ?_ | refine A02 _ ?_))) ⟨rfl,rfl⟩
theorem K47 {gf:Fr} {ob:Obs} (g:Graph) (l:List Int) (hl:l.length≤1048576) (h2:0 < l.length) (h0:C1 ob 740=some (B57 g)) (h1:C1 ob 741=some (U5 l)) :
  AL.Met Tryz.prog 205 [.one (.ref 740 0)] gf ob [741] (fun rs ob'=>rs=[sIf (atG l (l.length - 1))]∧ob'=(740,B57 g)::(741,U5 (l.take (l.length - 1)))::Obs.forget 741 ob):=by
 have hlt:l.length - 1 < l.length:=by omega
 have hv:l[((l.length:Int) - 1).toNat]?=some (atG l (l.length - 1)):=by rw [show ((l.length:Int) - 1).toNat=l.length - 1 by omega,R3 hlt];simp [hlt]
 have hc:l.take ((l.length:Int) - 1).toNat=l.take (l.length - 1):=by congr 1;omega
 refine AL.Met.introH Tryz.func205 (by decide) rfl rfl rfl (fun hH=>?_)
 refine D3 (K77 741 (l:=[(0,.s (.one (.ref 740 0)))]) (L:=[(740,_),(741,_)]) ⟨le1 rfl,trivial⟩ hH (by repeat (first | exact A8 | refine A9 rfl ?_)) ⟨h0,h1,trivial⟩) ?_
 refine k2 (A3 (A7 A0 A0 (A5 ?_)));refine k1 (k2 (A3 (A4 A0 A0 (A6 (B2 A0) A0 (A6 (B0 A0) A0 (G3 A0 A0 A0 A0 (A6 (X3 A0 A0) A0 (A6 (N1 A0 A0 (by omega)) A0 (A7 A0 A0 (A5 ?_))))))))));refine k1 (k2 (A3 (A4 A0 A0 (A6 (B2 A0) A0 (A6 (B0 A0) A0 (G3 A0 A0 A0 A0 (A4 A0 A0 (A6 (H6 A0 A0 A0 (by omega) (by omega)) A0 (A6 (A15 A0 A0 hv A0) A0 (A7 A0 A0 (A5 ?_)))))))))));refine k1 (k2 (A3 (A4 A0 A0 (A4 A0 A0 (A6 (B2 A0) A0 (A6 (B0 A0) A0 (G3 A0 A0 A0 A0 (A4 A0 A0 (D1 (A88 A0 A0 A0 (by omega) (by omega) A0) A0 (A6 (B2 A0) A0 (A6 (B0 A0) A0 (G1 (B9 TySz.out A0 A0 A0 A0 A0 A0) (A5 ?_)))))))))))))
 rw [hc]
 refine k1 (k2 (A3 (A4 A0 A0 (A6 (J4 A0 (by kernel_rfl)) A0 (A7 A0 A0 (A5 ?_))))));refine k1 (k10 ?_)
 exact G7 (I8 rfl rfl) (by repeat (first | exact A8 | refine A9 rfl ?_ | refine P9 _ ?_ | refine D4 _ ?_)) (E4 (L:=[(740,_),(741,_)]) ⟨rfl,rfl,trivial⟩ (by repeat (first | exact D5 | refine D8 rfl ?_ | refine A02 _ ?_))) ⟨rfl,rfl⟩
theorem up_div (j:Nat) (hj:j≤1048576):IntKind.i64.wrap (((j:Int) - 1).tdiv 2)=(((j - 1) / 2:Nat):Int):=by
 have h:((j:Int) - 1).tdiv 2=(((j - 1) / 2:Nat):Int):=by
  cases j with
  | zero=>rfl
  | succ j =>
   rw [show (((j+1:Nat):Int) - 1)=(j:Int) by omega,Int.tdiv_eq_ediv_of_nonneg (by omega)]
   omega
 rw [h]
 exact IntWalk.i64_in _ ⟨by omega,by omega⟩
theorem F22 {l:List Int} {n:Int} {i j:Nat} (hi:i < l.length) (hj:j < l.length) (h:∀x∈l,0≤x∧x < n):∀x∈i7 l i j,0≤x∧x < n:=fun x hx=>h x ((G49 hi hj x).1 hx)
theorem hUp_met {gf:Fr} {ob:Obs} (g:Graph) (l:List Int) (j:Nat) (hg:g.length≤1048576) (hl:l.length≤1048576) (hr:∀x∈l,0≤x∧x < (g.length:Int)) (hj:j < l.length) (h0:C1 ob 740=some (B57 g)) (h1:C1 ob 741=some (U5 l)) :
  AL.Met Tryz.prog 76 [F87,sI j] gf ob [] (fun rs ob'=>rs=[]∧ob'=(741,U5 (upH (U0 g) (j+1) l j))::ob):=by
 have h0':∀o,C1 ((741,o)::ob) 740=some (B57 g):=fun o=>by rw [B4 (by decide)];exact h0
 refine AL.Met.introH Tryz.func76 (by decide) rfl rfl rfl (fun hH=>?_)
 refine k3 ?_
 obtain ⟨R,hR⟩:∃R,R=upH (U0 g) (j+1) l j:=⟨_,rfl⟩
 rw [←hR]
 refine D2 (X:=Nat × List Int × Nat) (fun x=>([(0,.s F87),(1,C7 x.2.2)]++gf,(741,U5 x.2.1)::ob)) (fun x=>upH (U0 g) x.1 x.2.1 x.2.2=R∧x.2.2 < x.1∧x.2.1.length=l.length∧x.2.2 < l.length∧∀y∈x.2.1,0≤y∧y < (g.length:Int)) (fun x=>x.1) (j+1,l,j) ⟨hR.symm,by dsimp only;omega,rfl,hj,hr⟩ ?_ ?_
 ·exact K76 ⟨le1 rfl,le1 rfl,trivial⟩ hH (by repeat (first | exact A8 | refine A9 rfl ?_)) (E4 (L:=[(741,_)]) ⟨h1,trivial⟩ D5)
 rintro ⟨f,l',k⟩ ⟨hu,hkf,hll,hkl,hrg⟩
 dsimp only at hu hkf hll hkl hrg ⊢
 obtain ⟨f,rfl⟩:∃f',f=f'+1:=⟨f - 1,by omega⟩
 rw [upH] at hu
 have hdv:=up_div k (by omega)
 have hil:(k - 1) / 2 < l'.length:=by omega
 refine k3 (k2 (A3 (A4 A0 A0 (A6 (N1 A0 A0 (by omega)) A0 (A6 (G58 A0 A0 (by decide)) A0 (A7 A0 A0 (A5 ?_)))))))
 rw [hdv]
 refine k1 (k2 (k2 ?_))
 by_cases he:(k - 1) / 2=k
 ·rw [if_pos (.inl he)] at hu
  have hd:decide ((((k - 1) / 2:Nat):Int)=(k:Int))=true:=decide_eq_true (by omega)
  refine A3 (A4 A0 A0 (A4 A0 A0 (A6 (H0 A0 A0) A0 (A4 A0 A0 (K1 A0 A0 A0 (by rw [hd];decide) A0 ?_)))));refine K1 A0 A0 A0 (by rw [hd];decide) A0 ?_;refine K1 A0 A0 A0 (by rw [hd];decide) A0 ?_;refine K1 A0 A0 A0 (by rw [hd];decide) A0 ?_;refine K1 A0 A0 A0 (by rw [hd];decide) A0 ?_;refine A6 (S9 A0 (hd) A0) A0 (A5 ?_);refine k1 ?_;refine B1 rfl (fun ht=>?_) (fun ht=>?_)
  ·refine k6 (k7 (k9 A0 (k7 (k8 A0 ?_))))
   rw [←hu]
   exact S8 (A81 rfl) (by repeat (first | exact A8 | refine A9 rfl ?_ | refine D4 _ ?_)) (fun _ _ h=>h) ⟨rfl,rfl⟩
  ·cases ht
 ·have hd:decide ((((k - 1) / 2:Nat):Int)=(k:Int))=false:=decide_eq_false (by omega)
  refine A3 (A4 A0 A0 (A4 A0 A0 (A6 (H0 A0 A0) A0 (A4 A0 A0 (G9 A0 A0 A0 hd (A4 A0 A0 (G9 A0 A0 A0 hd (A4 A0 A0 (G9 A0 A0 A0 hd (A4 A0 A0 (G9 A0 A0 A0 hd (B07 (fun a vs w=>by kernel_rfl) (D90 g l' k ((k - 1) / 2) hg hrg (by omega) hil (h0' _) A0) A0 A0 A0 A0 ?_))))))))))));rintro _ _ ⟨rfl,rfl⟩;refine G9 A0 A0 A0 hd (A6 (S2 A0) A0 (A6 (V5 A0 (hd) A0) A0 (A5 ?_)));refine k1 ?_;refine B1 rfl (fun ht=>?_) (fun ht=>?_)
  ·have hb:U0 g (atG l' k) (atG l' ((k - 1) / 2))=false:=by simpa using ht
   rw [if_pos (.inr hb)] at hu
   refine k6 (k7 (k9 A0 (k7 (k8 A0 ?_))))
   rw [←hu]
   exact S8 (A81 rfl) (by repeat (first | exact A8 | refine A9 rfl ?_ | refine D4 _ ?_)) (fun _ _ h=>h) ⟨rfl,rfl⟩
  ·have hb:U0 g (atG l' k) (atG l' ((k - 1) / 2))=true:=by simpa using ht
   rw [if_neg (by rw [hb];simp [he])] at hu
   refine k5 (k1 (k2 (A3 (A4 A0 A0 (A4 A0 A0 (A4 A0 A0 (B07 (fun a vs w=>by kernel_rfl) (D91 g l' ((k - 1) / 2) k hil (by omega) (h0' _) A0) A0 A0 A0 A0 ?_)))))));rintro _ _ ⟨rfl,rfl⟩;refine A5 ?_;refine k1 (A3 (A4 A0 A0 (A7 A0 A0 (A5 ?_))));refine k4 (k1 ?_);refine ⟨(f,i7 l' ((k - 1) / 2) k,(k - 1) / 2),⟨hu,by dsimp only;omega,by dsimp only;rw [P5];exact hll,by dsimp only;omega,F22 hil (by omega) hrg⟩,by dsimp only;omega,?_⟩
   exact K76 ⟨le1 rfl,le1 rfl,trivial⟩ hH (by repeat (first | exact A8 | refine A9 rfl ?_)) (E4 (L:=[(741,_)]) ⟨rfl,trivial⟩ (by repeat (first | exact D5 | refine D8 rfl ?_)))
theorem J89 {gf:Fr} {ob:Obs} (g:Graph) (l:List Int) (n:Nat) (hg:g.length≤1048576) (hl:l.length≤1048576) (hr:∀x∈l,0≤x∧x < (g.length:Int)) (hn:n≤l.length) (h0:C1 ob 740=some (B57 g)) (h1:C1 ob 741=some (U5 l)) :
  AL.Met Tryz.prog 77 [F87,sI 0,sI n] gf ob [] (fun rs ob'=>∃b,rs=[.one (.p (.v (.bool b)))]∧ob'=(741,U5 (A64 (U0 g) n (n+1) l 0))::ob):=by
 have h0':∀o,C1 ((741,o)::ob) 740=some (B57 g):=fun o=>by rw [B4 (by decide)];exact h0
 refine AL.Met.introH Tryz.func77 (by decide) rfl rfl rfl (fun hH=>?_)
 refine k2 (A3 (A7 A0 A0 (A5 ?_)));refine k1 (k2 (A3 (A4 A0 A0 (A7 A0 A0 (A5 ?_)))));refine k1 (k2 (k3 ?_))
 obtain ⟨R,hR⟩:∃R,R=A64 (U0 g) n (n+1) l 0:=⟨_,rfl⟩
 rw [←hR]
 refine D2 (X:=Nat × List Int × Nat) (fun x=>([(0,.s F87),(1,C7 0),(2,C7 n),(7,C7 x.2.2)]++gf,(741,U5 x.2.1)::ob)) (fun x=>A64 (U0 g) n x.1 x.2.1 x.2.2=R∧n < x.1+x.2.2∧x.2.1.length=l.length∧x.2.2≤l.length∧∀y∈x.2.1,0≤y∧y < (g.length:Int)) (fun x=>x.1) (n+1,l,0) ⟨hR.symm,by dsimp only;omega,rfl,Nat.zero_le _,hr⟩ ?_ ?_
 ·exact K76 ⟨le1 rfl,le1 rfl,le1 rfl,le1 rfl,trivial⟩ hH (by repeat (first | exact A8 | refine A9 rfl ?_)) (E4 (L:=[(741,_)]) ⟨h1,trivial⟩ D5)
 rintro ⟨f,l',i⟩ ⟨hu,hkf,hll,hil,hrg⟩
 dsimp only at hu hkf hll hil hrg ⊢
 have hstop:n≤2*i+1→l'=R:=fun h=>by
  cases f with
  | zero=>exact hu
  | succ f=>rw [A64,if_pos h] at hu;exact hu
 refine k3 (k2 (A3 (A4 A0 A0 (A6 (B80 A0 A0 (by omega)) A0 (E3 A0 A0 A0 (A7 A0 A0 (A5 ?_)))))));refine k1 (k2 (k2 (A3 (A4 A0 A0 (A4 A0 A0 (A6 (V2 A0 A0) A0 (A4 A0 A0 (B5 A0 A0 A0 A0 (fun hg=>by rw [hg];exact C2 A0 A0) ?_))))))));refine B5 A0 A0 A0 A0 (fun hg=>by rw [hg];exact A75 A0 A0) ?_;refine K7 A0 A0 ?_;refine A5 ?_;refine k1 ?_;refine B1 rfl (fun ht=>?_) (fun ht=>?_)
 ·have h3:=A1 (or_pick.symm.trans ht)
  rw [hstop (by omega)]
  refine k6 (k2 (A3 (A4 A0 A0 (A4 A0 A0 (A6 (O1 A0 A0) A0 (A7 A0 A0 (A5 ?_)))))));refine k1 (k10 ?_)
  exact G7 (I8 rfl rfl) (by repeat (first | exact A8 | refine A9 rfl ?_ | refine D4 _ ?_)) (fun _ _ h=>h) ⟨_,rfl,rfl⟩
 have h3:=A2 (or_pick.symm.trans ht)
 have hj1:2*i+1 < n:=by omega
 obtain ⟨f,rfl⟩:∃f',f=f'+1:=⟨f - 1,by omega⟩
 rw [A64,if_neg (by omega)] at hu
 obtain ⟨c1,c2,c3⟩:=J62 (bf:=U0 g) (l:=l') hj1
 have hlow:E60 (U0 g) n l' i=if 2*i+2 < n∧U0 g (atG l' (2*i+2)) (atG l' (2*i+1))=true then 2*i+2 else 2*i+1:=rfl
 obtain ⟨j,hj⟩:∃j,j=E60 (U0 g) n l' i:=⟨_,rfl⟩
 rw [←hj] at hu c1 c2 c3 hlow
 rw [show 2*(i:Int)+1=((2*i+1:Nat):Int) by omega]
 refine k5 (k1 (k2 (A3 (A4 A0 A0 (A7 A0 A0 (A5 ?_))))));refine k1 (k2 (k2 (A3 (A4 A0 A0 (E3 A0 A0 A0 (A7 A0 A0 (A5 ?_)))))))
 rw [show ((2*i+1:Nat):Int)+1=((2*i+2:Nat):Int) by omega]
 refine k1 (k2 ?_)
 obtain ⟨B,hB⟩:∃B,B=(decide (2*i+2 < n)&&U0 g (atG l' (2*i+2)) (atG l' (2*i+1))):=⟨_,rfl⟩
 have hlow2:j=if B=true then 2*i+2 else 2*i+1:=by rw [hlow,hB];simp only [L02,decide_eq_true_eq]
 refine A87 ([(0,.s F87),(1,C7 0),(2,C7 n),(7,C7 i),(9,C7 ((2*i+1:Nat):Int)),(10,C7 ((2*i+2:Nat):Int)),(33,S0 B)]++gf) ((741,U5 l')::ob) ?_ ?_
 ·by_cases h2:2*i+2 < n
  ·have hd:decide (((2*i+2:Nat):Int) < (n:Int))=true:=decide_eq_true (by omega)
   have hBe:B=U0 g (atG l' (2*i+2)) (atG l' (2*i+1)):=by rw [hB,decide_eq_true h2,Bool.true_and]
   rw [hBe]
   refine A3 (A4 A0 A0 (A4 A0 A0 (F7 A0 A0 A0 (A4 A0 A0 (G9 A0 A0 A0 hd (A4 A0 A0 (G9 A0 A0 A0 hd (A4 A0 A0 (G9 A0 A0 A0 hd (A4 A0 A0 (G9 A0 A0 A0 hd (B07 (fun a vs w=>by kernel_rfl) (D90 g l' (2*i+2) (2*i+1) hg hrg (by omega) (by omega) (h0' _) A0) A0 A0 A0 A0 ?_))))))))))));rintro _ _ ⟨rfl,rfl⟩;refine A6 (S9 A0 (hd) A0) A0 (A5 ?_);refine k1 ?_
   exact K76 ⟨le1 rfl,le1 rfl,le1 rfl,le1 rfl,le1 rfl,le1 rfl,le1 rfl,trivial⟩ hH (by repeat (first | exact A8 | refine A9 rfl ?_)) (fun _ _ h=>h)
  ·have hd:decide (((2*i+2:Nat):Int) < (n:Int))=false:=decide_eq_false (by omega)
   have hBe:B=false:=by rw [hB,decide_eq_false h2,Bool.false_and]
   rw [hBe]
   refine A3 (A4 A0 A0 (A4 A0 A0 (F7 A0 A0 A0 (A4 A0 A0 (K1 A0 A0 A0 (by rw [hd];decide) A0 ?_)))));refine K1 A0 A0 A0 (by rw [hd];decide) A0 ?_;refine K1 A0 A0 A0 (by rw [hd];decide) A0 ?_;refine K1 A0 A0 A0 (by rw [hd];decide) A0 ?_;refine A6 (V5 A0 (hd) A0) A0 (A5 ?_);refine k1 ?_
   exact K76 ⟨le1 rfl,le1 rfl,le1 rfl,le1 rfl,le1 rfl,le1 rfl,le1 rfl,trivial⟩ hH (by repeat (first | exact A8 | refine A9 rfl ?_)) (fun _ _ h=>h)
 skip
 refine A87 ([(0,.s F87),(1,C7 0),(2,C7 n),(7,C7 i),(9,C7 j)]++gf) ((741,U5 l')::ob) ?_ ?_
 ·refine B1 rfl (fun ht=>?_) (fun ht=>?_)
  ·rw [if_pos ht] at hlow2
   skip
   refine A3 (A4 A0 A0 (A7 A0 A0 (A5 ?_)));refine k1 ?_
   rw [hlow2]
   exact K76 ⟨le1 rfl,le1 rfl,le1 rfl,le1 rfl,le1 rfl,trivial⟩ hH (by repeat (first | exact A8 | refine A9 rfl ?_)) (fun _ _ h=>h)
  ·rw [if_neg (by rw [ht];decide)] at hlow2
   refine k5 (k1 ?_)
   rw [hlow2]
   exact K76 ⟨le1 rfl,le1 rfl,le1 rfl,le1 rfl,le1 rfl,trivial⟩ hH (by repeat (first | exact A8 | refine A9 rfl ?_)) (fun _ _ h=>h)
 refine k2 (k2 (A3 (A4 A0 A0 (A4 A0 A0 (A4 A0 A0 (B07 (fun a vs w=>by kernel_rfl) (D90 g l' j i hg hrg (by omega) (by omega) (h0' _) A0) A0 A0 A0 A0 ?_))))));rintro _ _ ⟨rfl,rfl⟩;refine A6 (S2 A0) A0 (A5 ?_);refine k1 ?_;refine B1 rfl (fun ht=>?_) (fun ht=>?_)
 ·have hb:U0 g (atG l' j) (atG l' i)=false:=by simpa using ht
  rw [if_pos hb] at hu
  rw [←hu]
  refine k6 (k2 (A3 (A4 A0 A0 (A4 A0 A0 (A6 (O1 A0 A0) A0 (A7 A0 A0 (A5 ?_)))))));refine k1 (k10 ?_)
  exact G7 (I8 rfl rfl) (by repeat (first | exact A8 | refine A9 rfl ?_ | refine D4 _ ?_)) (fun _ _ h=>h) ⟨_,rfl,rfl⟩
 ·have hb:U0 g (atG l' j) (atG l' i)=true:=by simpa using ht
  rw [if_neg (by rw [hb];decide)] at hu
  refine k5 (k1 (k2 (A3 (A4 A0 A0 (A4 A0 A0 (A4 A0 A0 (B07 (fun a vs w=>by kernel_rfl) (D91 g l' i j (by omega) (by omega) (h0' _) A0) A0 A0 A0 A0 ?_)))))));rintro _ _ ⟨rfl,rfl⟩;refine A5 ?_;refine k1 (A3 (A4 A0 A0 (A7 A0 A0 (A5 ?_))));refine k4 (k1 ?_);refine ⟨(f,i7 l' i j,j),⟨hu,by dsimp only;omega,by dsimp only;rw [P5];exact hll,by dsimp only;omega,F22 (by omega) (by omega) hrg⟩,by dsimp only;omega,?_⟩
  exact K76 ⟨le1 rfl,le1 rfl,le1 rfl,le1 rfl,trivial⟩ hH (by repeat (first | exact A8 | refine A9 rfl ?_)) (E4 (L:=[(741,_)]) ⟨rfl,trivial⟩ (by repeat (first | exact D5 | refine D8 rfl ?_)))
set_option maxHeartbeats 1000000
theorem G26 {gf:Fr} {ob:Obs} (g:Graph) (l:List Int) (c:Int) (hg:g.length≤1000) (hl:l.length≤1000) (hr:∀x∈l,0≤x∧x < (g.length:Int)) (hc:0≤c∧c < g.length) (h0:C1 ob 740=some (B57 g)) (h1:C1 ob 741=some (U5 l)) :
  AL.Met Tryz.prog 45 [F87,sIf c] gf ob [741] (fun rs ob'=>rs=[]∧ob'=(740,B57 g)::(741,U5 (D63 (U0 g) l c))::Obs.forget 741 ob):=by
 have hr2:∀x∈l++[c],0≤x∧x < (g.length:Int):=fun x hx=>by
  rcases List.mem_append.1 hx with hx | hx
  ·exact hr x hx
  ·rw [List.mem_singleton.1 hx];exact hc
 have hla:(l++[c]).length=l.length+1:=by simp
 have hp:upH (U0 g) (l.length+1) (l++[c]) l.length=D63 (U0 g) l c:=rfl
 refine AL.Met.introH Tryz.func45 (by decide) rfl rfl rfl (fun hH=>?_)
 refine D3 (K77 741 (l:=[(0,.s F87),(1,.s (sIf c))]) (L:=[(740,_),(741,_)]) ⟨le1 rfl,le1 rfl,trivial⟩ hH (by repeat (first | exact A8 | refine A9 rfl ?_)) ⟨h0,h1,trivial⟩) ?_
 refine k2 (A3 (A4 A0 A0 (A4 A0 A0 (B07 (fun a vs w=>by kernel_rfl) (J88 g l c (by omega) A0 A0) A0 A0 A0 A0 ?_))));rintro _ _ ⟨rfl,rfl⟩;refine A5 ?_;refine k1 (A3 (A4 A0 A0 (A4 A0 A0 (B07 (fun a vs w=>by kernel_rfl) (F21 g (l++[c]) A0 A0) A0 A0 A0 A0 ?_))));rintro _ _ ⟨rfl,rfl⟩;refine A6 (N1 A0 A0 (by (rw [hla];omega))) A0 ?_;refine L4 ((by rw [hla,show (((l.length+1:Nat):Int)) - 1=((l.length:Nat):Int) by omega];exact hUp_met g (l++[c]) l.length (by omega) (by omega) hr2 (by omega) A0 A0)) A0 A0 A0 ?_;rintro _ _ ⟨rfl,rfl⟩;refine A5 ?_
 rw [hp]
 skip
 exact S8 (A81 rfl) (by repeat (first | exact A8 | refine A9 rfl ?_ | refine P9 _ ?_ | refine D4 _ ?_)) (E4 (L:=[(740,_),(741,_)]) ⟨rfl,rfl,trivial⟩ (by repeat (first | exact D5 | refine D8 rfl ?_ | refine A02 _ ?_))) ⟨rfl,rfl⟩
theorem K48 {gf:Fr} {ob:Obs} (g:Graph) (l:List Int) (hg:g.length≤1000) (hl:l.length≤1000) (h2:0 < l.length) (hr:∀x∈l,0≤x∧x < (g.length:Int)) (h0:C1 ob 740=some (B57 g)) (h1:C1 ob 741=some (U5 l)) :
  AL.Met Tryz.prog 47 [F87] gf ob [741] (fun rs ob'=>rs=[sIf (atG (D14 (U0 g) l) (l.length - 1))]∧ob'=(740,B57 g)::(741,U5 ((D14 (U0 g) l).take (l.length - 1)))::Obs.forget 741 ob):=by
 have hsl:=P5 l 0 (l.length - 1)
 have hsr:=F22 (n:=(g.length:Int)) (i:=0) (j:=l.length - 1) h2 (by omega) hr
 have hdn:A64 (U0 g) (l.length - 1) (l.length - 1+1) (i7 l 0 (l.length - 1)) 0=D14 (U0 g) l:=by unfold D14;rw [show l.length - 1+1=l.length by omega]
 have hpl:(D14 (U0 g) l).length=l.length:=by
  rw [←hdn]
  exact (by
   have key:∀(f i:Nat) (x:List Int),(A64 (U0 g) (l.length - 1) f x i).length=x.length:=by
    intro f
    induction f with
    | zero=>intro i x;rfl
    | succ f ih =>
     intro i x
     rw [A64]
     split
     ·rfl
     ·split
      ·rfl
      ·rw [ih,P5]
   rw [key,P5])
 refine AL.Met.introH Tryz.func47 (by decide) rfl rfl rfl (fun hH=>?_)
 refine D3 (K77 741 (l:=[(0,.s F87)]) (L:=[(740,_),(741,_)]) ⟨le1 rfl,trivial⟩ hH (by repeat (first | exact A8 | refine A9 rfl ?_)) ⟨h0,h1,trivial⟩) ?_
 refine k2 (A3 (A7 A0 A0 (A5 ?_)));refine k1 (k2 (A3 (A4 A0 A0 (B07 (fun a vs w=>by kernel_rfl) (F21 g l A0 A0) A0 A0 A0 A0 ?_))));rintro _ _ ⟨rfl,rfl⟩;refine A6 (N1 A0 A0 (by omega)) A0 (A7 A0 A0 (A5 ?_))
 rw [show ((l.length:Nat):Int) - 1=((l.length - 1:Nat):Int) by omega]
 refine k1 (k2 (A3 (A4 A0 A0 (A4 A0 A0 (B07 (fun a vs w=>by kernel_rfl) (D91 g l 0 (l.length - 1) h2 (by omega) A0 A0) A0 A0 A0 A0 ?_)))));rintro _ _ ⟨rfl,rfl⟩;refine A5 ?_;refine k1 (k2 (A3 (A4 A0 A0 (A4 A0 A0 (L4 (J89 g (i7 l 0 (l.length - 1)) (l.length - 1) (by omega) (by omega) hsr (by omega) A0 A0) A0 A0 A0 ?_)))));rintro _ _ ⟨b,rfl,rfl⟩;refine A5 ?_
 rw [hdn]
 refine k1 (k2 (A3 (A4 A0 A0 (B07 (fun a vs w=>by kernel_rfl) ((by rw [←hpl];exact K47 g (D14 (U0 g) l) (by omega) (by omega) A0 A0)) A0 A0 A0 A0 ?_))));rintro _ _ ⟨rfl,rfl⟩;refine A7 A0 A0 (A5 ?_)
 rw [hpl]
 refine k1 (k10 ?_)
 exact G7 (I8 rfl rfl) (by repeat (first | exact A8 | refine A9 rfl ?_ | refine P9 _ ?_ | refine D4 _ ?_)) (E4 (L:=[(740,_),(741,_)]) ⟨rfl,rfl,trivial⟩ (by repeat (first | exact D5 | refine D8 rfl ?_ | refine A02 _ ?_))) ⟨rfl,rfl⟩
theorem OInv.ub {g:Graph} {inn:List Bool} {k i:Nat} {ch hp out:List Int} (h:OInv g inn k i ch hp out) (p:Nat) (hp:p < g.length):-1≤atG ch p∧atG ch p≤g.length:=by
 cases ho:K2 inn p
 ·have:=h.off p hp ho;omega
 ·have h1:=h.cnt p hp ho
  have h2:=H26 g inn (out.take k) p
  split at h1<;>omega
theorem G27 (g:Graph) (s:Int) (h:FewT g):FnOk Tryz.prog 22 [K3 g,K9 [s]] (fun rs=>rs=[K9 (X1 g s).1,E2 (X1 g s).2]):=by
 have hg:=h.few.len
 refine FnOk.intro Tryz.func22 (by decide) A0 A0 A0 A0 ?_
 refine k2 (A3 (A7 A0 A0 (A7 A0 A0 (A5 ?_))));refine k1 (k2 (k2 (A3 (A4 A0 A0 (C9 (J38 g h) A0 A0 A0 ?_)))));rintro _ rfl;refine A7 A0 A0 (A5 ?_);refine k1 (k2 (A3 (A4 A0 A0 (A6 (O2 A0 A0) A0 (A5 ?_)))));refine k1 ?_;refine B1 rfl (fun ht=>?_) (fun ht=>?_)
 ·have h1:H3 g≠0:=A1 ht
  refine k2 (A3 (A4 A0 A0 (A6 (H4 _ 1 F2) A0 (A7 A0 A0 (A5 ?_)))));refine k1 (k10 (k11 ?_))
  exact B8 (rs:=[K9 [],E2 (H3 g)]) (a6 rfl rfl rfl rfl rfl) (by unfold X1;rw [if_pos h1])
 have h1:¬H3 g≠0:=A2 ht
 have hvg:=A60 (Decidable.not_not.1 h1)
 refine k5 (k1 (k2 (k2 (A3 (A4 A0 A0 (F4 A0 A0 (A4 A0 A0 (A5 ?_))))))));refine k1 (k3 (D2 (X:=Nat) (fun i=>([(0,D6 Commit 3 H2 g),(1,D6 Int 1 F2 [s]),(23,D6 Int 1 F2 [s]),(24,C7 1),(25,C7 i)],[])) (fun i=>i≤1∧(i=1→v6 g s)) (fun i=>1 - i) 0 ⟨Nat.zero_le _,fun h=>by cases h⟩ (Sees.of ⟨le1 rfl,le1 rfl,le1 rfl,le1 rfl,le1 rfl,trivial⟩ trivial) ?_))
 rintro i ⟨hi,hs⟩
 dsimp only at hi hs ⊢
 refine k2 (A3 (F7 A0 A0 A0 (A5 ?_)));refine k1 (k2 ?_);refine B1 rfl (fun ht=>?_) (fun ht=>?_)
 ·have hlt:i=0:=by have h1:=A1 ht;omega
  subst hlt
  have hv:[s][((0:Nat):Int).toNat]?=some s:=rfl
  refine k5 (k1 (k2 (k3 (k2 (A3 (A6 (B6 A0 (.pure _ _ _ _) A0 (by omega) hv) A0 (A6 (B3 A0 A0) A0 (A7 A0 A0 (A5 ?_)))))))));refine k1 (k2 (A3 (A4 A0 A0 (A4 A0 A0 (C9 (dis_ok g s) A0 A0 A0 ?_)))));rintro _ rfl;refine A6 (S2 A0) A0 (A5 ?_);refine k1 ?_;refine B1 rfl (fun ht=>?_) (fun ht=>?_)
  ·have h2:¬v6 g s:=by simpa using ht
   refine k2 (A3 (A6 (H4 _ 1 F2) A0 (A7 A0 A0 (A5 ?_))));refine k1 (k10 (k12 (k11 (k11 (k12 (k11 ?_))))))
   exact B8 (rs:=[K9 [],E2 5]) (a6 rfl rfl rfl rfl rfl) (by unfold X1;rw [if_neg h1,if_neg h2])
  ·have h2:v6 g s:=by simpa using ht
   refine k5 (k4 (k1 (A3 (E3 A0 A0 A0 (A4 A0 A0 (A5 ?_))))));refine k1 ?_
   exact ⟨1,⟨Nat.le_refl _,fun _=>h2⟩,by omega,(Sees.of ⟨le1 rfl,le1 rfl,le1 rfl,le1 rfl,le1 rfl,trivial⟩ trivial)⟩
 have hi1:i=1:=by have h1:=A2 ht;omega
 have hs:=hs hi1
 have hres:X1 g s=(D65 g [s],0):=by unfold X1;rw [if_neg h1,if_pos hs]
 rw [hres]
 have hsr:∀f∈[s],0≤f∧f < g.length:=fun f hf=>by rw [List.mem_singleton.1 hf];exact hs
 refine k6 (k2 (A3 (A4 A0 A0 (A7 A0 A0 (A5 ?_)))));refine k1 (k2 (A3 (A4 A0 A0 (A4 A0 A0 (A33 (G93 g [s] h.few hvg.rel hsr (by simp)) A0 A0 A0 A0 ?_)))));rintro _ _ ⟨ch,rfl,rfl,hchl,hch⟩;refine ⟨rfl,?_⟩;refine A7 A0 A0 (A5 ?_)
 have hcl:=B63 hvg.rel [s] hsr
 obtain ⟨inn,hinn⟩:∃inn,inn=P6 g [s]:=⟨_,rfl⟩
 have hil:inn.length=g.length:=by rw [hinn];exact E34 g _
 have hord:D65 g [s]=E03 g inn (g.length+1) []:=by rw [hinn];rfl
 rw [←hinn] at hch hcl
 rw [hord]
 have hlo:∀p,p < g.length → -1≤atG ch p∧atG ch p≤g.length:=fun p hp=>by
  rw [hch p hp]
  have:=H26 g inn [] p
  split<;>omega
 refine k1 (k2 (A3 (A4 A0 A0 (A6 (H52 (cs:=[.list Commit 3 H2 g]) A0 A0) A0 (A6 (K0 A0) A0 (D1 (s6 740 A0 A0 A0) A0 (A7 A0 A0 (A5 ?_))))))));refine k1 (k2 (k2 (D3 (K81 741 Int 1 F2 3 (kb:=740) (o:=0) A0 A0 A0) ?_)))
 refine A3 (A4 A0 A0 (A6 (C35 A0 A0) A0 (A4 A0 A0 (A5 ?_))));refine k1 (k3 (D2 (X:=Nat × List Int) (fun x=>([(0,D6 Commit 3 H2 g),(10,.s (.one (.mut 753))),(11,.s (.one (.ref 740 0))),(42,.s (.one (.mut 753))),(43,C7 g.length),(44,C7 x.1)],[(740,B57 g),(741,U5 x.2),(753,F20 ch)])) (fun x=>x.1≤g.length∧HInv g ch x.2 x.1) (fun x=>g.length - x.1) (0,[]) ⟨Nat.zero_le _,HInv.nil g ch⟩ (by rw [←hchl];exact (Sees.of ⟨le1 rfl,le1 rfl,le1 rfl,le1 rfl,le1 rfl,le1 rfl,trivial⟩ ⟨rfl,rfl,rfl,trivial⟩)) ?_))
 rintro ⟨i,hp⟩ ⟨hi,hI⟩
 dsimp only at hi hI ⊢
 have hpl:=hI.le
 refine k2 (A3 (F7 A0 A0 A0 (A5 ?_)));refine k1 (k2 ?_);refine B1 rfl (fun ht=>?_) (fun ht=>?_)
 ·have hlt:i < g.length:=by have h1:=A1 ht;(try dsimp only at h1);omega
  have hva:=C97 (l:=ch) (p:=(i:Int)) (by omega)
  rw [L03] at hva
  have hN:=hI.step
  have hrg:∀x∈hp,0≤x∧x < (g.length:Int):=fun x hx=>by have:=hI.rng x hx;omega
  refine k5 (k1 (k2 (k3 (k2 (A3 (A4 A0 A0 (A6 (F9 A0 A0 A0 (by omega) (by omega)) A0 (A6 (N8 A0 A0 hva A0) A0 (A7 A0 A0 (A7 A0 A0 (A5 ?_)))))))))));refine k1 (k2 (A3 (A4 A0 A0 (A6 (H0 A0 A0) A0 (A5 ?_)))));refine k1 ?_;refine B1 rfl (fun ht=>?_) (fun ht=>?_)
  ·have h2:atG ch i=0:=A1 ht
   rw [if_pos h2] at hN
   skip
   refine A3 (A4 A0 A0 (A6 (B53 A0 (by kernel_rfl)) A0 (A4 A0 A0 (A6 (J4 A0 (by kernel_rfl)) A0 (L4 (G26 g hp i hg (by omega) hrg (by omega) A0 A0) A0 A0 A0 ?_)))));rintro _ _ ⟨rfl,rfl⟩;refine A5 ?_;refine k4 (k1 (A3 (E3 A0 A0 A0 (A4 A0 A0 (A5 ?_)))));refine k1 ?_
   exact ⟨(i+1,D63 (U0 g) hp i),⟨hlt,hN⟩,by dsimp only;omega,(Sees.of ⟨le1 rfl,le1 rfl,le1 rfl,le1 rfl,le1 rfl,le1 rfl,trivial⟩ ⟨rfl,rfl,rfl,trivial⟩)⟩
  ·have h2:¬atG ch i=0:=A2 ht
   rw [if_neg h2] at hN
   refine k5 (k4 (k1 (A3 (E3 A0 A0 A0 (A4 A0 A0 (A5 ?_))))));refine k1 ?_
   exact ⟨(i+1,hp),⟨hlt,hN⟩,by dsimp only;omega,(Sees.of ⟨le1 rfl,le1 rfl,le1 rfl,le1 rfl,le1 rfl,le1 rfl,trivial⟩ ⟨rfl,rfl,rfl,trivial⟩)⟩
 have hie:i=g.length:=by have h1:=A2 ht;(try dsimp only at h1);omega
 rw [hie] at hI
 have hO:=OInv.start hchl hil hch hI
 refine k6 (k2 (A3 (D1 (j4 14 _ F2 A0) A0 (A5 ?_))));refine k1 (k2 (k3 (D2 (X:=List Int × List Int × List Int) (fun x=>([(0,D6 Commit 3 H2 g),(10,.s (.one (.mut 753))),(11,.s (.one (.ref 740 0))),(14,.s (.one (.buf 14 Int 1 F2 x.2.2)))],[(14,.spare x.2.2.length 1 3),(740,B57 g),(741,U5 x.2.1),(753,F20 x.1)])) (fun x=>OInv g inn x.2.2.length 0 x.1 x.2.1 x.2.2∧E03 g inn (g.length+1 - x.2.2.length) x.2.2=E03 g inn (g.length+1) []) (fun x=>g.length+1 - x.2.2.length) (ch,hp,[]) ⟨hO,rfl⟩ (Sees.of ⟨le1 rfl,le1 rfl,le1 rfl,le1 rfl,trivial⟩ ⟨rfl,rfl,rfl,rfl,trivial⟩) ?_)))
 rintro ⟨ch,hp,out⟩ ⟨hO,hro⟩
 dsimp only at hO hro ⊢
 obtain ⟨hol,hpl⟩:=hO.le
 have hchl:=hO.len
 refine k2 (k2 (A3 (A4 A0 A0 (L4 (F21 g hp A0 A0) A0 A0 A0 ?_))));rintro _ _ ⟨rfl,rfl⟩;refine A6 (O1 A0 A0) A0 (A5 ?_);refine k1 ?_;refine B1 rfl (fun ht=>?_) (fun ht=>?_)
 rotate_left
 ·have h2:hp=[]:=by
   have h2:=A2 ht
   exact List.length_eq_zero_iff.1 (by omega)
  rw [h2] at hO
  have hb:=hO.fin
  rw [K69 (by omega)] at hro
  rw [←hro]
  refine k6 (k2 (A3 (A4 A0 A0 (A7 A0 A0 (A7 A0 A0 (A5 ?_))))));refine k1 (k10 ?_)
  exact B8 (rs:=[K9 out,E2 0]) (a6 rfl rfl rfl rfl rfl) rfl
 have hp0:0 < hp.length:=by have h2:=A1 ht;omega
 obtain ⟨b1,b2,b3⟩:=hO.pop hp0
 have hm:atG hp 0∈hp:=by rw [R3 hp0];exact L05 hp0
 have hr0:=hO.hpr _ hm
 obtain ⟨c,hc⟩:∃c:Nat,atG hp 0=(c:Int):=⟨(atG hp 0).toNat,by omega⟩
 rw [K18 (by omega) (by omega),b1,hc] at hro
 rw [hc] at b2 b3
 have hcg:c < g.length:=by omega
 obtain ⟨cm,hcm⟩:∃cm,cm=g[c]:=⟨_,rfl⟩
 have hvc:g[((c:Nat):Int).toNat]?=some cm:=by rw [hcm];simp [hcg]
 have hps:F3 g c=cm.Parents:=by rw [g9 hcg,hcm]
 have hpl2:=h.few.pars cm (by rw [hcm];exact L05 hcg)
 obtain ⟨hp1,hhp1⟩:∃hp1,hp1=(D14 (U0 g) hp).take (hp.length - 1):=⟨_,rfl⟩
 refine k5 (k1 (k3 (k2 (A3 (A4 A0 A0 (A6 (B53 A0 (by kernel_rfl)) A0 (L4 (K48 g hp hg (by omega) hp0 hO.hpr A0 A0) A0 A0 A0 ?_)))))));rintro _ _ ⟨rfl,rfl⟩;refine A6 (E17 A0 A0) A0 (A7 A0 A0 (A5 ?_))
 rw [b3,←hhp1]
 rw [←hhp1] at b2
 refine k1 (k2 (A3 (A4 A0 A0 (A4 A0 A0 (A6 (D7 (c:=F2) (ys:=[(c:Int)]) (G6 A0 A0 A0 A0 I0) A0 A0 A0) A0 (D1 (P0 A0 A0 A0 (.pure _ _ _ _) (by (simp only [L04,L09];omega)) A0) A0 (A7 A0 A0 (A5 ?_))))))));refine k1 (k2 (A3 (A4 A0 A0 (A4 A0 A0 (A6 (B6 A0 (.pure _ _ _ _) A0 (by omega) hvc) A0 (A6 (C3 A0) A0 (A6 (B3 A0 A0) A0 (F4 A0 A0 (A4 A0 A0 (A5 ?_))))))))));refine k1 (k3 (D2 (X:=Nat × List Int × List Int) (fun x=>([(0,D6 Commit 3 H2 g),(10,.s (.one (.mut 753))),(11,.s (.one (.ref 740 0))),(14,.s (.one (.buf 14 Int 1 F2 (out++[(c:Int)])))),(72,D6 Int 1 F2 cm.Parents),(73,C7 cm.Parents.length),(74,C7 x.1)],[(14,.spare (out++[(c:Int)]).length 1 3),(740,B57 g),(741,U5 x.2.2),(753,F20 x.2.1)])) (fun x=>x.1≤cm.Parents.length∧OInv g inn out.length x.1 x.2.1 x.2.2 (out++[(c:Int)])) (fun x=>cm.Parents.length - x.1) (0,ch,hp1) ⟨Nat.zero_le _,b2⟩ (Sees.of ⟨le1 rfl,le1 rfl,le1 rfl,le1 rfl,le1 rfl,le1 rfl,le1 rfl,trivial⟩ ⟨rfl,rfl,rfl,rfl,trivial⟩) ?_))
 rintro ⟨i,ch,hp⟩ ⟨hi,hO⟩
 dsimp only at hi hO ⊢
 obtain ⟨hol2,hpl⟩:=hO.le
 have hchl:=hO.len
 have hub:=OInv.ub hO
 have hvo:(out++[(c:Int)])[out.length]?=some (c:Int):=by rw [L17 (Nat.le_refl _),L42];rfl
 rw [L06,List.length_singleton] at hol2
 refine k2 (A3 (F7 A0 A0 A0 (A5 ?_)));refine k1 (k2 ?_);refine B1 rfl (fun ht=>?_) (fun ht=>?_)
 rotate_left
 ·have h2:i=cm.Parents.length:=by have h1:=A2 ht;(try dsimp only at h1);omega
  rw [h2,←hps] at hO
  have hN:=hO.next (by simp) hvo
  refine k6 (k7 (k7 (k8 A0 (k4 (k1 ?_)))));refine ⟨(ch,hp,out++[(c:Int)]),⟨hN,?_⟩,by dsimp only;rw [L06,List.length_singleton];omega,(Sees.of ⟨le1 rfl,le1 rfl,le1 rfl,le1 rfl,trivial⟩ ⟨rfl,rfl,rfl,rfl,trivial⟩)⟩
  dsimp only
  rw [←hro,L06,List.length_singleton]
  congr 1<;>omega
 have hilt:i < cm.Parents.length:=by have h1:=A1 ht;(try dsimp only at h1);omega
 have hpb:=(K8 hvg.rel c).1 cm.Parents[i] (by rw [hps];exact L05 hilt)
 obtain ⟨p,hpe⟩:∃p:Nat,cm.Parents[i]=(p:Int):=⟨cm.Parents[i].toNat,by omega⟩
 have hvp:cm.Parents[i]?=some (p:Int):=by rw [L01 hilt,hpe]
 obtain ⟨s1,s2,s3,s4,s5⟩:=hO.step hvg.rel hcl (by simp) hvo (i:=i) (p:=p) (by rw [hps];exact hilt) (by simp only [hps];exact hpe)
 have hva:=C97 (l:=ch) (p:=(p:Int)) (by omega)
 have hva2:(Y5 ch p)[((p:Nat):Int).toNat]?=some (atG ch p - 1):=by
  unfold Y5
  rw [L03,List.getElem?_set_self (by omega)]
 have hdl:(Y5 ch p).length=g.length:=by unfold Y5;rw [L26,hchl]
 have hset:ch.set ((p:Nat):Int).toNat (atG ch ((p:Nat):Int).toNat - 1)=Y5 ch p:=rfl
 refine k5 (k1 (k2 (k3 (k2 (A3 (A6 (B6 A0 (.pure _ _ _ _) A0 (by omega) hvp) A0 (A6 (B3 A0 A0) A0 (A7 A0 A0 (A5 ?_)))))))));refine k1 (k2 (A3 (A4 A0 A0 (A4 A0 A0 (A6 (F9 A0 A0 A0 (by omega) (by (rw [hchl];omega))) A0 ?_)))));refine A6 (N8 A0 A0 hva A0) A0 (A6 (N1 A0 A0 (by (rw [L03];omega))) A0 ?_);refine A6 (F9 A0 A0 A0 (by omega) (by (rw [hchl];omega))) A0 ?_;refine G1 (L3 TySz.out A0 A0 (by (rw [hchl];omega)) A0 A0) ?_;refine A5 ?_
 rw [hset]
 refine k1 (k2 (A3 (A4 A0 A0 (A4 A0 A0 (A6 (F9 A0 A0 A0 (by omega) (by (rw [hdl];omega))) A0 ?_)))));refine A6 (N8 A0 A0 hva2 A0) A0 (A6 (H0 A0 A0) A0 (A5 ?_));refine k1 ?_;refine B1 rfl (fun ht=>?_) (fun ht=>?_)
 ·have h2:atG ch p - 1=0:=A1 ht
  rw [if_pos h2] at s5
  skip
  refine A3 (A4 A0 A0 (A6 (B53 A0 (by kernel_rfl)) A0 (A4 A0 A0 (A6 (J4 A0 (by kernel_rfl)) A0 (L4 (G26 g hp p hg (by omega) hO.hpr (by omega) A0 A0) A0 A0 A0 ?_)))));rintro _ _ ⟨rfl,rfl⟩;refine A5 ?_;refine k4 (k1 (A3 (E3 A0 A0 A0 (A4 A0 A0 (A5 ?_)))));refine k1 ?_
  exact ⟨(i+1,Y5 ch p,D63 (U0 g) hp p),⟨hilt,s5⟩,by dsimp only;omega,(Sees.of ⟨le1 rfl,le1 rfl,le1 rfl,le1 rfl,le1 rfl,le1 rfl,le1 rfl,trivial⟩ ⟨rfl,rfl,rfl,rfl,trivial⟩)⟩
 ·have h2:¬atG ch p - 1=0:=A2 ht
  rw [if_neg h2] at s5
  refine k5 (k4 (k1 (A3 (E3 A0 A0 A0 (A4 A0 A0 (A5 ?_))))));refine k1 ?_
  exact ⟨(i+1,Y5 ch p,hp),⟨hilt,s5⟩,by dsimp only;omega,(Sees.of ⟨le1 rfl,le1 rfl,le1 rfl,le1 rfl,le1 rfl,le1 rfl,le1 rfl,trivial⟩ ⟨rfl,rfl,rfl,rfl,trivial⟩)⟩
end Go.Proofs.YtjmoigcpoopjhaaGreatDoor
