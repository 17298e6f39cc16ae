/- Walks of the program's functions. -/
import Derived.Test.YtjmoigcpoopjhaaGreatDoorFd
import Derived.Test.YtjmoigcpoopjhaaGreatDoorFb
import Derived.Test.YtjmoigcpoopjhaaGreatDoorFa
import Derived.Test.YtjmoigcpoopjhaaGreatDoorFs
import Derived.Test.YtjmoigcpoopjhaaGreatDoorAn
set_option linter.unusedSimpArgs false
namespace Go.Proofs.YtjmoigcpoopjhaaGreatDoor
open Go Go.AL
set_option maxRecDepth 100000
set_option maxHeartbeats 1000000
theorem I83 {gf:Fr} {ob:Obs} (s:Str) (a d:Nat) (l:List AL.Node) (kind:Int) (hl:l.length≤1000) (h0:C1 ob 810=some (C56 s a d)) (h1:C1 ob 811=some (C11 l)) :
  AL.Met Tryz.prog 81 [L9,R5 kind,.one (.p (.list Int 1 F2 []))] gf ob [811] (fun rs ob'=>rs=[R5 l.length]∧ob'=(810,C56 s a d)::(811,C11 (l++[A36]))::Obs.forget 811 ob):=by
 refine AL.Met.introH Tryz.func81 (by decide) rfl rfl rfl (fun hH=>?_)
 refine D3 (K77 811 (l:=[(0,.s L9),(1,.s (R5 kind)),(2,D6 Int 1 F2 [])]) (L:=[(810,_),(811,_)]) ⟨le1 rfl,le1 rfl,le1 rfl,trivial⟩ hH (by repeat (first | exact A8 | refine A9 rfl ?_)) ⟨h0,h1,trivial⟩) ?_
 refine k2 (A3 (A7 A0 A0 (A5 ?_)));refine k1 (k2 (k2 (A3 (A4 A0 A0 (F4 A0 A0 (A5 ?_))))));refine k1 (k3 (k2 (A3 (A6 (H0 A0 A0) A0 (A7 A0 A0 (A5 ?_))))));refine k1 ?_;refine B1 rfl (fun ht=>?_) (fun ht=>?_)
 rotate_left
 ·exact absurd rfl (A2 ht)
 refine k2 (A3 (A4 A0 A0 (A6 (K0 A0) A0 (E80 ((K82 Int 1 F2 12 7 A0 A0)) (L4 (D36 s a d l A36 hl A0 A0) A0 A0 A0 ?_)))));rintro _ _ ⟨rfl,rfl⟩;refine A7 A0 A0 (A5 ?_);refine k1 (k10 (k12 (k11 ?_)))
 exact G7 (I8 rfl rfl) (by repeat (first | exact A8 | refine tail_drop rfl ?_ | refine A9 rfl ?_ | refine P9 _ ?_ | refine D4 _ ?_)) (E4 (L:=[(810,_),(811,_)]) ⟨rfl,rfl,trivial⟩ (by repeat (first | exact D5 | refine D8 rfl ?_ | refine A02 _ ?_))) ⟨rfl,rfl⟩
theorem gD {s:Str} {i:Nat} (h:i < s.length):s[i]?=some (s.getD i 0):=by simp [h]
def D41 (s:Str) (i:Nat):Bool:=decide ((i < s.length∧48≤(s.getD i 0).toNat)∧(s.getD i 0).toNat≤57)
theorem I84 (s:Str) (i:Nat):D41 s i=match s[i]? with | some c=>D13 c | none=>false:=by
 unfold D41 D13
 by_cases h:i < s.length
 ·rw [gD h];simp [h]
 ·rw [L18 (by omega)];simp [h]
theorem digs_le (s:Str) (i:Nat):(Q9 (s.drop i)).length≤s.length - i:=by
 unfold Q9
 have:=(List.takeWhile_sublist D13 (l:=s.drop i)).length_le
 rw [L12] at this;exact this
theorem D42 {p:UInt8→Bool}:∀(s:Str) (k:Nat),k≤(s.takeWhile p).length→(match s[k]? with | some c=>p c | none=>false)=decide (k < (s.takeWhile p).length)
 | [],k,h=>by simp at h ⊢
 | c::r,0,h=>by by_cases hc:p c=true<;>simp [List.takeWhile_cons,hc]
 | c::r,k+1,h=>by
  by_cases hc:p c=true
  ·rw [List.takeWhile_cons,if_pos hc,L04] at h ⊢
   have:=D42 (p:=p) r k (by omega)
   rw [List.getElem?_cons_succ,this];simp
  ·rw [List.takeWhile_cons,if_neg hc] at h;simp at h
theorem C76 {p:UInt8→Bool}:∀(s:Str) (k:Nat),k < (s.takeWhile p).length→s[k]?=(s.takeWhile p)[k]?
 | [],k,h=>by simp at h
 | c::r,k,h=>by
  by_cases hc:p c=true
  ·rw [List.takeWhile_cons,if_pos hc] at h ⊢
   cases k with
   | zero=>rfl
   | succ k=>rw [List.getElem?_cons_succ,List.getElem?_cons_succ];exact C76 (p:=p) r k (by simpa using h)
  ·rw [List.takeWhile_cons,if_neg hc] at h;simp at h
theorem G28 (s:Str) (i k:Nat) (h:k≤(Q9 (s.drop i)).length):D41 s (i+k)=decide (k < (Q9 (s.drop i)).length):=by
 rw [I84,←L28]
 exact D42 (s.drop i) k h
theorem J93 {s:Str} {i k:Nat} (h:k < (Q9 (s.drop i)).length):s[i+k]?=some ((Q9 (s.drop i)).getD k 0)∧48≤((Q9 (s.drop i)).getD k 0).toNat∧((Q9 (s.drop i)).getD k 0).toNat≤57 ∧
  B90 ((Q9 (s.drop i)).take (k+1))=10*B90 ((Q9 (s.drop i)).take k)+(((Q9 (s.drop i)).getD k 0).toNat - 48):=by
 have h1:s[i+k]?=(Q9 (s.drop i))[k]?:=by rw [←L28];exact C76 _ _ h
 have h2:=gD h
 have h3:D13 ((Q9 (s.drop i)).getD k 0)=true:=by
  have hm:(Q9 (s.drop i)).getD k 0∈(s.drop i).takeWhile D13:=L14 h2
  exact List.all_eq_true.1 List.all_takeWhile _ hm
 unfold D13 at h3
 have h3:=A1 h3
 refine ⟨by rw [h1,h2],h3.1,h3.2,?_⟩
 obtain ⟨hl,he⟩:=List.getElem?_eq_some_iff.1 h2
 rw [L35 hl,K15,he]
theorem K51 (n:Nat) (h:48≤n) (h2:n≤57):IntKind.i64.wrap (IntKind.u8.wrap ((n:Int) - 48))=((n - 48:Nat):Int):=by
 have:∀k:Fin 10,IntKind.i64.wrap (IntKind.u8.wrap (((k.1+48:Nat):Int) - 48))=((k.1:Nat):Int):=by decide
 have h3:=this ⟨n - 48,by omega⟩
 dsimp only at h3
 rw [show n - 48+48=n by omega] at h3
 exact h3
def numR (s:Str) (i:Nat):List PV:=match C88 (s.drop i) with
 | none=>[E2 0,E2 0,H1 false]
 | some (n,k)=>[E2 n,E2 ((i+k:Nat):Int),H1 true]
theorem G29 (s:Str) (i:Nat):FnOk Tryz.prog 186 [H7 s,E2 i] (fun rs=>rs=[H1 (D41 s i)]):=by
 refine FnOk.intro Tryz.func186 (by decide) A0 A0 A0 A0 ?_
 refine k2 (A3 (A7 A0 A0 (A5 ?_)));refine k1 (k2 (A3 (A4 A0 A0 (A4 A0 A0 (A6 (J7 A0) A0 (F7 A0 A0 A0 (A4 A0 A0 (B5 A0 A0 A0 A0 (fun hg=>by rw [hg];exact C2 A0 A0) ?_))))))));refine B5 A0 A0 A0 A0 (fun hg=>by rw [hg];exact C2 A0 A0) ?_;refine B5 A0 A0 A0 A0 (fun hg=>by have hq:=hg;(try simp at hq);rw [hg];exact R7 A0 A0 (by omega) (gD (by omega))) ?_;refine B5 A0 A0 A0 A0 (fun hg=>by rw [hg];exact V2 A0 A0) ?_;refine K7 A0 A0 ?_;refine A4 A0 A0 (B5 A0 A0 A0 A0 (fun hg=>by rw [hg];exact C2 A0 A0) ?_);refine B5 A0 A0 A0 A0 (fun hg=>by rw [hg];exact C2 A0 A0) ?_;refine B5 A0 A0 A0 A0 (fun hg=>by have hq:=hg;(try simp at hq);rw [hg];exact R7 A0 A0 (by omega) (gD (by omega))) ?_;refine B5 A0 A0 A0 A0 (fun hg=>by rw [hg];exact B81 A0 A0) ?_;refine K7 A0 A0 ?_;refine A7 A0 A0 (A5 ?_);refine k1 (k10 (B8 (I1 A0 A0 A0) ?_))
 simp only [and_pick]
 unfold D41
 congr 4
 congr 1
 simp;omega
theorem I85 (s:Str) (i:Nat) (hi:i≤s.length) (hs:s.length≤1073741824):FnOk Tryz.prog 183 [H7 s,E2 i] (fun rs=>rs=numR s i):=by
 obtain ⟨ds,hds⟩:∃ds,ds=Q9 (s.drop i):=⟨_,rfl⟩
 have hle:=digs_le s i
 have h0:=G28 s i 0 (Nat.zero_le _)
 rw [Nat.add_zero] at h0
 rw [←hds] at hle h0
 refine FnOk.intro Tryz.func183 (by decide) A0 A0 A0 A0 ?_
 refine k2 (A3 (A7 A0 A0 (A7 A0 A0 (A7 A0 A0 (A5 ?_)))));refine k1 (k2 (k2 (A3 (A4 A0 A0 (F7 A0 A0 A0 (A4 A0 A0 (B5 A0 A0 A0 A0 (fun hg=>by rw [hg];exact C2 A0 A0) ?_)))))));refine B5 A0 A0 A0 A0 (fun hg=>by rw [hg];exact C2 A0 A0) ?_;refine B5 A0 A0 A0 A0 (fun hg=>by have hq:=hg;(try simp at hq);rw [hg];exact O7 (G29 s i) A0 A0) ?_;refine B5 A0 A0 A0 A0 (fun hg=>by rw [hg];exact S2 A0) ?_;refine K7 A0 A0 ?_;refine A5 ?_
 rw [h0]
 refine k1 ?_
 by_cases hz:ds.length=0
 ·refine B1 rfl (fun ht=>?_) (fun ht=>?_)
  rotate_left
  ·exfalso;revert ht;simp [hz]
  refine k2 (A3 (A7 A0 A0 (A7 A0 A0 (A7 A0 A0 (A5 ?_)))));refine k1 (k10 (k11 (B8 (rs:=[E2 0,E2 0,H1 false]) (ret3 A0 A0 A0 A0 A0 A0 A0) ?_)))
  unfold numR C88
  rw [←hds,if_pos (.inl (List.length_eq_zero_iff.1 hz))]
 refine B1 rfl (fun ht=>?_) (fun ht=>?_)
 ·exfalso;revert ht;simp [show 0 < ds.length by omega]
 refine k5 (k1 (k2 (A3 (A4 A0 A0 (A7 A0 A0 (A7 A0 A0 (A5 ?_)))))));refine k1 (k2 (k3 (D2 (X:=Nat) (fun k=>([(0,Z9 s),(1,C7 i),(7,C7 ((min (B90 (ds.take k)) 2147483648:Nat):Int)),(8,C7 ((i+k:Nat):Int))],[])) (fun k=>k≤ds.length) (fun k=>ds.length - k) 0 (Nat.zero_le _) (Sees.of ⟨le1 rfl,le1 rfl,le1 rfl,le1 rfl,trivial⟩ trivial) ?_)))
 intro k hk
 dsimp only at hk ⊢
 have hrun:=G28 s i k (by rw [←hds];exact hk)
 rw [←hds] at hrun
 refine k2 (k2 (A3 (A4 A0 A0 (A4 A0 A0 (C9 (G29 s (i+k)) A0 A0 A0 ?_)))));rintro _ rfl;refine A5 ?_
 rw [hrun]
 refine k1 ?_;refine B1 rfl (fun ht=>?_) (fun ht=>?_)
 ·have hlt:k < ds.length:=A1 ht
  obtain ⟨g1,g2,g3,g4⟩:=J93 (s:=s) (i:=i) (k:=k) (by rw [←hds];exact hlt)
  rw [←hds] at g1 g2 g3 g4
  obtain ⟨c,hc⟩:∃c,c=ds.getD k 0:=⟨_,rfl⟩
  rw [←hc] at g1 g2 g3 g4
  obtain ⟨v,hv⟩:∃v,v=min (B90 (ds.take k)) 2147483648:=⟨_,rfl⟩
  have hvb:v≤2147483648:=by omega
  have hnew:min (B90 (ds.take (k+1))) 2147483648=min (10*v+(c.toNat - 48)) 2147483648:=by rw [g4];omega
  rw [←hv]
  have hsub:=K51 c.toNat g2 g3
  refine k5 (k1 (k2 (k3 (A3 (A4 A0 A0 (A6 (B80 A0 A0 (by omega)) A0 (A4 A0 A0 (A4 A0 A0 (A6 (R7 A0 A0 (by omega) g1) A0 (A6 (J26 A0 A0) A0 (A6 (j3 A0) A0 (A6 (l6 A0 A0 (by (rw [hsub];omega))) A0 ?_))))))))))));refine A6 (E85 A0 A0) A0 (A7 A0 A0 (A5 ?_));refine k4 (k1 (A3 (A4 A0 A0 (E3 A0 A0 A0 (A7 A0 A0 (A5 ?_))))));refine k1 ?_;refine ⟨k+1,hlt,by omega,?_⟩
  rw [hnew]
  refine Sees.of ⟨⟨_,rfl,.same _⟩,⟨_,rfl,.same _⟩,⟨_,rfl,.eq ?_⟩,⟨_,rfl,.eq ?_⟩,trivial⟩ trivial
  ·rw [hsub]
   congr 6
   split<;>omega
  ·congr 6
 ·have hk':k=ds.length:=by have:¬k < ds.length:=A2 ht;omega
  subst hk'
  rw [L08]
  have hv0:i < s.length:=by omega
  refine k6 (k2 (k2 (A3 (A4 A0 A0 (A6 (O1 A0 A0) A0 (A4 A0 A0 (B5 A0 A0 A0 A0 (fun hg=>by rw [hg];exact C2 A0 A0) ?_)))))));refine B5 A0 A0 A0 A0 (fun hg=>by rw [hg];exact C2 A0 A0) ?_;refine B5 A0 A0 A0 A0 (fun hg=>by have hq:=hg;(try simp at hq);rw [hg];exact R7 A0 A0 (by omega) (gD hv0)) ?_;refine B5 A0 A0 A0 A0 (fun hg=>by rw [hg];exact H0 A0 A0) ?_;refine B5 A0 A0 A0 A0 (fun hg=>by rw [hg];exact C2 A0 A0) ?_;refine N0 A0 A0 A0 (.gd (.val _)) A0 (fun hg=>by obtain ⟨hg1,hg2⟩:=X5 hg;(try rw [hg1]);(try rw [hg2]);exact C2 A0 A0) ?_;refine N0 A0 A0 A0 (.gd (.val _)) A0 (fun hg=>by obtain ⟨hg1,hg2⟩:=X5 hg;(try rw [hg1]);(try rw [hg2]);exact C2 A0 A0) ?_;refine N0 A0 A0 A0 (.gd (.val _)) A0 (fun hg=>by have hq:=hg;(try simp at hq);obtain ⟨hg1,hg2⟩:=X5 hg;(try rw [hg1]);(try rw [hg2]);exact l6 A0 A0 (by omega)) ?_;refine N0 A0 A0 A0 (.gd (.val _)) A0 (fun hg=>by obtain ⟨hg1,hg2⟩:=X5 hg;(try rw [hg1]);(try rw [hg2]);exact O1 A0 A0) ?_;refine B5 A0 A0 A0 A0 (fun hg=>by rw [hg];exact L8 A0 (fun h=>by first | rfl | (rw [h];rfl)) (fun h=>by first | rfl | (rw [h];rfl))) ?_;refine K7 A0 A0 ?_;refine A5 ?_;refine k1 ?_
  have hd0:(s.drop i).head?=some (s.getD i 0):=by rw [List.head?_drop,gD hv0]
  simp only [and_pick,or_pick]
  have hbad:(Q9 (s.drop i)=[]∨((s.drop i).head?=some 48∧1 < (Q9 (s.drop i)).length)∨2147483647 < B90 (Q9 (s.drop i)))↔(2147483647 < ((min (B90 ds) 2147483648:Nat):Int)∨(((s.getD i 0).toNat:Int)=48∧(i:Int)+1 < ((i+ds.length:Nat):Int))):=by
   rw [←hds,hd0]
   have e1:ds≠[]:=fun e=>hz (by rw [e];rfl)
   have e2:(some (s.getD i 0)=some 48)↔((s.getD i 0).toNat:Int)=48:=by
    rw [Option.some.injEq,←UInt8.toNat_inj]
    have:(48:UInt8).toNat=48:=rfl
    omega
   simp only [e1,false_or,e2]
   omega
  refine B1 rfl (fun ht=>?_) (fun ht=>?_)
  ·have h1:=A1 ht
   refine k2 (A3 (A7 A0 A0 (A7 A0 A0 (A7 A0 A0 (A5 ?_)))));refine k1 (k10 (k11 (B8 (rs:=[E2 0,E2 0,H1 false]) (ret3 A0 A0 A0 A0 A0 A0 A0) ?_)))
   unfold numR C88
   rw [if_pos (hbad.2 (by first | exact h1 | simpa using h1))]
  ·have h1:=A2 ht
   have h2:¬(Q9 (s.drop i)=[]∨((s.drop i).head?=some 48∧1 < (Q9 (s.drop i)).length)∨2147483647 < B90 (Q9 (s.drop i))):=fun hh=>h1 (by first | exact hbad.1 hh | simpa using hbad.1 hh)
   refine k5 (k1 (k2 (A3 (A4 A0 A0 (A4 A0 A0 (A7 A0 A0 (A7 A0 A0 (A7 A0 A0 (A5 ?_)))))))));refine k1 (k10 (B8 (rs:=[E2 ((min (B90 ds) 2147483648:Nat):Int),E2 ((i+ds.length:Nat):Int),H1 true]) (ret3 A0 A0 A0 A0 A0 A0 A0) ?_))
   unfold numR C88
   rw [if_neg h2,←hds]
   have h3:B90 ds≤2147483647:=by
    rw [←hds] at h2
    by_cases hv:B90 ds≤2147483647
    ·exact hv
    ·exact absurd (.inr (.inr (by omega))) h2
   rw [show min (B90 ds) 2147483648=B90 ds by omega]
def octOk (c:UInt8):Prop:=48≤c.toNat∧c.toNat≤55
def H86 (s:Str) (i q:Nat):Prop:=i+q < s.length∧octOk (s.getD (i+q) 0)
instance (s:Str) (i q:Nat):Decidable (H86 s i q):=by unfold H86 octOk;exact inferInstance
set_option maxHeartbeats 1000000
set_option maxHeartbeats 1000000
theorem F92 (s p:Str):FnOk Tryz.prog 187 [H7 s,H7 p] (fun rs=>rs=[H1 (decide (s.take p.length=p))]):=by
 refine FnOk.intro Tryz.func187 (by decide) A0 A0 A0 A0 ?_
 refine k2 (A3 (A7 A0 A0 (A5 ?_)));refine k1 (k2 (A3 (A4 A0 A0 (A6 (J7 A0) A0 (A4 A0 A0 (A6 (J7 A0) A0 (A6 (V2 A0 A0) A0 (A4 A0 A0 (B5 A0 A0 A0 A0 (fun hg=>by rw [hg];exact C2 A0 A0) ?_)))))))));refine B5 A0 A0 A0 A0 (fun hg=>by rw [hg];exact C2 A0 A0) ?_;refine B5 A0 A0 A0 A0 (fun hg=>by rw [hg];exact J7 A0) ?_;refine B5 A0 A0 A0 A0 (fun hg=>by have hq:=hg;(try simp at hq);rw [hg];exact D22 A0 A0 (by omega) (by omega)) ?_;refine B5 A0 A0 A0 A0 (fun hg=>by rw [hg];exact C2 A0 A0) ?_;refine B5 A0 A0 A0 A0 (fun hg=>by rw [hg];exact O5 A0 A0) ?_;refine K7 A0 A0 ?_;refine A7 A0 A0 (A5 ?_)
 simp only [and_pick,L03]
 refine k1 (k10 (B8 (I1 A0 A0 A0) ?_))
 congr 4
 congr 1
 apply propext;constructor
 ·intro h;exact h.2
 ·intro h
  refine ⟨?_,h⟩
  have:=congrArg List.length h
  rw [L10] at this;omega
def cutP (s p:Str):List PV:=if s.take p.length=p then [H7 (s.drop p.length),H1 true] else [H7 s,H1 false]
theorem F93 (s p:Str):FnOk Tryz.prog 184 [H7 s,H7 p] (fun rs=>rs=cutP s p):=by
 refine FnOk.intro Tryz.func184 (by decide) A0 A0 A0 A0 ?_
 refine k2 (A3 (A7 A0 A0 (A7 A0 A0 (A5 ?_))));refine k1 (k2 (k2 (A3 (A4 A0 A0 (A4 A0 A0 (C9 (F92 s p) A0 A0 A0 ?_))))));rintro _ rfl;refine A6 (S2 A0) A0 (A5 ?_);refine k1 ?_;refine B1 rfl (fun ht=>?_) (fun ht=>?_)
 ·have h:¬s.take p.length=p:=by intro h;rw [decide_eq_true h] at ht;cases ht
  refine k2 (A3 (A4 A0 A0 (A7 A0 A0 (A7 A0 A0 (A5 ?_)))));refine k1 (k10 (k11 ?_))
  exact B8 (rs:=[H7 s,H1 false]) (a6 rfl rfl rfl rfl rfl) (by unfold cutP;rw [if_neg h])
 ·have h:s.take p.length=p:=by
   by_cases h:s.take p.length=p
   ·exact h
   ·rw [decide_eq_false h] at ht;cases ht
  have hl:p.length≤s.length:=by
   have:=congrArg List.length h
   rw [L10] at this;omega
  refine k5 (k1 (k2 (A3 (A4 A0 A0 (A4 A0 A0 (A6 (J7 A0) A0 (A6 (B44 A0 A0 (by omega) (by omega)) A0 (A7 A0 A0 (A7 A0 A0 (A5 ?_))))))))));refine k1 (k10 ?_)
  exact B8 (rs:=[H7 (s.drop p.length),H1 true]) (a6 rfl rfl rfl rfl rfl) (by unfold cutP;rw [if_pos h])
theorem G96 (s p:Str):FnOk Tryz.prog 179 [H7 s,H7 p] (fun rs=>rs=cutP s p):=by
 have hc:=F93 s p
 unfold cutP at hc ⊢
 by_cases h:s.take p.length=p
 ·rw [if_pos h] at hc ⊢
  refine FnOk.intro Tryz.func179 (by decide) A0 A0 A0 A0 ?_
  refine k2 (A3 (A7 A0 A0 (A7 A0 A0 (A5 ?_))));refine k1 (k2 (A3 (A4 A0 A0 (A4 A0 A0 (C9 (hc) A0 A0 A0 ?_)))));rintro _ rfl;refine E8 A0 A0 A0 (E8 A0 A0 A0 (A7 A0 A0 (A7 A0 A0 (A5 ?_))));refine k1 (k10 ?_)
  exact B8 (a6 rfl rfl rfl rfl rfl) rfl
 ·rw [if_neg h] at hc ⊢
  refine FnOk.intro Tryz.func179 (by decide) A0 A0 A0 A0 ?_
  refine k2 (A3 (A7 A0 A0 (A7 A0 A0 (A5 ?_))));refine k1 (k2 (A3 (A4 A0 A0 (A4 A0 A0 (C9 (hc) A0 A0 A0 ?_)))));rintro _ rfl;refine E8 A0 A0 A0 (E8 A0 A0 A0 (A7 A0 A0 (A7 A0 A0 (A5 ?_))));refine k1 (k10 ?_)
  exact B8 (a6 rfl rfl rfl rfl rfl) rfl
set_option maxHeartbeats 1000000
theorem K52 (z:Set4) (hz:T5 z) (n:Int) (h0:0≤n) (h1:n≤255):FnOk Tryz.prog 175 [W5 z,.one (.v (.int .u8 n))] (fun rs=>rs=[W5 (z.with_ n.toNat)]):=by
 have h2:=D40 z hz (UInt8.ofNat n.toNat)
 have h3:(UInt8.ofNat n.toNat).toNat=n.toNat:=by rw [UInt8.toNat_ofNat'];omega
 rw [h3] at h2
 have h4:((n.toNat:Nat):Int)=n:=by omega
 rwa [show pByte (UInt8.ofNat n.toNat)=.one (.v (.int .u8 n)) by show PV.one (.v (.int .u8 ((UInt8.ofNat n.toNat).toNat:Int)))=_;rw [h3,h4]] at h2
theorem u8_in {n:Int} (h0:0≤n) (h1:n≤255):IntKind.u8.wrap n=n:=by simp [IntKind.wrap,IntKind.signed,IntKind.bits];omega
theorem F26 (z:Set4) (hz:T5 z) (a b:UInt8) (hab:a.toNat≤b.toNat):FnOk Tryz.prog 182 [W5 z,pByte a,pByte b] (fun rs=>rs=[W5 (z.through a.toNat b.toNat)]):=by
 have ha:=a.toNat_lt
 have hb:=b.toNat_lt
 refine FnOk.intro Tryz.func182 (by decide) A0 A0 A0 A0 ?_
 refine k2 (A3 (D1 (s6 3 A0 A0 A0) A0 (D1 (J1 6 A0) A0 (A5 ?_))));refine k1 (k2 (k2 (A3 (A4 A0 A0 (A6 (B48 A0 (B95 (by omega))) A0 (A7 A0 A0 (A5 ?_)))))));refine k1 (k3 ?_);refine D2 (X:=Nat) (fun i=>([(2,.s (A34 b)),(3,.s (.one (.ref 3 0))),(6,.s (.one (.ref 6 0))),(7,C7 ((a.toNat:Int)+i))],[(3,.box [.p (.v (.int .u64 (V0 i a.toNat z).a)),.p (.v (.int .u64 (V0 i a.toNat z).b)),.p (.v (.int .u64 (V0 i a.toNat z).c)),.p (.v (.int .u64 (V0 i a.toNat z).d))]),(6,.box [.p (.v (.int .u64 0)),.p (.v (.int .u64 0)),.p (.v (.int .u64 0)),.p (.v (.int .u64 0))])])) (fun i=>i≤b.toNat+1 - a.toNat) (fun i=>b.toNat+1 - a.toNat - i) 0 (Nat.zero_le _) ?_ ?_
 ·rw [show (a.toNat:Int)+((0:Nat):Int)=(a.toNat:Int) by omega]
  exact Sees.of ⟨le1 rfl,le1 rfl,le1 rfl,le1 rfl,trivial⟩ ⟨rfl,rfl,trivial⟩
 intro i hi
 dsimp only at hi ⊢
 have hg:=A67 i a.toNat hz
 have hsn:=C28 i a.toNat z
 obtain ⟨w,hw⟩:∃w,w=V0 i a.toNat z:=⟨_,rfl⟩
 rw [←hw] at hg hsn ⊢
 refine k2 (k2 (A3 (A4 A0 A0 (A4 A0 A0 (A6 (B48 A0 (B95 (by omega))) A0 (A6 (B81 A0 A0) A0 (A5 ?_)))))));refine k1 ?_;refine B1 rfl (fun ht=>?_) (fun ht=>?_)
 ·have hle:=A1 ht
  have e1:((a.toNat:Int)+(i:Int)).toNat=a.toNat+i:=by omega
  refine k5 (k1 (k2 (k3 (A3 (A6 (J5 A0 A0 A0) A0 (A4 A0 A0 (A6 (B48 A0 (u8_in (by omega) (by omega))) A0 (C9 (K52 w hg ((a.toNat:Int)+(i:Int)) (by omega) (by omega)) A0 A0 A0 ?_))))))));rintro _ rfl;refine G1 (B9 TySz.out A0 A0 A0 A0 A0 A0) (A5 ?_)
  rw [e1,←hsn]
  refine k4 (k1 (A3 (A4 A0 A0 (E3 A0 A0 A0 (A7 A0 A0 (A5 ?_))))));refine k1 ?_;refine ⟨i+1,by omega,by omega,?_⟩
  rw [show (a.toNat:Int)+((i+1:Nat):Int)=(a.toNat:Int)+(i:Int)+1 by omega]
  exact Sees.of ⟨le1 rfl,le1 rfl,le1 rfl,le1 rfl,trivial⟩ ⟨rfl,rfl,trivial⟩
 have hie:i=b.toNat+1 - a.toNat:=by have:=A2 ht;omega
 have hfin:w=z.through a.toNat b.toNat:=by rw [hw,hie];rfl
 rw [hfin]
 refine k6 (k2 (A3 (A6 (J5 A0 A0 A0) A0 (G1 (B9 TySz.out A0 A0 A0 A0 A0 A0) (A5 ?_)))));refine k1 (k10 ?_)
 exact B8 (rs:=[W5 (z.through a.toNat b.toNat)]) (retc rfl rfl rfl rfl rfl) rfl
theorem G97 (s nd:Str) (hs:s.length < 4294967281):FnOk Tryz.prog 115 [H7 s,H7 nd] (fun rs=>rs=[E2 (Lib.index s nd)]) :=
 K85 (xs:=[.string ⟨s.toArray⟩,.string ⟨nd.toArray⟩]) ⟨_,rfl,rfl,rfl⟩ rfl fun w hg=>by
  obtain ⟨m,hm⟩:=E20 hg
  refine (Tryz.stringslite_Index ⟨s.toArray⟩ ⟨nd.toArray⟩ m w hs hm).mono ?_
  rintro e w' ⟨rfl,rfl⟩
  exact ⟨by simp,rfl,rfl,rfl,Nat.le_refl _,fun _ _=>rfl⟩
theorem I86 {P:Program} {fn:Func} {fr:Fr} {ob:Obs} {t:Tmp} {k n:Nat} {tt:TypeId} {ts:List TC} [hty:TyAgg P tt n] (hr:fn.results=#[.cell t tt]) (ht:c9 fr t=some (.s (.one (.ref k 0)))) (hk:C1 ob k=some (.box ts)) (hn:ts.length=n):RetS P fn fr ob [.agg ts]:=by
 unfold RetS
 intro S G a w h
 obtain ⟨b,hg,hu⟩:=h.slot ht
 obtain ⟨b',vs,tt',hg',hh,ha⟩:=h.box hk
 rw [hg] at hg';cases hg'
 have h2:(loadVar tt ⟨b,0,none⟩).run P w=.ok (.agg (List.toArray vs)) w:=Z4 (ht:=hty) (by rw [←ha.length,hn]) (fun j z hz=>by rw [Nat.zero_add];exact O6 hh (by simpa using hz))
 rw [Array.getD_eq_getD_getElem?] at hu
 exact ⟨_,by simp [results,hr,hu,asAddr,h2],⟨vs,rfl,ha⟩⟩
set_option maxHeartbeats 1000000
structure KOk (K:List Nat):Prop where
 h811:G4 K 811=true
 h810:G4 K 810=false
theorem D02 {a b:Nat} (h:a≠b):Nat.beq a b=false:=W6 h
structure ZOk (K:List Nat) (Z ob:Obs):Prop where
 k8:KOk K
 sub:∀k o,C1 Z k=some o→C1 ob k=some o
 key:∀k o,C1 Z k=some o→k≠810∧G4 K k=false
 free:∀k o,C1 Z k=some o→∀j,G4 K j=true→o.free j=true
theorem ZOk.none {K:List Nat} {Z ob:Obs} (h:ZOk K Z ob) {k:Nat} (hk:k=810∨G4 K k=true):C1 Z k=none:=by
 cases hz:C1 Z k with
 | none=>rfl
 | some o =>
  obtain ⟨h1,h2⟩:=h.key k o hz
  rcases hk with hk | hk
  ·exact absurd hk h1
  ·rw [h2] at hk;cases hk
theorem ZOk.cons {K:List Nat} {Z ob:Obs} (h:ZOk K Z ob) {i:Nat} {x:Ob} (hi:i=810∨G4 K i=true):ZOk K Z ((i,x)::ob) where
 k8:=h.k8
 sub:=fun k o hz=>by
  have hne:i≠k:=fun e=>by
   subst e
   rw [h.none hi] at hz;cases hz
  rw [B4 hne]
  exact h.sub k o hz
 key:=h.key
 free:=h.free
theorem ZOk.consZ {K:List Nat} {Z ob:Obs} (h:ZOk K Z ob) {i:Nat} {x:Ob} (hi:C1 Z i=Option.none):ZOk K Z ((i,x)::ob) where
 k8:=h.k8
 sub:=fun k o hz=>by
  have hne:i≠k:=fun e=>by
   subst e
   rw [hi] at hz;cases hz
  rw [B4 hne]
  exact h.sub k o hz
 key:=h.key
 free:=h.free
theorem ZOk.self {K:List Nat} {Z ob:Obs} (h:ZOk K Z ob):ZOk K Z Z:=⟨h.k8,fun _ _ h=>h,h.key,h.free⟩
theorem ZOk.own {K:List Nat} {Z ob:Obs} (h:ZOk K Z ob) {i:Nat} {x:Ob} (hi:i≠810∧G4 K i=false) (hx:∀j,G4 K j=true→x.free j=true) (hg:C1 ob i=some x):ZOk K ((i,x)::Z) ob where
 k8:=h.k8
 sub:=fun k o hz=>by
  by_cases e:i=k
  ·subst e;rw [C4] at hz;cases hz;exact hg
  ·rw [B4 e] at hz;exact h.sub k o hz
 key:=fun k o hz=>by
  by_cases e:i=k
  ·subst e;exact hi
  ·rw [B4 e] at hz;exact h.key k o hz
 free:=fun k o hz=>by
  by_cases e:i=k
  ·subst e;rw [C4] at hz;cases hz;exact hx
  ·rw [B4 e] at hz;exact h.free k o hz
theorem ZOk.less {J K:List Nat} {Z ob:Obs} (h:ZOk K Z ob) (hJ:KOk J) (hm:∀k,G4 J k=true→G4 K k=true):ZOk J Z ob where
 k8:=hJ
 sub:=h.sub
 key:=fun k o hz=>by
  obtain ⟨h1,h2⟩:=h.key k o hz
  refine ⟨h1,?_⟩
  cases hj:G4 J k
  ·rfl
  ·rw [hm k hj] at h2;cases h2
 free:=fun k o hz j hj=>h.free k o hz j (hm j hj)
abbrev PObs (s:Str) (st:PSt) (Z:Obs):Obs:=(810,C56 s st.at_ st.depth)::(811,C11 st.nodes)::Z
structure PIn (K:List Nat) (s:Str) (st:PSt) (Z ob:Obs):Prop where
 h0:C1 ob 810=some (C56 s st.at_ st.depth)
 h1:C1 ob 811=some (C11 st.nodes)
 z:ZOk K Z ob
abbrev eT:TypeId:=30
abbrev postP {α:Type} (s:Str) (R:Ps α) (sv:α→List S1) (Z:Obs):List S1→Obs→Prop:=fun rs ob'=>∃st' v,R=.ok (st',v)∧rs=sv v∧ob'=PObs s st' Z
abbrev panP {α:Type} (R:Ps α) (Z:Obs):Int→Obs→Prop:=fun e ob'=>R=.error e∧ob'=Z
def PX {α:Type} (f:FuncId) (args:List S1) (K:List Nat) (s:Str) (st:PSt) (R:Ps α) (sv:α→List S1):Prop :=
 ∀(gf:Fr) (ob Z:Obs),PIn K s st Z ob→MetX Tryz.prog eT f args gf ob K (postP s R sv Z) (panP R Z)
structure SOk (s:Str) (st:PSt):Prop where
 len:s.length≤256
 at_:st.at_≤s.length
 nds:st.nodes.length≤st.at_+2
theorem SOk.gr {s:Str} {a b:Nat} {x y:PSt} (h:SOk s x) (g:Gr s a b x y) (hb:b≤a):SOk s y:=⟨h.len,g.len,by have:=h.nds;have:=g.cnt;have:=g.at_;omega⟩
abbrev B14:Int→List S1:=fun n=>[R5 n]
theorem PIn.start {K:List Nat} {s:Str} {st:PSt} {Z:Obs} (h:ZOk K Z Z):PIn K s st Z (PObs s st Z) :=
 ⟨rfl,rfl,(h.cons (i:=811) (.inr h.k8.h811)).cons (i:=810) (.inl rfl)⟩
theorem l4 {K:List Nat} {s:Str} {st:PSt} {Z ob:Obs} (hI:PIn K s st Z ob) {nt:Nat} {fr l gf:Fr} (hl:FrLe fr l) (hH:High gf) (ht:Tail gf fr):Sees Tryz.prog nt fr ob (l++C0 K gf) (PObs s st Z) :=
 K98 K hl hH ht fun k o hk=>by
  by_cases e0:810=k
  ·subst e0;rw [C4] at hk;cases hk;exact hI.h0
  rw [B4 e0] at hk
  by_cases e1:811=k
  ·subst e1;rw [C4] at hk;cases hk;exact hI.h1
  rw [B4 e1] at hk
  exact hI.z.sub k o hk
theorem M1 {K:List Nat}:∀k,G4 K k=true→G4 K k=true:=fun _ h=>h
theorem M2 {ks:List Nat} {s:SV} (h:ks.all (fun k=>s.free k)=true):∀k,G4 ks k=true→s.free k=true:=fun k hk=>List.all_eq_true.1 h k (hasN_iff.1 hk)
theorem R6 {ks K:List Nat} (h:ks.all (G4 K)=true):∀k,G4 ks k=true→G4 K k=true:=fun k hk=>List.all_eq_true.1 h k (hasN_iff.1 hk)
theorem J6 {K:List Nat} (hK:KOk K):∀k,G4 K k=true→(SV.s L9).free k=true:=fun k hk=>by
 show (!Nat.beq 810 k)=true
 rw [D02 (fun e=>by rw [←e,hK.h810] at hk;cases hk)];rfl
theorem M3 {K:List Nat} (hK:KOk K) {f:Nat}:∀k,G4 K k=true→(SV.s (.one (.clo f [(810,0)] []))).free k=true:=fun k hk=>by
 show (!(A74 k [(810,0)]||A74 k []))=true
 have h:810≠k:=fun e=>by rw [←e,hK.h810] at hk;cases hk
 simp [A74,D02 h]
theorem O8 {K:List Nat} {s:Str} {st:PSt} {Z cur:Obs} (hI:PIn K s st Z cur):∀k o,C1 (PObs s st Z) k=some o→C1 cur k=some o:=fun k o hk=>by
 by_cases e0:810=k
 ·subst e0;rw [C4] at hk;cases hk;exact hI.h0
 rw [B4 e0] at hk
 by_cases e1:811=k
 ·subst e1;rw [C4] at hk;cases hk;exact hI.h1
 rw [B4 e1] at hk
 exact hI.z.sub k o hk
theorem ZOk.pin {K:List Nat} {s:Str} {st:PSt} {Z:Obs} (h:ZOk K Z Z):ZOk K Z (PObs s st Z):=(h.cons (i:=811) (.inr h.k8.h811)).cons (i:=810) (.inl rfl)
theorem ZOk.pobs {K:List Nat} {s:Str} {st:PSt} {Z:Obs} (h:ZOk K Z Z):∀k o,C1 Z k=some o→C1 (PObs s st Z) k=some o:=((h.cons (i:=811) (.inr h.k8.h811)).cons (i:=810) (.inl rfl)).sub
theorem MetX.ofMet {α:Type} {f:FuncId} {args:List S1} {gf:Fr} {ob Z:Obs} {K:List Nat} {ks:List Nat} {s:Str} {st':PSt} {v:α} {sv:α→List S1} {mp:List S1→Obs→Prop} (h:AL.Met Tryz.prog f args gf ob ks mp) (hk:∀k,G4 ks k=true→G4 K k=true)
  (hp:∀rs ob',mp rs ob'→rs=sv v∧PIn K s st' Z ob'):MetX Tryz.prog eT f args gf ob K (postP s (.ok (st',v):Ps α) sv Z) (panP (.ok (st',v):Ps α) Z) :=
 AL.Met.toX ((AL.Met.more h hk).conv fun rs ob' hm=>by
  obtain ⟨h1,h2⟩:=hp rs ob' hm
  exact ⟨PObs s st' Z,⟨st',v,rfl,h1,rfl⟩,O8 h2⟩)
theorem H87 {s:Str} {st:PSt} {e:Int} (h:B86 s st=.error e):s[st.at_]?=none∧e=40:=by
 unfold B86 at h
 cases hv:s[st.at_]? with
 | none=>rw [hv] at h;cases h;exact ⟨rfl,rfl⟩
 | some c=>rw [hv] at h;cases h
theorem G98 {K:List Nat} {s:Str} {st:PSt} (hs:SOk s st):PX 176 [L9] K s st (B86 s st) (fun c=>[A34 c]):=by
 intro gf ob Z hI
 have hz:=hI.z.self
 have hI1:=PIn.start (s:=s) (st:=st) hz
 have hlen:=hs.len
 refine MetX.introH Tryz.func176 (by decide) rfl rfl rfl (fun hH=>?_)
 refine D3 (l4 (l:=[(0,.s L9)]) hI ⟨le1 rfl,trivial⟩ hH (by repeat (first | exact A8 | refine A9 rfl ?_))) ?_
 refine k2 (A3 (A7 A0 A0 (A5 ?_)));refine k1 (k2 (A3 (A4 A0 A0 (L4 (B32 s st.at_ st.depth hs.at_ (by omega) A0) A0 A0 A0 ?_))));rintro _ _ ⟨rfl,rfl⟩;refine A4 A0 A0 (E8 A0 A0 A0 (E8 A0 A0 A0 (A7 A0 A0 (A7 A0 A0 (A5 ?_)))));refine k1 (k2 (k2 (A3 (A4 A0 A0 (A6 (S2 A0) A0 (A5 ?_))))));refine k1 ?_
 by_cases h:st.at_ < s.length
 ·have hv:s[st.at_]?=some (s.getD st.at_ 0):=by rw [L07,L01 h];rfl
  rw [decide_eq_true h]
  refine B1 rfl (fun ht=>?_) (fun ht=>?_)
  ·cases ht
  refine k5 (k1 (k2 (A3 (A4 A0 A0 (A6 (B2 A0) A0 (A6 (B0 A0) A0 (G3 A0 A0 A0 A0 (E3 A0 A0 A0 (A6 (B2 A0) A0 (A6 (B0 A0) A0 (G1 (B9 TySz.out A0 A0 A0 A0 A0 A0) (A5 ?_))))))))))));refine k1 (k2 (A3 (A4 A0 A0 (A7 A0 A0 (A5 ?_)))));refine k1 (k10 ?_)
  exact J3 (I8 rfl rfl) (by repeat (first | exact A8 | refine A9 rfl ?_)) (O8 (st:=st.skip 1) ⟨rfl,rfl,hI1.z.cons (.inl rfl)⟩) ⟨st.skip 1,s.getD st.at_ 0,by unfold B86;rw [hv],rfl,rfl⟩
 ·have hv:s[st.at_]?=none:=L18 (by omega)
  rw [decide_eq_false h]
  refine B1 rfl (fun ht=>?_) (fun ht=>?_)
  ·skip
   refine A3 (A6 (J4 A0 (by kernel_rfl)) A0 (P1 A0 ?_))
   exact I2 (by repeat (first | exact A8 | refine A9 rfl ?_)) hI1.z.sub ⟨by unfold B86;rw [hv],rfl⟩
  ·cases ht
set_option maxHeartbeats 1000000
theorem G30 {K:List Nat} {s:Str} {st:PSt} (hs:SOk s st):PX 177 [L9] K s st (D68 s K5 st) B14:=by
 intro gf ob Z hI
 have hz:=hI.z.self
 have hlen:=hs.len
 have hN:=I85 s st.at_ hs.at_ (by omega)
 refine MetX.introH Tryz.func177 (by decide) rfl rfl rfl (fun hH=>?_)
 refine D3 (l4 (l:=[(0,.s L9)]) hI ⟨le1 rfl,trivial⟩ hH (by repeat (first | exact A8 | refine A9 rfl ?_))) ?_
 refine k2 (A3 (A7 A0 A0 (A5 ?_)));refine k1 (k2 ?_)
 cases hn:C88 (s.drop st.at_) with
 | none =>
  have hR:D68 s K5 st=.error 40:=by unfold D68 K5;rw [hn];rfl
  rw [show numR s st.at_=[E2 0,E2 0,H1 false] by unfold numR;rw [hn]] at hN
  refine E7 (by kernel_rfl) (by kernel_rfl) (E9 A0 A0 (B7 (B2 A0) A0 A0 (B7 (B0 A0) A0 A0 (B7 (C5 A0 A0 A0) A0 A0 (E9 A0 A0 (B7 (B2 A0) A0 A0 (B7 (B0 A0) A0 A0 (B7 (C5 A0 A0 A0) A0 A0 (B7 (O7 (hN) A0 A0) A0 A0 (E9 A0 A0 (B7 (N2 A0 A0) A0 A0 (B7 (N2 A0 A0) A0 A0 (B7 (N2 A0 A0) A0 A0 (B7 (H5 A0 A0) A0 A0 (B7 (H5 A0 A0) A0 A0 (B7 (H5 A0 A0) A0 A0 (Q6 ?_)))))))))))))))));refine k1 (k2 (k2 (A3 (A4 A0 A0 (A6 (S2 A0) A0 (A4 A0 A0 (B5 A0 A0 A0 A0 (fun hg=>by rw [hg];exact C2 A0 A0) ?_)))))));refine B5 A0 A0 A0 A0 (fun hg=>by rw [hg];exact O1 A0 A0) ?_;refine K7 A0 A0 ?_;refine A5 ?_;refine k1 ?_;refine B1 rfl (fun ht=>?_) (fun ht=>?_)
  ·skip
   refine A3 (A6 (J4 A0 (by kernel_rfl)) A0 (P1 A0 ?_))
   exact I2 (by repeat (first | exact A8 | refine A9 rfl ?_)) hz.pobs ⟨hR,rfl⟩
  ·cases ht
 | some p =>
  obtain ⟨m,k⟩:=p
  have hF:K5 s st.at_=some ((m:Int),st.at_+k):=by unfold K5;rw [hn];rfl
  rw [show numR s st.at_=[E2 m,E2 ((st.at_+k:Nat):Int),H1 true] by unfold numR;rw [hn]] at hN
  refine E7 (by kernel_rfl) (by kernel_rfl) (E9 A0 A0 (B7 (B2 A0) A0 A0 (B7 (B0 A0) A0 A0 (B7 (C5 A0 A0 A0) A0 A0 (E9 A0 A0 (B7 (B2 A0) A0 A0 (B7 (B0 A0) A0 A0 (B7 (C5 A0 A0 A0) A0 A0 (B7 (O7 (hN) A0 A0) A0 A0 (E9 A0 A0 (B7 (N2 A0 A0) A0 A0 (B7 (N2 A0 A0) A0 A0 (B7 (N2 A0 A0) A0 A0 (B7 (H5 A0 A0) A0 A0 (B7 (H5 A0 A0) A0 A0 (B7 (H5 A0 A0) A0 A0 (Q6 ?_)))))))))))))))));refine k1 (k2 (k2 (A3 (A4 A0 A0 (A6 (S2 A0) A0 (A4 A0 A0 (B5 A0 A0 A0 A0 (fun hg=>by rw [hg];exact C2 A0 A0) ?_)))))));refine B5 A0 A0 A0 A0 (fun hg=>by rw [hg];exact O1 A0 A0) ?_;refine K7 A0 A0 ?_;refine A5 ?_;refine k1 ?_;refine B1 rfl (fun ht=>?_) (fun ht=>?_)
  ·have hm:(m:Int) > 100:=A1 ht
   skip
   refine A3 (A6 (J4 A0 (by kernel_rfl)) A0 (P1 A0 ?_))
   exact I2 (by repeat (first | exact A8 | refine A9 rfl ?_)) hz.pobs ⟨by unfold D68;rw [hF];exact if_pos hm,rfl⟩
  ·have hm:¬(m:Int) > 100:=A2 ht
   refine k5 (k1 (k2 (A3 (A4 A0 A0 (A4 A0 A0 (A6 (B2 A0) A0 (A6 (B0 A0) A0 (G1 (B9 TySz.out A0 A0 A0 A0 A0 A0) (A5 ?_)))))))));refine k1 (k2 (A3 (A4 A0 A0 (A7 A0 A0 (A5 ?_)))));refine k1 (k10 ?_)
   exact J3 (I8 rfl rfl) (by repeat (first | exact A8 | refine A9 rfl ?_)) (O8 (K:=K) (st:={ st with at_:=st.at_+k }) ⟨rfl,rfl,by repeat (first | exact hz | refine ZOk.cons ?_ (.inl rfl) | refine ZOk.cons ?_ (.inr hz.k8.h811))⟩) ⟨{ st with at_:=st.at_+k },(m:Int),by unfold D68;rw [hF];exact if_neg hm,rfl,rfl⟩
def C57 (s:Str) (least:Int) (st:PSt) (most:Int):Ps (Int × Int):=if U4 s 125 st=false∨(0≤most∧most < least) then .error 40 else .ok (st.skip 1,(least,most))
theorem t8 (b:Bool) {most least:Int}:(if (!b)=true then true else if decide (0≤most)=true then decide (most < least) else false)=decide (b=false∨(0≤most∧most < least)):=by
 cases b<;>by_cases h1:0≤most<;>by_cases h2:most < least<;>simp [h1,h2]
theorem J94 {c:UInt8} (h:¬c=125):(if true=true then decide (¬(c.toNat:Int)=125) else false)=true:=by
 rw [if_pos rfl]
 exact decide_eq_true fun e=>h (UInt8.toNat_inj.1 (by have:(125:UInt8).toNat=125:=rfl;omega))
theorem J95 {K:List Nat} {s:Str} {st:PSt} (hs:SOk s st):PX 164 [L9] K s st (j7 s K5 st) (fun b=>[R5 b.1,R5 b.2]):=by
 intro gf ob Z hI
 have hz:=hI.z.self
 have hlen:=hs.len
 refine MetX.introH Tryz.func164 (by decide) rfl rfl rfl (fun hH=>?_)
 refine D3 (l4 (l:=[(0,.s L9)]) hI ⟨le1 rfl,trivial⟩ hH (by repeat (first | exact A8 | refine A9 rfl ?_))) ?_
 refine k2 (A3 (A7 A0 A0 (A7 A0 A0 (A5 ?_))));refine k1 (k2 (A3 (A4 A0 A0 ?_)));refine M7 (G30 (K:=K) hs _ _ Z ⟨rfl,rfl,by repeat (first | exact hz | refine ZOk.cons ?_ (.inl rfl) | refine ZOk.cons ?_ (.inr hz.k8.h811))⟩) (by repeat (first | exact FreeKs.nil | exact FreeKs.gf M1 | exact FreeKs.gf (R6 rfl) | exact FreeKs.gf (O9 hzK.k8) | exact FreeKs.gf hsub | refine FreeKs.cons (fun _ _=>rfl) ?_ | refine FreeKs.cons (J6 hz.k8) ?_ | refine FreeKs.cons (M3 hz.k8) ?_ | refine FreeKs.cons ks_own ?_ | refine FreeKs.cons (M2 rfl) ?_)) rfl rfl rfl ?_ ?_
 ·(rintro e ob' ⟨hR1,rfl⟩;exact I2 (by repeat (first | exact A8 | refine A9 rfl ?_)) (fun _ _ h=>h) ⟨by unfold j7;rw [hR1],rfl⟩)
 rintro _ _ ⟨st1,least,hR1,rfl,rfl⟩;refine A7 A0 A0 (A5 ?_)
 obtain ⟨g1,l1,l2⟩:=H31 hs.at_ hR1
 have hs1:=hs.gr g1 (by omega)
 have hB0:j7 s K5 st=if U4 s 44 st1=true then (match s[(st1.skip 1).at_]? with
   | none=>C57 s least (st1.skip 1) (-1)
   | some c=>if c=125 then C57 s least (st1.skip 1) (-1) else match D68 s K5 (st1.skip 1) with
    | .error e=>.error e
    | .ok (st3,most)=>C57 s least st3 most) else C57 s least st1 least:=by unfold j7;rw [hR1];rfl
 refine k1 (k2 (A3 (A4 A0 A0 (A7 A0 A0 (A5 ?_)))));refine k1 (k2 (k2 (A3 (A4 A0 A0 (L4 (n4 s st1.at_ st1.depth 44 hs1.at_ (by omega) A0) A0 A0 A0 ?_)))));rintro _ _ ⟨rfl,rfl⟩;refine A5 ?_;refine k1 ?_
 by_cases h44:s[st1.at_]?=some 44
 ·rw [decide_eq_true h44,if_pos h44]
  have hc:U4 s 44 st1=true:=decide_eq_true h44
  have g2:=O0 (s:=s) (x:=st1) 1 (l5 hc)
  have hs2:=hs1.gr g2 (by omega)
  obtain ⟨st2,hst2⟩:∃st2,st2=st1.skip 1:=⟨_,rfl⟩
  rw [if_pos hc,←hst2] at hB0
  rw [←hst2] at hs2
  refine B1 rfl (fun ht=>?_) (fun ht=>?_)
  rotate_left
  ·cases ht
  refine D3 (fr':=[(0,.s L9),(2,C7 least),(3,C7 least)]++C0 K gf) (ob':=PObs s st2 Z) (K76 ⟨le1 rfl,le1 rfl,le1 rfl,trivial⟩ (C6 hH) (by repeat (first | exact A8 | refine A9 rfl ?_)) (O8 (K:=K) ⟨by rw [hst2];rfl,by rw [hst2];rfl,(hz.pin).cons (.inl rfl)⟩)) ?_
  refine k2 (A3 (A7 A0 A0 (A5 ?_)));refine k1 (k2 (A3 (A4 A0 A0 (L4 (B32 s st2.at_ st2.depth hs2.at_ (by omega) A0) A0 A0 A0 ?_))));rintro _ _ ⟨rfl,rfl⟩;refine A4 A0 A0 (E8 A0 A0 A0 (E8 A0 A0 A0 (A7 A0 A0 (A7 A0 A0 (A5 ?_)))));refine k1 (k2 (A3 (A4 A0 A0 (A4 A0 A0 (B5 A0 A0 A0 A0 (fun hg=>by rw [hg];exact C2 A0 A0) ?_)))));refine B5 A0 A0 A0 A0 (fun hg=>by rw [hg];exact O2 A0 A0) ?_;refine K7 A0 A0 ?_;refine A5 ?_;refine k1 ?_
  by_cases hmore:st2.at_ < s.length∧¬s.getD st2.at_ 0=125
  ·obtain ⟨hm1,hm2⟩:=hmore
   have hv:s[st2.at_]?=some (s.getD st2.at_ 0):=by rw [L07,L01 hm1];rfl
   rw [hv] at hB0
   dsimp only at hB0
   rw [if_neg hm2] at hB0
   refine B1 rfl (fun ht=>?_) (fun ht=>?_)
   rotate_left
   ·exfalso
    rw [decide_eq_true hm1,J94 hm2] at ht
    cases ht
   skip
   refine D3 (fr':=[(0,.s L9),(2,C7 least)]++C0 K gf) (ob':=PObs s st2 Z) (K76 ⟨le1 rfl,le1 rfl,trivial⟩ (C6 hH) (by repeat (first | exact A8 | refine A9 rfl ?_)) (O8 (K:=K) ⟨rfl,rfl,by repeat (first | exact hz | refine ZOk.cons ?_ (.inl rfl) | refine ZOk.cons ?_ (.inr hz.k8.h811))⟩)) ?_
   refine A3 (A4 A0 A0 ?_);refine M7 (G30 (K:=K) hs2 _ _ Z ⟨rfl,rfl,by repeat (first | exact hz | refine ZOk.cons ?_ (.inl rfl) | refine ZOk.cons ?_ (.inr hz.k8.h811))⟩) (by repeat (first | exact FreeKs.nil | exact FreeKs.gf M1 | exact FreeKs.gf (R6 rfl) | exact FreeKs.gf (O9 hzK.k8) | exact FreeKs.gf hsub | refine FreeKs.cons (fun _ _=>rfl) ?_ | refine FreeKs.cons (J6 hz.k8) ?_ | refine FreeKs.cons (M3 hz.k8) ?_ | refine FreeKs.cons ks_own ?_ | refine FreeKs.cons (M2 rfl) ?_)) rfl rfl rfl ?_ ?_
   ·(rintro e ob' ⟨hR3,rfl⟩;exact I2 (by repeat (first | exact A8 | refine A9 rfl ?_)) (fun _ _ h=>h) ⟨by rw [hB0,hR3],rfl⟩)
   rintro _ _ ⟨st3,most,hR3,rfl,rfl⟩;refine A7 A0 A0 (A5 ?_)
   obtain ⟨g3,m1,m2⟩:=H31 hs2.at_ hR3
   have hs2:=hs2.gr g3 (by omega)
   have hB:j7 s K5 st=C57 s least st3 most:=by rw [hB0,hR3]
   refine k1 (k2 (k2 (A3 (A4 A0 A0 (L4 (n4 s st3.at_ st3.depth 125 hs2.at_ (by omega) A0) A0 A0 A0 ?_)))));rintro _ _ ⟨rfl,rfl⟩;refine A6 (S2 A0) A0 (A4 A0 A0 (B5 A0 A0 A0 A0 (fun hg=>by rw [hg];exact C2 A0 A0) ?_));refine B5 A0 A0 A0 A0 (fun hg=>by rw [hg];exact V2 A0 A0) ?_;refine B5 A0 A0 A0 A0 (fun hg=>by rw [hg];exact C2 A0 A0) ?_;refine N0 A0 A0 A0 (.gd (.val _)) A0 (fun hg=>by obtain ⟨hg1,hg2⟩:=X5 hg;(try rw [hg1]);(try rw [hg2]);exact C2 A0 A0) ?_;refine N0 A0 A0 A0 (.gd (.val _)) A0 (fun hg=>by obtain ⟨hg1,hg2⟩:=X5 hg;(try rw [hg1]);(try rw [hg2]);exact C2 A0 A0) ?_;refine N0 A0 A0 A0 (.gd (.val _)) A0 (fun hg=>by obtain ⟨hg1,hg2⟩:=X5 hg;(try rw [hg1]);(try rw [hg2]);exact A75 A0 A0) ?_;refine B5 A0 A0 A0 A0 (fun hg=>by rw [hg];exact L8 A0 (fun h=>by first | rfl | (rw [h];rfl)) (fun h=>by first | rfl | (rw [h];rfl))) ?_;refine K7 A0 A0 ?_;refine A5 ?_;refine k1 ?_
   by_cases h125:s[st3.at_]?=some 125
   ·rw [decide_eq_true h125,if_pos h125]
    have hh:U4 s 125 st3=true:=decide_eq_true h125
    refine B1 rfl (fun ht=>?_) (fun ht=>?_)
    ·have hbad:0≤most∧most < least:=by
      rw [t8 true] at ht
      rcases A1 ht with h | h
      ·cases h
      ·exact h
     skip
     refine A3 (A6 (J4 A0 (by kernel_rfl)) A0 (P1 A0 ?_))
     exact I2 (by repeat (first | exact A8 | refine A9 rfl ?_)) (ZOk.sub (K:=K) (by repeat (first | exact hz | refine ZOk.cons ?_ (.inl rfl) | refine ZOk.cons ?_ (.inr hz.k8.h811)))) ⟨by rw [hB,C57,if_pos (.inr hbad)],rfl⟩
    ·have hok:¬(U4 s 125 st3=false∨(0≤most∧most < least)):=by
      rw [t8 true] at ht
      rw [hh]
      exact A2 ht
     refine k5 (k1 (k2 (A3 (A4 A0 A0 (A4 A0 A0 (A7 A0 A0 (A7 A0 A0 (A5 ?_))))))));refine k1 (k10 ?_)
     exact J3 (E86 rfl rfl rfl) (by repeat (first | exact A8 | refine A9 rfl ?_)) (O8 (K:=K) (st:=st3.skip 1) ⟨rfl,rfl,by repeat (first | exact hz | refine ZOk.cons ?_ (.inl rfl) | refine ZOk.cons ?_ (.inr hz.k8.h811))⟩) ⟨st3.skip 1,(least,most),by rw [hB,C57,if_neg hok],rfl,rfl⟩
   ·rw [decide_eq_false h125,if_neg h125]
    have hh:U4 s 125 st3=false:=decide_eq_false h125
    refine B1 rfl (fun ht=>?_) (fun ht=>?_)
    ·skip
     refine A3 (A6 (J4 A0 (by kernel_rfl)) A0 (P1 A0 ?_))
     exact I2 (by repeat (first | exact A8 | refine A9 rfl ?_)) (ZOk.sub (K:=K) (by repeat (first | exact hz | refine ZOk.cons ?_ (.inl rfl) | refine ZOk.cons ?_ (.inr hz.k8.h811)))) ⟨by rw [hB,C57,if_pos (.inl hh)],rfl⟩
    ·rw [t8 false] at ht
     exact absurd (.inl rfl) (A2 ht)
  ·have hB:j7 s K5 st=C57 s least st2 (-1):=by
    rw [hB0]
    by_cases hm1:st2.at_ < s.length
    ·have hv:s[st2.at_]?=some (s.getD st2.at_ 0):=by rw [L07,L01 hm1];rfl
     rw [hv]
     exact if_pos (Decidable.not_not.1 fun h=>hmore ⟨hm1,h⟩)
    ·rw [L18 (by omega)]
   refine B1 rfl (fun ht=>?_) (fun ht=>?_)
   ·exfalso
    by_cases hm1:st2.at_ < s.length
    ·have h125:s.getD st2.at_ 0=125:=Decidable.not_not.1 fun h=>hmore ⟨hm1,h⟩
     rw [decide_eq_true hm1,h125] at ht
     cases ht
    ·rw [decide_eq_false hm1] at ht
     cases ht
   refine k5 (k1 (k2 (k2 (A3 (A4 A0 A0 (L4 (n4 s st2.at_ st2.depth 125 hs2.at_ (by omega) A0) A0 A0 A0 ?_))))));rintro _ _ ⟨rfl,rfl⟩;refine A6 (S2 A0) A0 (A4 A0 A0 (B5 A0 A0 A0 A0 (fun hg=>by rw [hg];exact C2 A0 A0) ?_));refine B5 A0 A0 A0 A0 (fun hg=>by rw [hg];exact V2 A0 A0) ?_;refine B5 A0 A0 A0 A0 (fun hg=>by rw [hg];exact C2 A0 A0) ?_;refine N0 A0 A0 A0 (.gd (.val _)) A0 (fun hg=>by obtain ⟨hg1,hg2⟩:=X5 hg;(try rw [hg1]);(try rw [hg2]);exact C2 A0 A0) ?_;refine N0 A0 A0 A0 (.gd (.val _)) A0 (fun hg=>by obtain ⟨hg1,hg2⟩:=X5 hg;(try rw [hg1]);(try rw [hg2]);exact C2 A0 A0) ?_;refine N0 A0 A0 A0 (.gd (.val _)) A0 (fun hg=>by obtain ⟨hg1,hg2⟩:=X5 hg;(try rw [hg1]);(try rw [hg2]);exact A75 A0 A0) ?_;refine B5 A0 A0 A0 A0 (fun hg=>by rw [hg];exact L8 A0 (fun h=>by first | rfl | (rw [h];rfl)) (fun h=>by first | rfl | (rw [h];rfl))) ?_;refine K7 A0 A0 ?_;refine A5 ?_;refine k1 ?_
   by_cases h125:s[st2.at_]?=some 125
   ·rw [decide_eq_true h125,if_pos h125]
    have hh:U4 s 125 st2=true:=decide_eq_true h125
    refine B1 rfl (fun ht=>?_) (fun ht=>?_)
    ·have hbad:0≤(-1:Int)∧(-1:Int) < least:=by
      rw [t8 true] at ht
      rcases A1 ht with h | h
      ·cases h
      ·exact h
     skip
     refine A3 (A6 (J4 A0 (by kernel_rfl)) A0 (P1 A0 ?_))
     exact I2 (by repeat (first | exact A8 | refine A9 rfl ?_)) (ZOk.sub (K:=K) (by repeat (first | exact hz | refine ZOk.cons ?_ (.inl rfl) | refine ZOk.cons ?_ (.inr hz.k8.h811)))) ⟨by rw [hB,C57,if_pos (.inr hbad)],rfl⟩
    ·have hok:¬(U4 s 125 st2=false∨(0≤(-1:Int)∧(-1:Int) < least)):=by
      rw [t8 true] at ht
      rw [hh]
      exact A2 ht
     refine k5 (k1 (k2 (A3 (A4 A0 A0 (A4 A0 A0 (A7 A0 A0 (A7 A0 A0 (A5 ?_))))))));refine k1 (k10 ?_)
     exact J3 (E86 rfl rfl rfl) (by repeat (first | exact A8 | refine A9 rfl ?_)) (O8 (K:=K) (st:=st2.skip 1) ⟨rfl,rfl,by repeat (first | exact hz | refine ZOk.cons ?_ (.inl rfl) | refine ZOk.cons ?_ (.inr hz.k8.h811))⟩) ⟨st2.skip 1,(least,(-1:Int)),by rw [hB,C57,if_neg hok],rfl,rfl⟩
   ·rw [decide_eq_false h125,if_neg h125]
    have hh:U4 s 125 st2=false:=decide_eq_false h125
    refine B1 rfl (fun ht=>?_) (fun ht=>?_)
    ·skip
     refine A3 (A6 (J4 A0 (by kernel_rfl)) A0 (P1 A0 ?_))
     exact I2 (by repeat (first | exact A8 | refine A9 rfl ?_)) (ZOk.sub (K:=K) (by repeat (first | exact hz | refine ZOk.cons ?_ (.inl rfl) | refine ZOk.cons ?_ (.inr hz.k8.h811)))) ⟨by rw [hB,C57,if_pos (.inl hh)],rfl⟩
    ·rw [t8 false] at ht
     exact absurd (.inl rfl) (A2 ht)
 ·rw [decide_eq_false h44,if_neg h44]
  have hB:j7 s K5 st=C57 s least st1 least:=by rw [hB0,if_neg (by unfold U4;rw [decide_eq_false h44];decide)]
  have hs2:=hs1
  refine B1 rfl (fun ht=>?_) (fun ht=>?_)
  ·cases ht
  refine k5 (k1 (k2 (k2 (A3 (A4 A0 A0 (L4 (n4 s st1.at_ st1.depth 125 hs2.at_ (by omega) A0) A0 A0 A0 ?_))))));rintro _ _ ⟨rfl,rfl⟩;refine A6 (S2 A0) A0 (A4 A0 A0 (B5 A0 A0 A0 A0 (fun hg=>by rw [hg];exact C2 A0 A0) ?_));refine B5 A0 A0 A0 A0 (fun hg=>by rw [hg];exact V2 A0 A0) ?_;refine B5 A0 A0 A0 A0 (fun hg=>by rw [hg];exact C2 A0 A0) ?_;refine N0 A0 A0 A0 (.gd (.val _)) A0 (fun hg=>by obtain ⟨hg1,hg2⟩:=X5 hg;(try rw [hg1]);(try rw [hg2]);exact C2 A0 A0) ?_;refine N0 A0 A0 A0 (.gd (.val _)) A0 (fun hg=>by obtain ⟨hg1,hg2⟩:=X5 hg;(try rw [hg1]);(try rw [hg2]);exact C2 A0 A0) ?_;refine N0 A0 A0 A0 (.gd (.val _)) A0 (fun hg=>by obtain ⟨hg1,hg2⟩:=X5 hg;(try rw [hg1]);(try rw [hg2]);exact A75 A0 A0) ?_;refine B5 A0 A0 A0 A0 (fun hg=>by rw [hg];exact L8 A0 (fun h=>by first | rfl | (rw [h];rfl)) (fun h=>by first | rfl | (rw [h];rfl))) ?_;refine K7 A0 A0 ?_;refine A5 ?_;refine k1 ?_
  by_cases h125:s[st1.at_]?=some 125
  ·rw [decide_eq_true h125,if_pos h125]
   have hh:U4 s 125 st1=true:=decide_eq_true h125
   refine B1 rfl (fun ht=>?_) (fun ht=>?_)
   ·have hbad:0≤least∧least < least:=by
     rw [t8 true] at ht
     rcases A1 ht with h | h
     ·cases h
     ·exact h
    skip
    refine A3 (A6 (J4 A0 (by kernel_rfl)) A0 (P1 A0 ?_))
    exact I2 (by repeat (first | exact A8 | refine A9 rfl ?_)) (ZOk.sub (K:=K) (by repeat (first | exact hz | refine ZOk.cons ?_ (.inl rfl) | refine ZOk.cons ?_ (.inr hz.k8.h811)))) ⟨by rw [hB,C57,if_pos (.inr hbad)],rfl⟩
   ·have hok:¬(U4 s 125 st1=false∨(0≤least∧least < least)):=by
     rw [t8 true] at ht
     rw [hh]
     exact A2 ht
    refine k5 (k1 (k2 (A3 (A4 A0 A0 (A4 A0 A0 (A7 A0 A0 (A7 A0 A0 (A5 ?_))))))));refine k1 (k10 ?_)
    exact J3 (E86 rfl rfl rfl) (by repeat (first | exact A8 | refine A9 rfl ?_)) (O8 (K:=K) (st:=st1.skip 1) ⟨rfl,rfl,by repeat (first | exact hz | refine ZOk.cons ?_ (.inl rfl) | refine ZOk.cons ?_ (.inr hz.k8.h811))⟩) ⟨st1.skip 1,(least,least),by rw [hB,C57,if_neg hok],rfl,rfl⟩
  ·rw [decide_eq_false h125,if_neg h125]
   have hh:U4 s 125 st1=false:=decide_eq_false h125
   refine B1 rfl (fun ht=>?_) (fun ht=>?_)
   ·skip
    refine A3 (A6 (J4 A0 (by kernel_rfl)) A0 (P1 A0 ?_))
    exact I2 (by repeat (first | exact A8 | refine A9 rfl ?_)) (ZOk.sub (K:=K) (by repeat (first | exact hz | refine ZOk.cons ?_ (.inl rfl) | refine ZOk.cons ?_ (.inr hz.k8.h811)))) ⟨by rw [hB,C57,if_pos (.inl hh)],rfl⟩
   ·rw [t8 false] at ht
    exact absurd (.inl rfl) (A2 ht)
set_option maxHeartbeats 1000000
theorem F27 {K:List Nat} {s:Str} {st:PSt} (hs:SOk s st):PX 141 [L9] K s st (v7 s K5 st) (fun b=>match b with
  | none=>[R5 0,R5 0,C10 false]
  | some q=>[R5 q.1,R5 q.2,C10 true]):=by
 intro gf ob Z hI
 have hz:=hI.z.self
 have hlen:=hs.len
 refine MetX.introH Tryz.func141 (by decide) rfl rfl rfl (fun hH=>?_)
 refine D3 (l4 (l:=[(0,.s L9)]) hI ⟨le1 rfl,trivial⟩ hH (by repeat (first | exact A8 | refine A9 rfl ?_))) ?_
 refine k2 (A3 (A7 A0 A0 (A7 A0 A0 (A7 A0 A0 (A5 ?_)))));refine k1 (k2 (k3 (k2 (A3 (A4 A0 A0 (L4 (n4 s st.at_ st.depth 42 hs.at_ (by omega) A0) A0 A0 A0 ?_))))));rintro _ _ ⟨rfl,rfl⟩;refine A7 A0 A0 (A5 ?_);refine k1 ?_
 by_cases h42:s[st.at_]?=some 42
 ·rw [decide_eq_true h42,if_pos h42]
  have hh:U4 s 42 st=true:=decide_eq_true h42
  refine B1 rfl (fun ht=>?_) (fun ht=>?_)
  rotate_left
  ·cases ht
  refine k2 (A3 (A7 A0 A0 (A7 A0 A0 (A7 A0 A0 (A5 ?_)))));refine k1 (k10 (k12 (k11 ?_)))
  exact J3 (H39 rfl rfl rfl rfl) (by repeat (first | exact A8 | refine A9 rfl ?_)) (O8 (K:=K) (st:=st.skip 1) ⟨rfl,rfl,by repeat (first | exact hz | refine ZOk.cons ?_ (.inl rfl) | refine ZOk.cons ?_ (.inr hz.k8.h811))⟩) ⟨st.skip 1,some (0,-1),by rw [v7,if_pos hh],rfl,rfl⟩
 rw [decide_eq_false h42,if_neg h42]
 have hn42:¬U4 s 42 st=true:=fun h=>h42 (A1 h)
 refine B1 rfl (fun ht=>?_) (fun ht=>?_)
 ·cases ht
 refine k2 (A3 (A4 A0 A0 (L4 (n4 s st.at_ st.depth 43 hs.at_ (by omega) A0) A0 A0 A0 ?_)));rintro _ _ ⟨rfl,rfl⟩;refine A7 A0 A0 (A5 ?_);refine k1 ?_
 by_cases h43:s[st.at_]?=some 43
 ·rw [decide_eq_true h43,if_pos h43]
  have hh:U4 s 43 st=true:=decide_eq_true h43
  refine B1 rfl (fun ht=>?_) (fun ht=>?_)
  rotate_left
  ·cases ht
  refine k2 (A3 (A7 A0 A0 (A7 A0 A0 (A7 A0 A0 (A5 ?_)))));refine k1 (k10 (k12 (k11 ?_)))
  exact J3 (H39 rfl rfl rfl rfl) (by repeat (first | exact A8 | refine A9 rfl ?_)) (O8 (K:=K) (st:=st.skip 1) ⟨rfl,rfl,by repeat (first | exact hz | refine ZOk.cons ?_ (.inl rfl) | refine ZOk.cons ?_ (.inr hz.k8.h811))⟩) ⟨st.skip 1,some (1,-1),by rw [v7,if_neg hn42,if_pos hh],rfl,rfl⟩
 rw [decide_eq_false h43,if_neg h43]
 have hn43:¬U4 s 43 st=true:=fun h=>h43 (A1 h)
 refine B1 rfl (fun ht=>?_) (fun ht=>?_)
 ·cases ht
 refine k2 (A3 (A4 A0 A0 (L4 (n4 s st.at_ st.depth 63 hs.at_ (by omega) A0) A0 A0 A0 ?_)));rintro _ _ ⟨rfl,rfl⟩;refine A7 A0 A0 (A5 ?_);refine k1 ?_
 by_cases h63:s[st.at_]?=some 63
 ·rw [decide_eq_true h63,if_pos h63]
  have hh:U4 s 63 st=true:=decide_eq_true h63
  refine B1 rfl (fun ht=>?_) (fun ht=>?_)
  rotate_left
  ·cases ht
  refine k2 (A3 (A7 A0 A0 (A7 A0 A0 (A7 A0 A0 (A5 ?_)))));refine k1 (k10 (k12 (k11 ?_)))
  exact J3 (H39 rfl rfl rfl rfl) (by repeat (first | exact A8 | refine A9 rfl ?_)) (O8 (K:=K) (st:=st.skip 1) ⟨rfl,rfl,by repeat (first | exact hz | refine ZOk.cons ?_ (.inl rfl) | refine ZOk.cons ?_ (.inr hz.k8.h811))⟩) ⟨st.skip 1,some (0,1),by rw [v7,if_neg hn42,if_neg hn43,if_pos hh],rfl,rfl⟩
 rw [decide_eq_false h63,if_neg h63]
 have hn63:¬U4 s 63 st=true:=fun h=>h63 (A1 h)
 refine B1 rfl (fun ht=>?_) (fun ht=>?_)
 ·cases ht
 refine k2 (A3 (A4 A0 A0 (L4 (n4 s st.at_ st.depth 123 hs.at_ (by omega) A0) A0 A0 A0 ?_)));rintro _ _ ⟨rfl,rfl⟩;refine A7 A0 A0 (A5 ?_);refine k1 ?_
 by_cases h123:s[st.at_]?=some 123
 ·rw [decide_eq_true h123,if_pos h123]
  have hh:U4 s 123 st=true:=decide_eq_true h123
  have hs2:=hs.gr (O0 (s:=s) (x:=st) 1 (l5 hh)) (by omega)
  have hQ:v7 s K5 st=match j7 s K5 (st.skip 1) with
    | .error e=>.error e
    | .ok (st',b)=>.ok (st',some b):=by rw [v7,if_neg hn42,if_neg hn43,if_neg hn63,if_pos hh];rfl
  refine B1 rfl (fun ht=>?_) (fun ht=>?_)
  rotate_left
  ·cases ht
  refine k2 ?_;refine D3 (fr':=[(0,.s L9)]++C0 K gf) (ob':=PObs s (st.skip 1) Z) (K76 ⟨le1 rfl,trivial⟩ (C6 hH) (by repeat (first | exact A8 | refine A9 rfl ?_)) (O8 (K:=K) (st:=st.skip 1) ⟨rfl,rfl,by repeat (first | exact hz | refine ZOk.cons ?_ (.inl rfl) | refine ZOk.cons ?_ (.inr hz.k8.h811))⟩)) ?_
  refine A3 (A4 A0 A0 ?_);refine M7 (J95 (K:=K) hs2 _ _ Z ⟨rfl,rfl,by repeat (first | exact hz | refine ZOk.cons ?_ (.inl rfl) | refine ZOk.cons ?_ (.inr hz.k8.h811))⟩) (by repeat (first | exact FreeKs.nil | exact FreeKs.gf M1 | exact FreeKs.gf (R6 rfl) | exact FreeKs.gf (O9 hzK.k8) | exact FreeKs.gf hsub | refine FreeKs.cons (fun _ _=>rfl) ?_ | refine FreeKs.cons (J6 hz.k8) ?_ | refine FreeKs.cons (M3 hz.k8) ?_ | refine FreeKs.cons ks_own ?_ | refine FreeKs.cons (M2 rfl) ?_)) rfl rfl rfl ?_ ?_
  ·(rintro e ob' ⟨hB,rfl⟩;exact I2 (by repeat (first | exact A8 | refine A9 rfl ?_)) (fun _ _ h=>h) ⟨by rw [hQ,hB],rfl⟩)
  rintro _ _ ⟨st3,b,hB,rfl,rfl⟩;refine A4 A0 A0 (E8 A0 A0 A0 (E8 A0 A0 A0 (A7 A0 A0 (A7 A0 A0 (A5 ?_)))))
  refine k1 (k2 (A3 (A4 A0 A0 (A4 A0 A0 (A7 A0 A0 (A7 A0 A0 (A7 A0 A0 (A5 ?_))))))));refine k1 (k10 (k12 (k11 ?_)))
  exact J3 (H39 rfl rfl rfl rfl) (by repeat (first | exact A8 | refine A9 rfl ?_)) (O8 (K:=K) (st:=st3) ⟨rfl,rfl,by repeat (first | exact hz | refine ZOk.cons ?_ (.inl rfl) | refine ZOk.cons ?_ (.inr hz.k8.h811))⟩) ⟨st3,some b,by rw [hQ,hB],rfl,rfl⟩
 rw [decide_eq_false h123,if_neg h123]
 have hn123:¬U4 s 123 st=true:=fun h=>h123 (A1 h)
 refine B1 rfl (fun ht=>?_) (fun ht=>?_)
 ·cases ht
 refine k5 (k2 (A3 (A7 A0 A0 (A7 A0 A0 (A7 A0 A0 (A5 ?_))))));refine k1 (k10 ?_)
 exact J3 (H39 rfl rfl rfl rfl) (by repeat (first | exact A8 | refine A9 rfl ?_)) (O8 (K:=K) (st:=st) ⟨rfl,rfl,by repeat (first | exact hz | refine ZOk.cons ?_ (.inl rfl) | refine ZOk.cons ?_ (.inr hz.k8.h811))⟩) ⟨st,none,by rw [v7,if_neg hn42,if_neg hn43,if_neg hn63,if_neg hn123],rfl,rfl⟩
theorem O9 {K:List Nat} (h:KOk K):∀k,G4 [811] k=true→G4 K k=true:=fun k hk=>by
 have:=hasN_iff.1 hk
 rw [List.mem_singleton.1 this]
 exact h.h811
theorem ZOk.fgt {K:List Nat} {Z ob:Obs} (h:ZOk K Z ob) {j:Nat} (hj:G4 K j=true):ZOk K Z (Obs.forget j ob) where
 k8:=h.k8
 sub:=fun k o hk=>by
  rw [K6,h.sub k o hk]
  show some (o.forget j)=some o
  rw [Ob.forget_free (h.free k o hk j hj)]
 key:=h.key
 free:=h.free
theorem add_pm {K:List Nat} {s:Str} {st:PSt} (nd:AL.Node) (hl:st.nodes.length≤1000) {gf:Fr} {ob Z:Obs} (hI:PIn K s st Z ob) :
  AL.Met Tryz.prog 118 [L9,(D67 nd).s1] gf ob K (fun rs ob'=>rs=[R5 (D17 nd st).2]∧ob'=PObs s (D17 nd st).1 Z) :=
 (AL.Met.more (D36 s st.at_ st.depth st.nodes nd hl hI.h0 hI.h1) (O9 hI.z.k8)).conv fun rs ob' hm=>by
  obtain ⟨rfl,rfl⟩:=hm
  exact ⟨_,⟨rfl,rfl⟩,O8 ⟨rfl,rfl,((hI.z.fgt hI.z.k8.h811).cons (.inr hI.z.k8.h811)).cons (.inl rfl)⟩⟩
theorem G99 {K:List Nat} {s:Str} {st:PSt} (z:Set4) (hl:st.nodes.length≤1000) {gf:Fr} {ob Z:Obs} (hI:PIn K s st Z ob) :
  AL.Met Tryz.prog 174 [L9,(W5 z).s1] gf ob K (fun rs ob'=>rs=[R5 (C63 z st).2]∧ob'=PObs s (C63 z st).1 Z) :=
 (AL.Met.more (K43 s st.at_ st.depth st.nodes z hl hI.h0 hI.h1) (O9 hI.z.k8)).conv fun rs ob' hm=>by
  obtain ⟨rfl,rfl⟩:=hm
  exact ⟨_,⟨rfl,rfl⟩,O8 ⟨rfl,rfl,((hI.z.fgt hI.z.k8.h811).cons (.inr hI.z.k8.h811)).cons (.inl rfl)⟩⟩
theorem F28 {K:List Nat} {s:Str} {st:PSt} (kind:Int) (kids:List Int) (hk:kids.length≤100000) (hl:st.nodes.length≤1000) {gf:Fr} {ob Z:Obs} (hI:PIn K s st Z ob) :
  AL.Met Tryz.prog 81 [L9,R5 kind,.one (.p (.list Int 1 F2 kids))] gf ob K (fun rs ob'=>rs=[R5 (C29 kind kids st).2]∧ob'=PObs s (C29 kind kids st).1 Z):=by
 match kids,hk with
 | [],_ =>
  exact (AL.Met.more (I83 s st.at_ st.depth st.nodes kind hl hI.h0 hI.h1) (O9 hI.z.k8)).conv fun rs ob' hm=>by
   obtain ⟨rfl,rfl⟩:=hm
   exact ⟨_,⟨rfl,rfl⟩,O8 ⟨rfl,rfl,((hI.z.fgt hI.z.k8.h811).cons (.inr hI.z.k8.h811)).cons (.inl rfl)⟩⟩
 | [k],_ =>
  exact (AL.Met.more (I67 kind k) (fun _ h=>by cases h)).conv fun rs ob' hm=>by
   obtain ⟨rfl,rfl⟩:=hm
   exact ⟨_,⟨rfl,rfl⟩,O8 hI⟩
 | k::l::r,hk =>
  exact (AL.Met.more (I66 s st.at_ st.depth st.nodes kind (k::l::r) (by simp) hl hI.h0 hI.h1) (O9 hI.z.k8)).conv fun rs ob' hm=>by
   obtain ⟨rfl,rfl⟩:=hm
   exact ⟨_,⟨rfl,rfl⟩,O8 ⟨rfl,rfl,((hI.z.fgt hI.z.k8.h811).cons (.inr hI.z.k8.h811)).cons (.inl rfl)⟩⟩
theorem J96 {K:List Nat} {s:Str} {st:PSt} (hs:SOk s st):PX 163 [L9] K s st (c8 s st) B14:=by
 intro gf ob Z hI
 have hz:=hI.z.self
 have hlen:=hs.len
 refine MetX.introH Tryz.func163 (by decide) rfl rfl rfl (fun hH=>?_)
 refine D3 (l4 (l:=[(0,.s L9)]) hI ⟨le1 rfl,trivial⟩ hH (by repeat (first | exact A8 | refine A9 rfl ?_))) ?_
 refine k2 (A3 (A7 A0 A0 (A5 ?_)));refine k1 (k2 (A3 (A4 A0 A0 (A6 (y3 A0) A0 (A4 A0 A0 ?_)))));refine M7 (G98 (K:=K) hs _ _ Z ⟨rfl,rfl,by repeat (first | exact hz | refine ZOk.cons ?_ (.inl rfl) | refine ZOk.cons ?_ (.inr hz.k8.h811))⟩) (by repeat (first | exact FreeKs.nil | exact FreeKs.gf M1 | exact FreeKs.gf (R6 rfl) | exact FreeKs.gf (O9 hzK.k8) | exact FreeKs.gf hsub | refine FreeKs.cons (fun _ _=>rfl) ?_ | refine FreeKs.cons (J6 hz.k8) ?_ | refine FreeKs.cons (M3 hz.k8) ?_ | refine FreeKs.cons ks_own ?_ | refine FreeKs.cons (M2 rfl) ?_)) rfl rfl rfl ?_ ?_
 ·(rintro e ob' ⟨hR,rfl⟩;exact I2 (by repeat (first | exact A8 | refine A9 rfl ?_)) (fun _ _ h=>h) ⟨by unfold c8;rw [hR],rfl⟩)
 rintro _ _ ⟨st2,c,hR,rfl,rfl⟩;refine C9 (D40 set0 A45 c) A0 A0 A0 ?_;rintro _ rfl;refine B54 (G99 (K:=K) (s:=s) (st:=st2) (Z:=Z) (set0.with_ c.toNat) (by have h1:=(hs.gr (C53 hR) (by omega)).nds;have h2:=(hs.gr (C53 hR) (by omega)).at_;omega) ⟨rfl,rfl,by repeat (first | exact hz | refine ZOk.cons ?_ (.inl rfl) | refine ZOk.cons ?_ (.inr hz.k8.h811))⟩) (by repeat (first | exact FreeKs.nil | exact FreeKs.gf M1 | exact FreeKs.gf (R6 rfl) | exact FreeKs.gf (O9 hzK.k8) | exact FreeKs.gf hsub | refine FreeKs.cons (fun _ _=>rfl) ?_ | refine FreeKs.cons (J6 hz.k8) ?_ | refine FreeKs.cons (M3 hz.k8) ?_ | refine FreeKs.cons ks_own ?_ | refine FreeKs.cons (M2 rfl) ?_)) rfl rfl rfl ?_;rintro _ _ ⟨rfl,rfl⟩;refine A7 A0 A0 (A5 ?_)
 refine k1 (k10 ?_)
 exact J3 (I8 rfl rfl) (by repeat (first | exact A8 | refine A9 rfl ?_)) (fun _ _ h=>h) ⟨(C63 (set0.with_ c.toNat) st2).1,(C63 (set0.with_ c.toNat) st2).2,by unfold c8;rw [hR],rfl,rfl⟩
set_option maxHeartbeats 1000000
theorem E67 {x:Int} (h:0≤x∧x < 18446744073709551616):IntKind.u64.wrap ((BitVec.ofInt IntKind.u64.bits IntKind.u64.max ^^^ BitVec.ofInt IntKind.u64.bits x).toNat:Int)=18446744073709551615 - x:=by
 have h1:BitVec.ofInt 64 IntKind.u64.max=BitVec.allOnes 64:=by decide
 have h2:(BitVec.ofInt 64 x).toNat=x.toNat:=by
  rw [BitVec.toNat_ofInt]
  simp
  omega
 show IntKind.u64.wrap (((BitVec.ofInt 64 IntKind.u64.max ^^^ BitVec.ofInt 64 x:BitVec 64).toNat:Nat):Int)=_
 rw [h1,BitVec.allOnes_xor,BitVec.toNat_not,h2]
 simp only [IntKind.wrap,IntKind.signed,IntKind.bits]
 simp
 omega
theorem P3 (z:Set4) (hz:T5 z) (a b:Nat) (x y:Int) (hx:x=a) (hy:y=b) (hab:a≤b) (hb:b < 256):FnOk Tryz.prog 182 [W5 z,.one (.v (.int .u8 x)),.one (.v (.int .u8 y))] (fun rs=>rs=[W5 (z.through a b)]):=by
 have ea:(UInt8.ofNat a).toNat=a:=by rw [UInt8.toNat_ofNat'];omega
 have eb:(UInt8.ofNat b).toNat=b:=by rw [UInt8.toNat_ofNat'];omega
 have h:=F26 z hz (UInt8.ofNat a) (UInt8.ofNat b) (by omega)
 rw [ea,eb] at h
 subst hx hy
 have e:pByte (UInt8.ofNat a)=.one (.v (.int .u8 (a:Int)))∧pByte (UInt8.ofNat b)=.one (.v (.int .u8 (b:Int))):=by
  constructor
  ·show PV.one (.v (.int .u8 ((UInt8.ofNat a).toNat:Int)))=_
   rw [ea]
  ·show PV.one (.v (.int .u8 ((UInt8.ofNat b).toNat:Int)))=_
   rw [eb]
 rw [e.1,e.2] at h
 exact h
attribute [local irreducible] AL.Set4.through AL.Set4.with_
abbrev F94 (a b c d:Int):Ob:=.box [.p (.v (.int .u64 a)),.p (.v (.int .u64 b)),.p (.v (.int .u64 c)),.p (.v (.int .u64 d))]
def complT (z:Set4):Nat→Ob
 | 0=>F94 z.a z.b z.c z.d
 | 1=>F94 z.compl.a z.b z.c z.d
 | 2=>F94 z.compl.a z.compl.b z.c z.d
 | 3=>F94 z.compl.a z.compl.b z.compl.c z.d
 | _=>F94 z.compl.a z.compl.b z.compl.c z.compl.d
theorem C77 (z:Set4) (hz:T5 z):FnOk Tryz.prog 173 [W5 z] (fun rs=>rs=[W5 z.compl]):=by
 obtain ⟨z1,z2,z3,z4⟩:=hz
 refine FnOk.intro Tryz.func173 (by decide) A0 A0 A0 A0 ?_
 refine k2 (A3 (D1 (s6 1 A0 A0 A0) A0 (D1 (J1 2 A0) A0 (A5 ?_))));refine k1 (k2 (k2 (A3 (A4 A0 A0 (A5 ?_)))));refine k1 (k3 (D2 (X:=Nat) (fun i=>([(1,.s (.one (.ref 1 0))),(2,.s (.one (.ref 2 0))),(4,C7 i)],[(1,complT z i),(2,F94 0 0 0 0)])) (fun i=>i≤4) (fun i=>4 - i) 0 (Nat.zero_le _) (Sees.of ⟨le1 rfl,le1 rfl,le1 rfl,trivial⟩ ⟨rfl,rfl,trivial⟩) ?_))
 intro i hi
 dsimp only at hi ⊢
 refine k2 (A3 (F7 A0 A0 A0 (A5 ?_)));refine k1 (k2 ?_);refine B1 rfl (fun ht=>?_) (fun ht=>?_)
 ·have hlt:i < 4:=by have:=A1 ht;omega
  rcases (show i=0∨i=1∨i=2∨i=3 by omega) with h | h | h | h<;>subst h
  ·refine k5 (k1 (k2 (k3 (k2 (A3 (A4 A0 A0 (A7 A0 A0 (A5 ?_))))))));refine k1 (A3 (A4 A0 A0 (A4 A0 A0 (A6 (I5 A0 A0 (by first | omega | decide) (by omega)) A0 (G3 A0 A0 A0 A0 (A6 (E62 A0 A0 (fun _=>rfl)) A0 (A6 (I5 A0 A0 (by first | omega | decide) (by omega)) A0 (G1 (B9 TySz.out A0 A0 A0 A0 A0 A0) (A5 ?_)))))))))
   rw [E67 z1]
   refine k4 (k1 (A3 (E3 A0 A0 A0 (A4 A0 A0 (A5 ?_)))));refine k1 ?_
   exact ⟨1,by omega,by omega,Sees.of ⟨le1 rfl,le1 rfl,le1 rfl,trivial⟩ ⟨rfl,rfl,trivial⟩⟩
  ·refine k5 (k1 (k2 (k3 (k2 (A3 (A4 A0 A0 (A7 A0 A0 (A5 ?_))))))));refine k1 (A3 (A4 A0 A0 (A4 A0 A0 (A6 (I5 A0 A0 (by first | omega | decide) (by omega)) A0 (G3 A0 A0 A0 A0 (A6 (E62 A0 A0 (fun _=>rfl)) A0 (A6 (I5 A0 A0 (by first | omega | decide) (by omega)) A0 (G1 (B9 TySz.out A0 A0 A0 A0 A0 A0) (A5 ?_)))))))))
   rw [E67 z2]
   refine k4 (k1 (A3 (E3 A0 A0 A0 (A4 A0 A0 (A5 ?_)))));refine k1 ?_
   exact ⟨2,by omega,by omega,Sees.of ⟨le1 rfl,le1 rfl,le1 rfl,trivial⟩ ⟨rfl,rfl,trivial⟩⟩
  ·refine k5 (k1 (k2 (k3 (k2 (A3 (A4 A0 A0 (A7 A0 A0 (A5 ?_))))))));refine k1 (A3 (A4 A0 A0 (A4 A0 A0 (A6 (I5 A0 A0 (by first | omega | decide) (by omega)) A0 (G3 A0 A0 A0 A0 (A6 (E62 A0 A0 (fun _=>rfl)) A0 (A6 (I5 A0 A0 (by first | omega | decide) (by omega)) A0 (G1 (B9 TySz.out A0 A0 A0 A0 A0 A0) (A5 ?_)))))))))
   rw [E67 z3]
   refine k4 (k1 (A3 (E3 A0 A0 A0 (A4 A0 A0 (A5 ?_)))));refine k1 ?_
   exact ⟨3,by omega,by omega,Sees.of ⟨le1 rfl,le1 rfl,le1 rfl,trivial⟩ ⟨rfl,rfl,trivial⟩⟩
  ·refine k5 (k1 (k2 (k3 (k2 (A3 (A4 A0 A0 (A7 A0 A0 (A5 ?_))))))));refine k1 (A3 (A4 A0 A0 (A4 A0 A0 (A6 (I5 A0 A0 (by first | omega | decide) (by omega)) A0 (G3 A0 A0 A0 A0 (A6 (E62 A0 A0 (fun _=>rfl)) A0 (A6 (I5 A0 A0 (by first | omega | decide) (by omega)) A0 (G1 (B9 TySz.out A0 A0 A0 A0 A0 A0) (A5 ?_)))))))))
   rw [E67 z4]
   refine k4 (k1 (A3 (E3 A0 A0 A0 (A4 A0 A0 (A5 ?_)))));refine k1 ?_
   exact ⟨4,by omega,by omega,Sees.of ⟨le1 rfl,le1 rfl,le1 rfl,trivial⟩ ⟨rfl,rfl,trivial⟩⟩
 ·have h4:i=4:=by have:=A2 ht;omega
  subst h4
  refine k6 (k2 (A3 (A6 (J5 A0 A0 A0) A0 (G1 (B9 TySz.out A0 A0 A0 A0 A0 A0) (A5 ?_)))));refine k1 (k10 ?_)
  exact B8 (rs:=[W5 z.compl]) (retc rfl rfl rfl rfl rfl) rfl
theorem K53 (z t:Set4) (hz:T5 z) (name:Str) (h:B75 z name=some t):FnOk Tryz.prog 181 [W5 z,H7 name] (fun rs=>rs=[W5 t]):=by
 unfold B75 at h
 refine FnOk.intro Tryz.func181 (by decide) A0 A0 A0 A0 ?_
 refine k2 (A3 (D1 (s6 2 A0 A0 A0) A0 (D1 (J1 4 A0) A0 (A5 ?_))));refine k1 (k2 (k2 (A3 (A4 A0 A0 (A5 ?_)))));refine k1 (k3 (k2 (A3 (A6 (O5 A0 A0) A0 (A7 A0 A0 (A5 ?_))))));refine k1 ?_;refine B1 rfl (fun ht=>?_) (fun ht=>?_)
 ·have hn:name=[97,108,112,104,97]:=A1 (by assumption)
  rw [if_pos hn] at h
  cases h
  refine k2 (A3 (A6 (J5 A0 A0 A0) A0 (C9 (P3 (z) (hz) 97 122 97 122 A0 A0 (by decide) (by decide)) A0 A0 A0 ?_)));rintro _ rfl;refine C9 (P3 ((z).through 97 122) (N5 (hz) 97 122) 65 90 65 90 A0 A0 (by decide) (by decide)) A0 A0 A0 ?_;rintro _ rfl;refine G1 (B9 TySz.out A0 A0 A0 A0 A0 A0) (A5 ?_);refine k1 (k10 (k12 (k11 ?_)))
  exact B8 (rs:=[W5 (((z).through 97 122).through 65 90)]) (retc rfl rfl rfl rfl rfl) rfl
 have hn0:¬name=[97,108,112,104,97]:=A2 (by assumption)
 refine k2 (A3 (A6 (O5 A0 A0) A0 (A7 A0 A0 (A5 ?_))));refine k1 ?_;refine B1 rfl (fun ht=>?_) (fun ht=>?_)
 ·have hn:name=[100,105,103,105,116]:=A1 (by assumption)
  rw [if_neg hn0,if_pos hn] at h
  cases h
  refine k2 (A3 (A6 (J5 A0 A0 A0) A0 (C9 (P3 (z) (hz) 48 57 48 57 A0 A0 (by decide) (by decide)) A0 A0 A0 ?_)));rintro _ rfl;refine G1 (B9 TySz.out A0 A0 A0 A0 A0 A0) (A5 ?_);refine k1 (k10 (k12 (k11 ?_)))
  exact B8 (rs:=[W5 ((z).through 48 57)]) (retc rfl rfl rfl rfl rfl) rfl
 have hn1:¬name=[100,105,103,105,116]:=A2 (by assumption)
 refine k2 (A3 (A6 (O5 A0 A0) A0 (A7 A0 A0 (A5 ?_))));refine k1 ?_;refine B1 rfl (fun ht=>?_) (fun ht=>?_)
 ·have hn:name=[97,108,110,117,109]:=A1 (by assumption)
  rw [if_neg hn0,if_neg hn1,if_pos hn] at h
  cases h
  refine k2 (A3 (A6 (J5 A0 A0 A0) A0 (C9 (P3 (z) (hz) 97 122 97 122 A0 A0 (by decide) (by decide)) A0 A0 A0 ?_)));rintro _ rfl;refine C9 (P3 ((z).through 97 122) (N5 (hz) 97 122) 65 90 65 90 A0 A0 (by decide) (by decide)) A0 A0 A0 ?_;rintro _ rfl;refine C9 (P3 (((z).through 97 122).through 65 90) (N5 (N5 (hz) 97 122) 65 90) 48 57 48 57 A0 A0 (by decide) (by decide)) A0 A0 A0 ?_;rintro _ rfl;refine G1 (B9 TySz.out A0 A0 A0 A0 A0 A0) (A5 ?_);refine k1 (k10 (k12 (k11 ?_)))
  exact B8 (rs:=[W5 ((((z).through 97 122).through 65 90).through 48 57)]) (retc rfl rfl rfl rfl rfl) rfl
 have hn2:¬name=[97,108,110,117,109]:=A2 (by assumption)
 refine k2 (A3 (A6 (O5 A0 A0) A0 (A7 A0 A0 (A5 ?_))));refine k1 ?_;refine B1 rfl (fun ht=>?_) (fun ht=>?_)
 ·have hn:name=[117,112,112,101,114]:=A1 (by assumption)
  rw [if_neg hn0,if_neg hn1,if_neg hn2,if_pos hn] at h
  cases h
  refine k2 (A3 (A6 (J5 A0 A0 A0) A0 (C9 (P3 (z) (hz) 65 90 65 90 A0 A0 (by decide) (by decide)) A0 A0 A0 ?_)));rintro _ rfl;refine G1 (B9 TySz.out A0 A0 A0 A0 A0 A0) (A5 ?_);refine k1 (k10 (k12 (k11 ?_)))
  exact B8 (rs:=[W5 ((z).through 65 90)]) (retc rfl rfl rfl rfl rfl) rfl
 have hn3:¬name=[117,112,112,101,114]:=A2 (by assumption)
 refine k2 (A3 (A6 (O5 A0 A0) A0 (A7 A0 A0 (A5 ?_))));refine k1 ?_;refine B1 rfl (fun ht=>?_) (fun ht=>?_)
 ·have hn:name=[108,111,119,101,114]:=A1 (by assumption)
  rw [if_neg hn0,if_neg hn1,if_neg hn2,if_neg hn3,if_pos hn] at h
  cases h
  refine k2 (A3 (A6 (J5 A0 A0 A0) A0 (C9 (P3 (z) (hz) 97 122 97 122 A0 A0 (by decide) (by decide)) A0 A0 A0 ?_)));rintro _ rfl;refine G1 (B9 TySz.out A0 A0 A0 A0 A0 A0) (A5 ?_);refine k1 (k10 (k12 (k11 ?_)))
  exact B8 (rs:=[W5 ((z).through 97 122)]) (retc rfl rfl rfl rfl rfl) rfl
 have hn4:¬name=[108,111,119,101,114]:=A2 (by assumption)
 refine k2 (A3 (A6 (O5 A0 A0) A0 (A7 A0 A0 (A5 ?_))));refine k1 ?_;refine B1 rfl (fun ht=>?_) (fun ht=>?_)
 ·have hn:name=[115,112,97,99,101]:=A1 (by assumption)
  rw [if_neg hn0,if_neg hn1,if_neg hn2,if_neg hn3,if_neg hn4,if_pos hn] at h
  cases h
  refine k2 (A3 (A6 (J5 A0 A0 A0) A0 (C9 (P3 (z) (hz) 9 13 9 13 A0 A0 (by decide) (by decide)) A0 A0 A0 ?_)));rintro _ rfl;refine C9 (D40 ((z).through 9 13) (N5 (hz) 9 13) 32) A0 A0 A0 ?_;rintro _ rfl;refine G1 (B9 TySz.out A0 A0 A0 A0 A0 A0) (A5 ?_);refine k1 (k10 (k12 (k11 ?_)))
  exact B8 (rs:=[W5 (((z).through 9 13).with_ 32)]) (retc rfl rfl rfl rfl rfl) rfl
 have hn5:¬name=[115,112,97,99,101]:=A2 (by assumption)
 refine k2 (A3 (A6 (O5 A0 A0) A0 (A7 A0 A0 (A5 ?_))));refine k1 ?_;refine B1 rfl (fun ht=>?_) (fun ht=>?_)
 ·have hn:name=[112,117,110,99,116]:=A1 (by assumption)
  rw [if_neg hn0,if_neg hn1,if_neg hn2,if_neg hn3,if_neg hn4,if_neg hn5,if_pos hn] at h
  cases h
  refine k2 (A3 (A6 (J5 A0 A0 A0) A0 (C9 (P3 (z) (hz) 33 47 33 47 A0 A0 (by decide) (by decide)) A0 A0 A0 ?_)));rintro _ rfl;refine C9 (P3 ((z).through 33 47) (N5 (hz) 33 47) 58 64 58 64 A0 A0 (by decide) (by decide)) A0 A0 A0 ?_;rintro _ rfl;refine C9 (P3 (((z).through 33 47).through 58 64) (N5 (N5 (hz) 33 47) 58 64) 91 96 91 96 A0 A0 (by decide) (by decide)) A0 A0 A0 ?_;rintro _ rfl;refine C9 (P3 ((((z).through 33 47).through 58 64).through 91 96) (N5 (N5 (N5 (hz) 33 47) 58 64) 91 96) 123 126 123 126 A0 A0 (by decide) (by decide)) A0 A0 A0 ?_;rintro _ rfl;refine G1 (B9 TySz.out A0 A0 A0 A0 A0 A0) (A5 ?_);refine k1 (k10 (k12 (k11 ?_)))
  exact B8 (rs:=[W5 (((((z).through 33 47).through 58 64).through 91 96).through 123 126)]) (retc rfl rfl rfl rfl rfl) rfl
 have hn6:¬name=[112,117,110,99,116]:=A2 (by assumption)
 refine k5 (k4 (k1 ?_))
 rw [if_neg hn0,if_neg hn1,if_neg hn2,if_neg hn3,if_neg hn4,if_neg hn5,if_neg hn6] at h
 cases h
theorem J97 {K:List Nat} (h872:G4 K 872=true) {s:Str} {st:PSt} (z:Set4) (name:Str) (h:B75 z name=none):PX 181 [(W5 z).s1,(H7 name).s1] K s st (.error 40:Ps Int) B14:=by
 intro gf ob Z hI
 have hz:=hI.z.self
 have hfree:C1 (PObs s st Z) 872=none:=hz.none (.inr h872)
 unfold B75 at h
 refine MetX.introH Tryz.func181 (by decide) rfl rfl rfl (fun hH=>?_)
 refine D3 (l4 (l:=[(0,.s (W5 z).s1),(1,.s (H7 name).s1)]) hI ⟨le1 rfl,le1 rfl,trivial⟩ hH (by repeat (first | exact A8 | refine A9 rfl ?_))) ?_
 refine k2 (A3 (A6 (o5 A0 A0 A0) A0 (D1 (A78 872 hfree (by decide)) A0 (A5 ?_))));refine k1 (k2 (k2 ?_));refine D3 (fr':=[(1,.s (H7 name).s1)]++C0 K gf) (ob':=Z) (K76 ⟨le1 rfl,trivial⟩ (C6 hH) (by repeat (first | exact A8 | refine A9 rfl ?_ | refine F8 _ h872 ?_)) ((((hz.pin (s:=s) (st:=st)).fgt h872).cons (i:=872) (.inr h872)).sub)) ?_
 refine A3 (A4 A0 A0 (A5 ?_));refine k1 (k3 (k2 (A3 (A6 (O5 A0 A0) A0 (A7 A0 A0 (A5 ?_))))));refine k1 ?_;refine B1 rfl (fun ht=>?_) (fun ht=>?_)
 ·have hn:name=[97,108,112,104,97]:=A1 (by assumption)
  rw [if_pos hn] at h
  cases h
 have hn0:¬name=[97,108,112,104,97]:=A2 (by assumption)
 refine k2 (A3 (A6 (O5 A0 A0) A0 (A7 A0 A0 (A5 ?_))));refine k1 ?_;refine B1 rfl (fun ht=>?_) (fun ht=>?_)
 ·have hn:name=[100,105,103,105,116]:=A1 (by assumption)
  rw [if_neg hn0,if_pos hn] at h
  cases h
 have hn1:¬name=[100,105,103,105,116]:=A2 (by assumption)
 refine k2 (A3 (A6 (O5 A0 A0) A0 (A7 A0 A0 (A5 ?_))));refine k1 ?_;refine B1 rfl (fun ht=>?_) (fun ht=>?_)
 ·have hn:name=[97,108,110,117,109]:=A1 (by assumption)
  rw [if_neg hn0,if_neg hn1,if_pos hn] at h
  cases h
 have hn2:¬name=[97,108,110,117,109]:=A2 (by assumption)
 refine k2 (A3 (A6 (O5 A0 A0) A0 (A7 A0 A0 (A5 ?_))));refine k1 ?_;refine B1 rfl (fun ht=>?_) (fun ht=>?_)
 ·have hn:name=[117,112,112,101,114]:=A1 (by assumption)
  rw [if_neg hn0,if_neg hn1,if_neg hn2,if_pos hn] at h
  cases h
 have hn3:¬name=[117,112,112,101,114]:=A2 (by assumption)
 refine k2 (A3 (A6 (O5 A0 A0) A0 (A7 A0 A0 (A5 ?_))));refine k1 ?_;refine B1 rfl (fun ht=>?_) (fun ht=>?_)
 ·have hn:name=[108,111,119,101,114]:=A1 (by assumption)
  rw [if_neg hn0,if_neg hn1,if_neg hn2,if_neg hn3,if_pos hn] at h
  cases h
 have hn4:¬name=[108,111,119,101,114]:=A2 (by assumption)
 refine k2 (A3 (A6 (O5 A0 A0) A0 (A7 A0 A0 (A5 ?_))));refine k1 ?_;refine B1 rfl (fun ht=>?_) (fun ht=>?_)
 ·have hn:name=[115,112,97,99,101]:=A1 (by assumption)
  rw [if_neg hn0,if_neg hn1,if_neg hn2,if_neg hn3,if_neg hn4,if_pos hn] at h
  cases h
 have hn5:¬name=[115,112,97,99,101]:=A2 (by assumption)
 refine k2 (A3 (A6 (O5 A0 A0) A0 (A7 A0 A0 (A5 ?_))));refine k1 ?_;refine B1 rfl (fun ht=>?_) (fun ht=>?_)
 ·have hn:name=[112,117,110,99,116]:=A1 (by assumption)
  rw [if_neg hn0,if_neg hn1,if_neg hn2,if_neg hn3,if_neg hn4,if_neg hn5,if_pos hn] at h
  cases h
 have hn6:¬name=[112,117,110,99,116]:=A2 (by assumption)
 refine k5 (k4 (k1 (A3 (A6 (J4 A0 (by kernel_rfl)) A0 (P1 A0 ?_)))))
 exact I2 (by repeat (first | exact A8 | refine A9 rfl ?_)) (fun _ _ h=>h) ⟨rfl,rfl⟩
set_option maxHeartbeats 1000000
theorem any_px {K:List Nat} {s:Str} {st:PSt} (hs:SOk s st):PX 161 [L9] K s st (.ok (G00 st):Ps Int) B14:=by
 intro gf ob Z hI
 have hz:=hI.z.self
 have hlen:=hs.len
 have hat:=hs.at_
 have hnd:=hs.nds
 have hcm:=C77 set0 A45
 refine MetX.introH Tryz.func161 (by decide) rfl rfl rfl (fun hH=>?_)
 refine D3 (l4 (l:=[(0,.s L9)]) hI ⟨le1 rfl,trivial⟩ hH (by repeat (first | exact A8 | refine A9 rfl ?_))) ?_
 refine k2 (A3 (A7 A0 A0 (A5 ?_)));refine k1 (k2 (A3 (A4 A0 A0 (A6 (B2 A0) A0 (A6 (B0 A0) A0 (G3 A0 A0 A0 A0 (E3 A0 A0 A0 (A6 (B2 A0) A0 (A6 (B0 A0) A0 (G1 (B9 TySz.out A0 A0 A0 A0 A0 A0) (A5 ?_)))))))))));refine k1 (k2 (A3 (A4 A0 A0 (A6 (y3 A0) A0 (C9 (hcm) A0 A0 A0 ?_)))));rintro _ rfl;refine B54 (G99 (K:=K) (s:=s) (st:=st.skip 1) (Z:=Z) set0.compl (by show st.nodes.length≤1000;omega) ⟨rfl,rfl,by repeat (first | exact hz | refine ZOk.cons ?_ (.inl rfl) | refine ZOk.cons ?_ (.inr hz.k8.h811))⟩) (by repeat (first | exact FreeKs.nil | exact FreeKs.gf M1 | exact FreeKs.gf (R6 rfl) | exact FreeKs.gf (O9 hzK.k8) | exact FreeKs.gf hsub | refine FreeKs.cons (fun _ _=>rfl) ?_ | refine FreeKs.cons (J6 hz.k8) ?_ | refine FreeKs.cons (M3 hz.k8) ?_ | refine FreeKs.cons ks_own ?_ | refine FreeKs.cons (M2 rfl) ?_)) rfl rfl rfl ?_;rintro _ _ ⟨rfl,rfl⟩;refine A7 A0 A0 (A5 ?_);refine k1 (k10 ?_)
 exact J3 (I8 rfl rfl) (by repeat (first | exact A8 | refine A9 rfl ?_)) (fun _ _ h=>h) ⟨(G00 st).1,(G00 st).2,rfl,rfl,rfl⟩
theorem J98 {K:List Nat} {s:Str} {st:PSt} (hs:SOk s st) (hlt:st.at_+1≤s.length):PX 162 [L9] K s st (C51 s st) B14:=by
 intro gf ob Z hI
 have hz:=hI.z.self
 have hlen:=hs.len
 have hs1:=hs.gr (O0 (s:=s) (x:=st) 1 hlt) (by omega)
 refine MetX.introH Tryz.func162 (by decide) rfl rfl rfl (fun hH=>?_)
 refine D3 (l4 (l:=[(0,.s L9)]) hI ⟨le1 rfl,trivial⟩ hH (by repeat (first | exact A8 | refine A9 rfl ?_))) ?_
 refine k2 (A3 (A7 A0 A0 (A5 ?_)));refine k1 (k2 (A3 (A4 A0 A0 (A6 (B2 A0) A0 (A6 (B0 A0) A0 (G3 A0 A0 A0 A0 (E3 A0 A0 A0 (A6 (B2 A0) A0 (A6 (B0 A0) A0 (G1 (B9 TySz.out A0 A0 A0 A0 A0 A0) (A5 ?_)))))))))));refine k1 (k2 (A3 (A4 A0 A0 (A6 (y3 A0) A0 (A4 A0 A0 ?_)))));refine M7 (G98 (K:=K) hs1 _ _ Z ⟨rfl,rfl,by repeat (first | exact hz | refine ZOk.cons ?_ (.inl rfl) | refine ZOk.cons ?_ (.inr hz.k8.h811))⟩) (by repeat (first | exact FreeKs.nil | exact FreeKs.gf M1 | exact FreeKs.gf (R6 rfl) | exact FreeKs.gf (O9 hzK.k8) | exact FreeKs.gf hsub | refine FreeKs.cons (fun _ _=>rfl) ?_ | refine FreeKs.cons (J6 hz.k8) ?_ | refine FreeKs.cons (M3 hz.k8) ?_ | refine FreeKs.cons ks_own ?_ | refine FreeKs.cons (M2 rfl) ?_)) rfl rfl rfl ?_ ?_
 ·(rintro e ob' ⟨hR,rfl⟩;exact I2 (by repeat (first | exact A8 | refine A9 rfl ?_)) (fun _ _ h=>h) ⟨by unfold C51 c8;rw [hR],rfl⟩)
 rintro _ _ ⟨st2,c,hR,rfl,rfl⟩;refine C9 (D40 set0 A45 c) A0 A0 A0 ?_;rintro _ rfl;refine B54 (G99 (K:=K) (s:=s) (st:=st2) (Z:=Z) (set0.with_ c.toNat) (by have h1:=(hs1.gr (C53 hR) (by omega)).nds;have h2:=(hs1.gr (C53 hR) (by omega)).at_;omega) ⟨rfl,rfl,by repeat (first | exact hz | refine ZOk.cons ?_ (.inl rfl) | refine ZOk.cons ?_ (.inr hz.k8.h811))⟩) (by repeat (first | exact FreeKs.nil | exact FreeKs.gf M1 | exact FreeKs.gf (R6 rfl) | exact FreeKs.gf (O9 hzK.k8) | exact FreeKs.gf hsub | refine FreeKs.cons (fun _ _=>rfl) ?_ | refine FreeKs.cons (J6 hz.k8) ?_ | refine FreeKs.cons (M3 hz.k8) ?_ | refine FreeKs.cons ks_own ?_ | refine FreeKs.cons (M2 rfl) ?_)) rfl rfl rfl ?_;rintro _ _ ⟨rfl,rfl⟩;refine A7 A0 A0 (A5 ?_)
 refine k1 (k10 ?_)
 exact J3 (I8 rfl rfl) (by repeat (first | exact A8 | refine A9 rfl ?_)) (fun _ _ h=>h) ⟨(C63 (set0.with_ c.toNat) st2).1,(C63 (set0.with_ c.toNat) st2).2,by unfold C51 c8;rw [hR],rfl,rfl⟩
theorem F29 (s:Str) (hs:s.length≤1000):FnOk Tryz.prog 185 [H7 s,H7 [58,93]] (fun rs=>rs=if Lib.index s [58,93] < 0 then [H7 s,H7 [],H1 false] else [H7 (s.take (Lib.index s [58,93]).toNat),H7 (s.drop ((Lib.index s [58,93]).toNat+2)),H1 true]):=by
 have hI:=G97 s [58,93] (by omega)
 have hr:=fun h=>Lib.index_room s [58,93] h
 obtain ⟨i,hi⟩:∃i,i=Lib.index s [58,93]:=⟨_,rfl⟩
 rw [←hi] at hI hr ⊢
 refine FnOk.intro Tryz.func185 (by decide) A0 A0 A0 A0 ?_
 refine k2 (A3 (A7 A0 A0 (A7 A0 A0 (A7 A0 A0 (A5 ?_)))));refine k1 (k2 (k2 (A3 (A4 A0 A0 (A4 A0 A0 (C9 (hI) A0 A0 A0 ?_))))));rintro _ rfl;refine A7 A0 A0 (A5 ?_);refine k1 (k2 (A3 (A4 A0 A0 (A6 (V2 A0 A0) A0 (A5 ?_)))));refine k1 ?_;refine B1 rfl (fun ht=>?_) (fun ht=>?_)
 ·have h0:i≥0:=A1 ht
  have h2:=hr h0
  rw [show (([58,93]:Str).length:Int)=2 from rfl] at h2
  have e:(i+((([58,93]:Str).length:Nat):Int)).toNat=i.toNat+2:=by rw [show ((([58,93]:Str).length:Nat):Int)=2 from rfl];omega
  refine k2 (E7 (by kernel_rfl) (by kernel_rfl) (E9 A0 A0 (E9 A0 A0 (B7 (D22 A0 A0 (by omega) (by omega)) A0 A0 (E9 A0 A0 (E9 A0 A0 (E9 A0 A0 (B7 (J7 A0) A0 A0 (B7 (l6 A0 A0 (by (simp;omega))) A0 A0 (B7 (B44 A0 A0 (by (simp;omega)) (by (simp;omega))) A0 A0 (B7 (H5 A0 A0) A0 A0 (B7 (H5 A0 A0) A0 A0 (B7 (H5 A0 A0) A0 A0 (Q6 ?_))))))))))))));refine k1 (k10 (k11 (B8 (ret3 A0 A0 A0 A0 A0 A0 A0) ?_)))
  rw [if_neg (by omega),e]
 ·have h0:¬i≥0:=A2 ht
  refine k5 (k1 (k2 (A3 (A4 A0 A0 (A7 A0 A0 (A7 A0 A0 (A7 A0 A0 (A5 ?_))))))));refine k1 (k10 ?_)
  exact B8 (rs:=[H7 s,H7 [],H1 false]) (ret3 rfl rfl rfl rfl rfl rfl rfl) (by rw [if_pos (by omega)])
theorem cut_no (s:Str) (hs:s.length≤1000) (h:Lib.index s [58,93] < 0):FnOk Tryz.prog 180 [H7 s,H7 [58,93]] (fun rs=>rs=[H7 s,H7 [],H1 false]):=by
 have hc:=F29 s hs
 rw [if_pos h] at hc
 refine FnOk.intro Tryz.func180 (by decide) A0 A0 A0 A0 ?_
 refine k2 (A3 (A7 A0 A0 (A7 A0 A0 (A7 A0 A0 (A5 ?_)))));refine k1 (k2 (A3 (A4 A0 A0 (A4 A0 A0 (C9 (hc) A0 A0 A0 ?_)))));rintro _ rfl;refine E8 A0 A0 A0 (E8 A0 A0 A0 (E8 A0 A0 A0 (A7 A0 A0 (A7 A0 A0 (A7 A0 A0 (A5 ?_))))));refine k1 (k10 ?_)
 exact B8 (rs:=[H7 s,H7 [],H1 false]) (ret3 rfl rfl rfl rfl rfl rfl rfl) rfl
theorem cut_yes (s:Str) (hs:s.length≤1000) (h:¬Lib.index s [58,93] < 0):FnOk Tryz.prog 180 [H7 s,H7 [58,93]] (fun rs=>rs=[H7 (s.take (Lib.index s [58,93]).toNat),H7 (s.drop ((Lib.index s [58,93]).toNat+2)),H1 true]):=by
 have hc:=F29 s hs
 rw [if_neg h] at hc
 refine FnOk.intro Tryz.func180 (by decide) A0 A0 A0 A0 ?_
 refine k2 (A3 (A7 A0 A0 (A7 A0 A0 (A7 A0 A0 (A5 ?_)))));refine k1 (k2 (A3 (A4 A0 A0 (A4 A0 A0 (C9 (hc) A0 A0 A0 ?_)))));rintro _ rfl;refine E8 A0 A0 A0 (E8 A0 A0 A0 (E8 A0 A0 A0 (A7 A0 A0 (A7 A0 A0 (A7 A0 A0 (A5 ?_))))));refine k1 (k10 ?_)
 exact B8 (rs:=[H7 (s.take (Lib.index s [58,93]).toNat),H7 (s.drop ((Lib.index s [58,93]).toNat+2)),H1 true]) (ret3 rfl rfl rfl rfl rfl rfl rfl) rfl
abbrev setE (t:Set4):S1:=.one (.eref Unit 4 (fun _ j=>[Cell.v (.int .u64 t.a),Cell.v (.int .u64 t.b),Cell.v (.int .u64 t.c),Cell.v (.int .u64 t.d)].getD j (.v undef)) () 0)
theorem I87 (s:Str):cutP s [91,58]=if B76 91 58 s=true then [H7 (s.drop 2),H1 true] else [H7 s,H1 false]:=by
 have e:(s.take ([91,58]:Str).length=[91,58])↔B76 91 58 s=true:=by
  unfold B76
  rw [decide_eq_true_eq]
  match s with
  | []=>simp
  | [a]=>simp
  | a::b::r=>simp
 unfold cutP
 by_cases h:B76 91 58 s=true
 ·rw [if_pos (e.2 h),if_pos h];rfl
 ·rw [if_neg (fun g=>h (e.1 g)),if_neg h]
theorem E68 {K:List Nat} (h870:G4 K 870=true) (h872:G4 K 872=true) {s:Str} {st:PSt} (t:Set4) (ht4:T5 t) (hs:SOk s st):PX 172 [L9,(W5 t).s1] K s st (B01 s t st) (fun t'=>[(W5 t').s1]):=by
 intro gf ob Z hI
 have hz:=hI.z.self
 have hlen:=hs.len
 have hat:=hs.at_
 have hfree:C1 (PObs s st Z) 870=none:=hz.none (.inr h870)
 obtain ⟨rest,hrest⟩:∃rest,rest=s.drop st.at_:=⟨_,rfl⟩
 have hrl:rest.length=s.length - st.at_:=by rw [hrest,L12]
 have hcp:=G96 (s.drop ((st.at_:Nat):Int).toNat) [91,58]
 rw [L03,←hrest,I87] at hcp
 have hin:B01 s t st=if B76 91 58 rest=true then (if Lib.index (rest.drop 2) [58,93] < 0 then .error 40 else match B75 t ((rest.drop 2).take (Lib.index (rest.drop 2) [58,93]).toNat) with
   | none=>.error 40
   | some t'=>.ok (st.skip (4+(Lib.index (rest.drop 2) [58,93]).toNat),t')) else match s[st.at_]? with
   | none=>.error 40
   | some c=>if (s.drop (st.at_+1)).length < 2∨(s.drop (st.at_+1))[0]?≠some 45∨(s.drop (st.at_+1))[1]?=some 93 then .ok (st.skip 1,t.with_ c.toNat)
    else if ((s.drop (st.at_+1)).getD 1 0).toNat < c.toNat then .error 40
    else .ok (st.skip 3,t.through c.toNat ((s.drop (st.at_+1)).getD 1 0).toNat):=by unfold B01;rw [←hrest];rfl
 refine MetX.introH Tryz.func172 (by decide) rfl rfl rfl (fun hH=>?_)
 refine D3 (l4 (l:=[(0,.s L9),(1,.s (W5 t).s1)]) hI ⟨le1 rfl,le1 rfl,trivial⟩ hH (by repeat (first | exact A8 | refine A9 rfl ?_))) ?_
 refine k2 ?_;refine A3 ?_;refine A6 (o5 rfl rfl rfl) rfl ?_;refine D1 (A78 870 hfree (by decide)) rfl ?_;refine A5 ?_;refine k1 ?_;refine k2 ?_;refine k2 ?_;refine D3 (fr':=[(0,.s L9),(3,.s (setE t)),(4,.s (.one (.ref 870 0)))]++C0 K gf) (ob':=(870,F94 0 0 0 0)::PObs s st Z) (K76 ⟨le1 rfl,le1 rfl,le1 rfl,trivial⟩ (C6 hH) (by repeat (first | exact A8 | refine A9 rfl ?_ | refine F8 _ h870 ?_)) (E4 (L:=[(870,_),(810,_),(811,_)]) ⟨rfl,rfl,rfl,trivial⟩ (fun j x hj hx=>by
  have h1:=hz.key j x hx
  rw [B4 (fun e=>by rw [←e,h870] at h1;cases h1.2)]
  exact (hz.pin.fgt h870).sub j x hx))) ?_
 by_cases hst:B76 91 58 rest=true
 ·rw [if_pos hst] at hcp hin
  obtain ⟨r,hr⟩:∃r,r=rest.drop 2:=⟨_,rfl⟩
  have hrl2:r.length=rest.length - 2:=by rw [hr,L12]
  rw [←hr] at hcp hin
  have hcp2:FnOk Tryz.prog 179 [H7 (s.drop ((st.at_:Nat):Int).toNat),H7 [91,58]] (fun rs=>rs=[H7 r,H1 true]):=by rw [L03,←hrest];exact hcp
  have hl2:2≤rest.length:=by
   have:=(List.getElem?_eq_some_iff.1 (A1 hst).2).1
   omega
  refine E7 (by kernel_rfl) (by kernel_rfl) (E9 A0 A0 (B7 (B2 A0) A0 A0 (B7 (B0 A0) A0 A0 (B7 (C5 A0 A0 A0) A0 A0 (E9 A0 A0 (B7 (B2 A0) A0 A0 (B7 (B0 A0) A0 A0 (B7 (C5 A0 A0 A0) A0 A0 (B7 (B44 A0 A0 (by omega) (by omega)) A0 A0 (B7 (O7 (hcp2) A0 A0) A0 A0 (E9 A0 A0 (B7 (N2 A0 A0) A0 A0 (B7 (N2 A0 A0) A0 A0 (B7 (H5 A0 A0) A0 A0 (B7 (H5 A0 A0) A0 A0 (Q6 ?_))))))))))))))));refine k1 (k2 (A3 (A4 A0 A0 (A5 ?_))));refine k1 ?_;refine B1 rfl (fun ht=>?_) (fun ht=>?_)
  rotate_left
  ·cases ht
  refine k2 ?_
  by_cases hx:Lib.index r [58,93] < 0
  ·rw [if_pos hx] at hin
   refine A3 (A4 A0 A0 (C9 (cut_no r (by omega) hx) A0 A0 A0 ?_));rintro _ rfl;refine A4 A0 A0 (E8 A0 A0 A0 (E8 A0 A0 A0 (E8 A0 A0 A0 (A7 A0 A0 (A7 A0 A0 (A7 A0 A0 (A5 ?_)))))));refine k1 (k2 (k2 (A3 (A4 A0 A0 (A6 (S2 A0) A0 (A5 ?_))))));refine k1 ?_;refine B1 rfl (fun ht=>?_) (fun ht=>?_)
   ·skip
    refine A3 (A6 (J4 A0 (by kernel_rfl)) A0 (P1 A0 ?_))
    exact I2 (by repeat (first | exact A8 | refine A9 rfl ?_)) (ZOk.sub (K:=K) ((hz.pin).cons (.inr h870))) ⟨hin,rfl⟩
   ·cases ht
  ·rw [if_neg hx] at hin
   have hroom:=Lib.index_room r [58,93] (by omega)
   rw [show (([58,93]:Str).length:Int)=2 from rfl] at hroom
   obtain ⟨k,hk⟩:∃k:Nat,k=(Lib.index r [58,93]).toNat:=⟨_,rfl⟩
   have hcy:=cut_yes r (by omega) hx
   rw [←hk] at hin hcy
   have hnl:(r.take k).length=k:=by rw [L10];omega
   refine A3 (A4 A0 A0 (C9 (hcy) A0 A0 A0 ?_));rintro _ rfl;refine A4 A0 A0 (E8 A0 A0 A0 (E8 A0 A0 A0 (E8 A0 A0 A0 (A7 A0 A0 (A7 A0 A0 (A7 A0 A0 (A5 ?_)))))));refine k1 (k2 (k2 (A3 (A4 A0 A0 (A6 (S2 A0) A0 (A5 ?_))))));refine k1 ?_;refine B1 rfl (fun ht=>?_) (fun ht=>?_)
   ·cases ht
   refine k5 (k1 (k2 (A3 (A4 A0 A0 (A6 (B2 A0) A0 (A6 (B0 A0) A0 (G3 A0 A0 A0 A0 (A4 A0 A0 (A6 (J7 A0) A0 (E3 A0 A0 A0 (E3 A0 A0 A0 (E3 A0 A0 A0 (A6 (B2 A0) A0 (A6 (B0 A0) A0 (G1 (B9 TySz.out A0 A0 A0 A0 A0 A0) (A5 ?_))))))))))))))))
   rw [show ((st.at_:Int)+(2+((r.take k).length:Int)+2))=((st.at_+(4+k):Nat):Int) by omega]
   refine k1 (k2 ?_)
   have hz8:ZOk K Z ((870,F94 0 0 0 0)::PObs s st Z):=hz.pin.cons (.inr h870)
   cases hnm:B75 t (r.take k) with
   | none =>
    rw [hnm] at hin
    refine D3 (fr':=[(3,.s (setE t)),(7,Z9 (r.take k))]++C0 K gf) (ob':=PObs s (st.skip (4+k)) Z) (K76 ⟨le1 rfl,le1 rfl,trivial⟩ (C6 hH) (by repeat (first | exact A8 | refine A9 rfl ?_)) (O8 (K:=K) ⟨rfl,rfl,hz8.cons (.inl rfl)⟩)) ?_
    refine A3 (A6 (E1 A0 A0) A0 (A4 A0 A0 ?_));refine M7 (J97 (K:=K) h872 t (r.take k) hnm _ _ Z ⟨rfl,rfl,by repeat (first | exact hz | refine ZOk.cons ?_ (.inl rfl) | refine ZOk.cons ?_ (.inr hz.k8.h811))⟩) (by repeat (first | exact FreeKs.nil | exact FreeKs.gf M1 | exact FreeKs.gf (R6 rfl) | exact FreeKs.gf (O9 hzK.k8) | exact FreeKs.gf hsub | refine FreeKs.cons (fun _ _=>rfl) ?_ | refine FreeKs.cons (J6 hz.k8) ?_ | refine FreeKs.cons (M3 hz.k8) ?_ | refine FreeKs.cons ks_own ?_ | refine FreeKs.cons (M2 rfl) ?_)) rfl rfl rfl ?_ ?_
    ·(rintro e ob' ⟨hR,rfl⟩;cases hR;exact I2 (by repeat (first | exact A8 | refine A9 rfl ?_)) (fun _ _ h=>h) ⟨hin,rfl⟩)
    rintro _ _ ⟨_,_,hR,_,_⟩;cases hR
   | some t' =>
    rw [hnm] at hin
    refine A3 (A6 (E1 A0 A0) A0 (A4 A0 A0 (C9 (K53 t t' ht4 (r.take k) hnm) A0 A0 A0 ?_)));rintro _ rfl;refine G1 (B9 TySz.out A0 A0 A0 A0 A0 A0) (A5 ?_);refine k1 (k10 (k11 ?_))
    exact J3 (I86 rfl rfl rfl rfl) (by repeat (first | exact A8 | refine A9 rfl ?_)) (O8 (K:=K) (st:=st.skip (4+k)) ⟨rfl,rfl,(hz8.cons (.inl rfl)).cons (.inr h870)⟩) ⟨st.skip (4+k),t',hin,rfl,rfl⟩
 ·rw [if_neg hst] at hcp hin
  have hcp2:FnOk Tryz.prog 179 [H7 (s.drop ((st.at_:Nat):Int).toNat),H7 [91,58]] (fun rs=>rs=[H7 rest,H1 false]):=by rw [L03,←hrest];exact hcp
  refine E7 (by kernel_rfl) (by kernel_rfl) (E9 A0 A0 (B7 (B2 A0) A0 A0 (B7 (B0 A0) A0 A0 (B7 (C5 A0 A0 A0) A0 A0 (E9 A0 A0 (B7 (B2 A0) A0 A0 (B7 (B0 A0) A0 A0 (B7 (C5 A0 A0 A0) A0 A0 (B7 (B44 A0 A0 (by omega) (by omega)) A0 A0 (B7 (O7 (hcp2) A0 A0) A0 A0 (E9 A0 A0 (B7 (N2 A0 A0) A0 A0 (B7 (N2 A0 A0) A0 A0 (B7 (H5 A0 A0) A0 A0 (B7 (H5 A0 A0) A0 A0 (Q6 ?_))))))))))))))));refine k1 (k2 (A3 (A4 A0 A0 (A5 ?_))));refine k1 ?_;refine B1 rfl (fun ht=>?_) (fun ht=>?_)
  ·cases ht
  refine k5 (k1 (k2 ?_))
  have hk0:KOk [811]:=⟨rfl,rfl⟩
  have hn8:C1 Z 870=none:=hz.none (.inr h870)
  have hzK:=hz
  obtain ⟨Z0,hZ0⟩:∃Z0:Obs,Z0=(870,F94 0 0 0 0)::Z:=⟨_,rfl⟩
  have hz0:ZOk [811] Z0 Z0:=by
   rw [hZ0]
   exact ZOk.own ((hz.less hk0 (O9 hz.k8)).consZ hn8) ⟨by decide,rfl⟩ (fun j hj=>rfl) (C4 _ _ _)
  have hfin:∀(x:Ob) (st1:PSt),ZOk K Z ((870,x)::PObs s st1 Z0):=fun x st1=>by
   rw [hZ0]
   exact ((((hzK.cons (i:=870) (.inr h870)).cons (i:=811) (.inr hzK.k8.h811)).cons (i:=810) (.inl rfl)).cons (i:=870) (.inr h870))
  have hfin0:∀(st1:PSt),ZOk K Z (PObs s st1 Z0):=fun st1=>by
   rw [hZ0]
   exact (((hzK.cons (i:=870) (.inr h870)).cons (i:=811) (.inr hzK.k8.h811)).cons (i:=810) (.inl rfl))
  refine D3 (fr':=[(0,.s L9),(3,.s (setE t)),(4,.s (.one (.ref 870 0)))]++C0 K gf) (ob':=PObs s st Z0) (K76 ⟨le1 rfl,le1 rfl,le1 rfl,trivial⟩ (C6 hH) (by repeat (first | exact A8 | refine A9 rfl ?_)) (by
   rw [hZ0]
   exact E4 (L:=[(810,_),(811,_),(870,_)]) ⟨rfl,rfl,rfl,trivial⟩ (by repeat (first | exact D5 | refine D8 rfl ?_)))) ?_
  have hz:=hz0
  refine A3 (A4 A0 A0 ?_);refine M7 (G98 (K:=[811]) hs _ _ Z0 ⟨rfl,rfl,by repeat (first | exact hz | refine ZOk.cons ?_ (.inl rfl) | refine ZOk.cons ?_ (.inr hz.k8.h811))⟩) (by repeat (first | exact FreeKs.nil | exact FreeKs.gf M1 | exact FreeKs.gf (R6 rfl) | exact FreeKs.gf (O9 hzK.k8) | exact FreeKs.gf hsub | refine FreeKs.cons (fun _ _=>rfl) ?_ | refine FreeKs.cons (J6 hz.k8) ?_ | refine FreeKs.cons (M3 hz.k8) ?_ | refine FreeKs.cons ks_own ?_ | refine FreeKs.cons (M2 rfl) ?_)) rfl rfl rfl ?_ ?_
  ·(rintro e ob' ⟨hR,rfl⟩;exact I2 (by repeat (first | exact A8 | refine A9 rfl ?_)) (ZOk.sub (K:=K) (by rw [hZ0];exact hzK.cons (i:=870) (.inr h870))) ⟨by rw [hin,(H87 hR).1,(H87 hR).2],rfl⟩)
  rintro _ _ ⟨st1,c,hR,rfl,rfl⟩;refine A7 A0 A0 (A5 ?_)
  obtain ⟨hv,rfl⟩:s[st.at_]?=some c∧st1=st.skip 1:=by
   unfold B86 at hR
   cases hv:s[st.at_]? with
   | none=>rw [hv] at hR;cases hR
   | some c2=>rw [hv] at hR;cases hR;exact ⟨rfl,rfl⟩
  rw [hv] at hin
  dsimp only at hin
  have hlt:=(List.getElem?_eq_some_iff.1 hv).1
  obtain ⟨r,hr⟩:∃r,r=s.drop (st.at_+1):=⟨_,rfl⟩
  have hrl2:r.length=s.length - (st.at_+1):=by rw [hr,L12]
  rw [←hr] at hin
  have hv0:2≤r.length→r[((0:Int)).toNat]?=some (r.getD 0 0):=fun h=>by rw [L07];show r[0]?=_;rw [L01 (by omega)];rfl
  have hv1:2≤r.length→r[((1:Int)).toNat]?=some (r.getD 1 0):=fun h=>by rw [L07];show r[1]?=_;rw [L01 (by omega)];rfl
  refine k1 (k2 (E7 (by kernel_rfl) (by kernel_rfl) (E9 A0 A0 (B7 (B2 A0) A0 A0 (B7 (B0 A0) A0 A0 (B7 (C5 A0 A0 A0) A0 A0 (E9 A0 A0 (B7 (B2 A0) A0 A0 (B7 (B0 A0) A0 A0 (B7 (C5 A0 A0 A0) A0 A0 (B7 (B44 A0 A0 (by (show (_:Int)≤_;first | omega | (dsimp only [PSt.skip];omega))) (by (show (_:Int)≤_;first | omega | (dsimp only [PSt.skip];omega)))) A0 A0 ?_)))))))))));refine B7 (H5 A0 A0) A0 A0 (Q6 ?_)
  rw [show (((st.skip 1).at_:Nat):Int).toNat=st.at_+1 from rfl,←hr]
  refine k1 (k2 (k2 (A3 (A4 A0 A0 (A6 (J7 A0) A0 (F7 A0 A0 A0 (A4 A0 A0 (B5 A0 A0 A0 A0 (fun hg=>by rw [hg];exact C2 A0 A0) ?_))))))));refine B5 A0 A0 A0 A0 (fun hg=>by have hq:=hg;(try simp at hq);rw [hg];exact R7 A0 A0 (by omega) (hv0 (by omega))) ?_;refine B5 A0 A0 A0 A0 (fun hg=>by rw [hg];exact O2 A0 A0) ?_;refine K7 A0 A0 ?_;refine A4 A0 A0 (B5 A0 A0 A0 A0 (fun hg=>by rw [hg];exact C2 A0 A0) ?_);refine B5 A0 A0 A0 A0 (fun hg=>by have hq:=hg;(try simp at hq);rw [hg];exact R7 A0 A0 (by omega) (hv1 (by omega))) ?_;refine B5 A0 A0 A0 A0 (fun hg=>by rw [hg];exact H0 A0 A0) ?_;refine K7 A0 A0 ?_;refine A5 ?_
  simp only [or_pick]
  obtain ⟨c0,hc0⟩:∃c0,c0=r.getD 0 0:=⟨_,rfl⟩
  obtain ⟨c1,hc1⟩:∃c1,c1=r.getD 1 0:=⟨_,rfl⟩
  rw [←hc0,←hc1]
  rw [←hc1] at hin
  have hcond:(((r.length:Int) < 2∨¬(c0.toNat:Int)=45)∨(c1.toNat:Int)=93)↔(r.length < 2∨r[0]?≠some 45∨r[1]?=some 93):=by
   have e45:(c0.toNat:Int)=45↔c0=45:=⟨fun h=>UInt8.toNat_inj.1 (by have:(45:UInt8).toNat=45:=rfl;omega),fun h=>by rw [h];rfl⟩
   have e93:(c1.toNat:Int)=93↔c1=93:=⟨fun h=>UInt8.toNat_inj.1 (by have:(93:UInt8).toNat=93:=rfl;omega),fun h=>by rw [h];rfl⟩
   rw [e45,e93]
   by_cases h2:r.length < 2
   ·constructor
    ·intro _;exact .inl h2
    ·intro _;exact .inl (.inl (by omega))
   ·have a0:=hv0 (by omega)
    have a1:=hv1 (by omega)
    rw [←hc0] at a0
    rw [←hc1] at a1
    have a0:r[0]?=some c0:=a0
    have a1:r[1]?=some c1:=a1
    rw [a0,a1]
    simp only [ne_eq,Option.some.injEq]
    constructor
    ·rintro ((h | h) | h)
     ·omega
     ·exact .inr (.inl h)
     ·exact .inr (.inr h)
    ·rintro (h | h | h)
     ·omega
     ·exact .inl (.inr h)
     ·exact .inr h
  refine k1 ?_;refine B1 rfl (fun ht=>?_) (fun ht=>?_)
  ·have hc2:=hcond.1 (A1 ht)
   rw [if_pos hc2] at hin
   refine k2 (A3 (A6 (E1 A0 A0) A0 (A4 A0 A0 (C9 (D40 t ht4 c) A0 A0 A0 ?_))));rintro _ rfl;refine G1 (B9 TySz.out A0 (by rw [hZ0];rfl) A0 A0 A0 A0) ?_;refine A5 ?_;refine k1 (k10 (k11 ?_))
   exact J3 (I86 rfl rfl rfl rfl) (by repeat (first | exact A8 | refine A9 rfl ?_)) (O8 (K:=K) (st:=st.skip 1) ⟨rfl,rfl,hfin _ _⟩) ⟨st.skip 1,t.with_ c.toNat,hin,rfl,rfl⟩
  have hc2:¬(r.length < 2∨r[0]?≠some 45∨r[1]?=some 93):=fun h=>A2 ht (hcond.2 h)
  rw [if_neg hc2] at hin
  have h2:2≤r.length:=by
   apply Nat.le_of_not_lt
   exact fun h=>hc2 (.inl h)
  have hv1':=hv1 h2
  rw [←hc1] at hv1'
  refine k5 (k1 (k2 (k2 (A3 (A4 A0 A0 (A6 (R7 A0 A0 (by omega) hv1') A0 (A4 A0 A0 (F7 A0 A0 A0 (A5 ?_)))))))));refine k1 ?_;refine B1 rfl (fun ht=>?_) (fun ht=>?_)
  ·have hlt1:(c1.toNat:Int) < c.toNat:=A1 ht
   rw [if_pos (by omega)] at hin
   skip
   refine A3 (A6 (J4 A0 (by kernel_rfl)) A0 (P1 A0 ?_))
   exact I2 (by repeat (first | exact A8 | refine A9 rfl ?_)) (hfin0 _).sub ⟨hin,rfl⟩
  have hle:¬(c1.toNat:Int) < c.toNat:=A2 ht
  rw [if_neg (by omega)] at hin
  refine k5 (k1 (k2 (A3 (A4 A0 A0 (A6 (B2 A0) A0 (A6 (B0 A0) A0 (G3 A0 A0 A0 A0 (A6 (l6 A0 A0 (by (dsimp only [PSt.skip];omega))) A0 ?_))))))));refine A6 (B2 A0) A0 (A6 (B0 A0) A0 (G1 (B9 TySz.out A0 A0 A0 A0 A0 A0) (A5 ?_)));refine k1 (k2 (E7 (by kernel_rfl) (by kernel_rfl) (B7 (E1 A0 A0) A0 A0 (E9 A0 A0 (E9 A0 A0 (B7 (R7 A0 A0 (by omega) hv1') A0 A0 (B7 (O7 (F26 t ht4 c c1 (by omega)) A0 A0) A0 A0 (d_eff (B9 TySz.out A0 (by rw [hZ0];rfl) A0 A0 A0 A0) A0 ?_))))))));refine Q6 ?_;refine k1 (k10 ?_)
  exact J3 (I86 rfl rfl rfl rfl) (by repeat (first | exact A8 | refine A9 rfl ?_)) (O8 (K:=K) (st:=st.skip 3) ⟨rfl,rfl,by rw [hZ0];exact (((((hzK.cons (i:=870) (.inr h870)).cons (i:=811) (.inr hzK.k8.h811)).cons (i:=810) (.inl rfl)).cons (i:=810) (.inl rfl)).cons (i:=870) (.inr h870))⟩) ⟨st.skip 3,t.through c.toNat c1.toNat,hin,rfl,rfl⟩
set_option maxHeartbeats 1000000
abbrev F95 (t:Set4):Ob:=F94 t.a t.b t.c t.d
theorem K54 {K:List Nat} (h870:G4 K 870=true) (h871:G4 K 871=true) (h872:G4 K 872=true) {s:Str} {st:PSt} (hs:SOk s st) (hlt:st.at_+1≤s.length):PX 160 [L9] K s st (B23 s (s.length+2) st) B14:=by
 intro gf ob Z hI
 have hz:=hI.z.self
 have hzK:=hz
 have hlen:=hs.len
 have hat:=hs.at_
 have hk0:KOk [811,872,870]:=⟨rfl,rfl⟩
 have hsub:∀k,G4 [811,872,870] k=true→G4 K k=true:=fun k hk=>by
  have h:=hasN_iff.1 hk
  simp only [L23,L47,or_false] at h
  rcases h with rfl | rfl | rfl
  ·exact hz.k8.h811
  ·exact h872
  ·exact h870
 have hn8:C1 Z 871=none:=hz.none (.inr h871)
 obtain ⟨Z1,hZ1⟩:∃Z1:Ob→Obs,Z1=fun x=>(871,x)::Z:=⟨_,rfl⟩
 have hz1:∀t:Set4,ZOk [811,872,870] (Z1 (F95 t)) (Z1 (F95 t)):=fun t=>by
  rw [hZ1]
  exact ZOk.own ((hz.less hk0 hsub).consZ hn8) ⟨by decide,rfl⟩ (fun j hj=>rfl) (C4 _ _ _)
 have hzz:∀(x:Ob),ZOk K Z (Z1 x):=fun x=>by rw [hZ1];exact hzK.cons (i:=871) (.inr h871)
 have hzP:∀(x:Ob) (st1:PSt),ZOk K Z (PObs s st1 (Z1 x)):=fun x st1=>(((hzz x).cons (i:=811) (.inr hzK.k8.h811)).cons (i:=810) (.inl rfl))
 have hzL:ZOk [811,872,870] Z Z:=hz.less hk0 hsub
 have g1:=O0 (s:=s) (x:=st) 1 hlt
 have hs1:=hs.gr g1 (by omega)
 have g2:=D72 (s:=s) (x:=st.skip 1) 94 g1.len
 have hs2:=hs1.gr g2 (by omega)
 obtain ⟨neg,hneg⟩:∃neg,neg=U4 s 94 (st.skip 1):=⟨_,rfl⟩
 obtain ⟨st2,hst2⟩:∃st2,st2=E47 s 94 (st.skip 1):=⟨_,rfl⟩
 have hcl:B23 s (s.length+2) st=match B01 s set0 st2 with
   | .error e=>.error e
   | .ok (st3,t)=>match B22 s (s.length+2) t st3 with
    | .error e=>.error e
    | .ok (st4,t')=>.ok (C63 (if neg=true then t'.compl else t') st4):=by rw [hst2,hneg];rfl
 have e2:(if s[st.at_+1]?=some 94 then st.at_+1+1 else st.at_+1)=st2.at_∧st.depth=st2.depth∧st.nodes=st2.nodes∧decide (s[st.at_+1]?=some 94)=neg:=by
  by_cases h:s[st.at_+1]?=some 94
  ·have hh:U4 s 94 (st.skip 1)=true:=decide_eq_true h
   have he:E47 s 94 (st.skip 1)=(st.skip 1).skip 1:=by unfold E47;rw [if_pos hh]
   rw [hst2,he,hneg,hh,if_pos h]
   exact ⟨rfl,rfl,rfl,decide_eq_true h⟩
  ·have hh:U4 s 94 (st.skip 1)=false:=decide_eq_false h
   have he:E47 s 94 (st.skip 1)=st.skip 1:=by unfold E47;rw [if_neg (by rw [hh];decide)]
   rw [hst2,he,hneg,hh,if_neg h]
   exact ⟨rfl,rfl,rfl,decide_eq_false h⟩
 rw [←hst2] at hs2 g2
 refine MetX.introH Tryz.func160 (by decide) rfl rfl rfl (fun hH=>?_)
 refine D3 (l4 (l:=[(0,.s L9)]) hI ⟨le1 rfl,trivial⟩ hH (by repeat (first | exact A8 | refine A9 rfl ?_))) ?_
 refine k2 (A3 (A7 A0 A0 (A5 ?_)));refine k1 (k2 (A3 (A4 A0 A0 (A6 (B2 A0) A0 (A6 (B0 A0) A0 (G3 A0 A0 A0 A0 (E3 A0 A0 A0 (A6 (B2 A0) A0 (A6 (B0 A0) A0 (G1 (B9 TySz.out A0 A0 A0 A0 A0 A0) (A5 ?_)))))))))));refine k1 (k2 (A3 (A4 A0 A0 (L4 (n4 s (st.at_+1) st.depth 94 hlt (by omega) A0) A0 A0 A0 ?_))));rintro _ _ ⟨rfl,rfl⟩;refine A7 A0 A0 (A5 ?_)
 rw [e2.1,e2.2.2.2]
 refine k1 (k2 ?_);refine D3 (fr':=[(0,.s L9),(3,S0 neg)]++C0 K gf) (ob':=PObs s st2 Z) (K76 ⟨le1 rfl,le1 rfl,trivial⟩ (C6 hH) (by repeat (first | exact A8 | refine A9 rfl ?_)) (O8 (K:=K) ⟨by rw [C4,e2.2.1],by rw [←e2.2.2.1];rfl,((hz.pin).cons (.inl rfl)).cons (.inl rfl)⟩)) ?_
 have hzS:=hz
 have hz:ZOk [811,872,870] Z Z:=hzL
 have hn8P:C1 (PObs s st2 Z) 871=none:=hn8
 cases hi:B01 s set0 st2 with
 | error e0 =>
  rw [hi] at hcl
  refine A3 (A4 A0 A0 (A6 (y3 A0) A0 ?_));refine M7 (E68 (K:=[811,872,870]) rfl rfl set0 A45 hs2 _ _ Z ⟨rfl,rfl,by repeat (first | exact hz | refine ZOk.cons ?_ (.inl rfl) | refine ZOk.cons ?_ (.inr hz.k8.h811))⟩) (by repeat (first | exact FreeKs.nil | exact FreeKs.gf M1 | exact FreeKs.gf (R6 rfl) | exact FreeKs.gf (O9 hzK.k8) | exact FreeKs.gf hsub | refine FreeKs.cons (fun _ _=>rfl) ?_ | refine FreeKs.cons (J6 hz.k8) ?_ | refine FreeKs.cons (M3 hz.k8) ?_ | refine FreeKs.cons ks_own ?_ | refine FreeKs.cons (M2 rfl) ?_)) rfl rfl rfl ?_ ?_
  ·(rintro e ob' ⟨hR,rfl⟩;rw [hi] at hR;cases hR;exact I2 (by repeat (first | exact A8 | refine A9 rfl ?_)) (fun _ _ h=>h) ⟨hcl,rfl⟩)
  rintro _ _ ⟨_,_,hR,_,_⟩;rw [hi] at hR;cases hR
 | ok p =>
  obtain ⟨st3,t⟩:=p
  rw [hi] at hcl
  dsimp only at hcl
  have g3:=B78 hs2.at_ hi
  have hs3:=hs2.gr g3 (by omega)
  have ht4:=G54 A45 hi
  obtain ⟨RI,hRI⟩:∃RI,RI=B22 s (s.length+2) t st3:=⟨_,rfl⟩
  rw [←hRI] at hcl
  refine A3 (A4 A0 A0 (A6 (y3 A0) A0 ?_));refine M7 (E68 (K:=[811,872,870]) rfl rfl set0 A45 hs2 _ _ Z ⟨rfl,rfl,by repeat (first | exact hz | refine ZOk.cons ?_ (.inl rfl) | refine ZOk.cons ?_ (.inr hz.k8.h811))⟩) (by repeat (first | exact FreeKs.nil | exact FreeKs.gf M1 | exact FreeKs.gf (R6 rfl) | exact FreeKs.gf (O9 hzK.k8) | exact FreeKs.gf hsub | refine FreeKs.cons (fun _ _=>rfl) ?_ | refine FreeKs.cons (J6 hz.k8) ?_ | refine FreeKs.cons (M3 hz.k8) ?_ | refine FreeKs.cons ks_own ?_ | refine FreeKs.cons (M2 rfl) ?_)) rfl rfl rfl ?_ ?_
  ·(rintro e ob' ⟨hR,rfl⟩;rw [hi] at hR;cases hR)
  rintro _ _ ⟨st3',t',hR,rfl,rfl⟩;refine D1 (A78 871 hn8 (by decide)) A0 (G1 (B9 TySz.out A0 A0 A0 A0 A0 A0) (A5 ?_))
  obtain ⟨rfl,rfl⟩:st3=st3'∧t=t':=by rw [hi] at hR;cases hR;exact ⟨rfl,rfl⟩
  refine k1 (k2 (k3 ?_));refine D2 (X:=Nat × Set4 × PSt) (fun x=>([(0,.s L9),(3,S0 neg),(4,.s (.one (.ref 871 0)))]++C0 K gf,PObs s x.2.2 (Z1 (F95 x.2.1)))) (fun x=>SOk s x.2.2∧T5 x.2.1∧s.length - x.2.2.at_ < x.1∧RI=B22 s x.1 x.2.1 x.2.2) (fun x=>x.1) (s.length+2,t,st3) ⟨hs3,ht4,by dsimp only;omega,hRI⟩ ?_ ?_
  ·dsimp only
   refine K76 ⟨le1 rfl,le1 rfl,le1 rfl,trivial⟩ (C6 hH) (by repeat (first | exact A8 | refine A9 rfl ?_ | refine F8 _ h871 ?_)) ?_
   rw [hZ1]
   exact E4 (L:=[(810,_),(811,_),(871,_)]) ⟨rfl,rfl,rfl,trivial⟩ (fun j x hj hx=>(((hzK.pin.fgt h871).cons (i:=871) (.inr h871)).cons (i:=871) (.inr h871)).sub j x hx)
  rintro ⟨f,tc,sc⟩ ⟨hsc,htc,hf,hit⟩
  dsimp only at hsc htc hf hit ⊢
  obtain ⟨f,rfl⟩:∃g,f=g+1:=⟨f - 1,by omega⟩
  rw [B22] at hit
  have hz:=hz1 tc
  refine k2 (k2 (A3 (A4 A0 A0 (L4 (n4 s sc.at_ sc.depth 93 hsc.at_ (by omega) A0) A0 A0 A0 ?_))));rintro _ _ ⟨rfl,rfl⟩;refine A6 (S2 A0) A0 (A5 ?_)
  by_cases h93:s[sc.at_]?=some 93
  ·have hh:U4 s 93 sc=true:=decide_eq_true h93
   have hs4:=hsc.gr (O0 (s:=s) (x:=sc) 1 (l5 hh)) (by omega)
   have hn4:=hs4.nds
   have ha4:=hs4.at_
   rw [if_pos hh] at hit
   rw [hit] at hcl
   dsimp only at hcl
   rw [decide_eq_true h93,if_pos h93]
   refine k1 ?_;refine B1 rfl (fun ht=>?_) (fun ht=>?_)
   ·cases ht
   refine k6 (k2 (k2 ?_))
   obtain ⟨tf,htf⟩:∃tf,tf=if neg=true then tc.compl else tc:=⟨_,rfl⟩
   rw [←htf] at hcl
   refine A3 (A4 A0 A0 (A5 ?_));refine k1 ?_;refine A87 ([(0,.s L9),(4,.s (.one (.ref 871 0)))]++C0 K gf) (PObs s (sc.skip 1) (Z1 (F95 tf))) ?_ ?_
   ·skip
    refine B1 rfl (fun ht=>?_) (fun ht=>?_)
    ·have hb:neg=true:=ht
     rw [if_pos hb] at htf
     subst htf
     skip
     refine A3 (A6 (J5 A0 (by rw [hZ1];rfl) A0) A0 ?_);refine C9 (C77 tc htc) A0 A0 A0 ?_;rintro _ rfl;refine G1 (B9 TySz.out A0 (by rw [hZ1];rfl) A0 A0 A0 A0) ?_;refine A5 ?_;refine k1 ?_;refine K76 ⟨le1 rfl,le1 rfl,trivial⟩ (C6 hH) (by repeat (first | exact A8 | refine A9 rfl ?_)) ?_
     rw [hZ1]
     exact E4 (L:=[(810,_),(811,_),(871,_)]) ⟨rfl,rfl,rfl,trivial⟩ (fun j x hj hx=>by
      have:=hzP (F95 tc) sc
      rw [hZ1] at this
      exact ((this.cons (i:=810) (.inl rfl)).cons (i:=871) (.inr h871)).sub j x hx)
    ·have hb:neg=false:=ht
     rw [if_neg (by rw [hb];decide)] at htf
     subst htf
     refine k5 (k1 ?_)
     exact K76 ⟨le1 rfl,le1 rfl,trivial⟩ (C6 hH) (by repeat (first | exact A8 | refine A9 rfl ?_)) (O8 (K:=[811,872,870]) (st:=sc.skip 1) ⟨rfl,rfl,by repeat (first | exact hz | refine ZOk.cons ?_ (.inl rfl) | refine ZOk.cons ?_ (.inr hz.k8.h811))⟩)
   refine k2 ?_
   have hz:=hz1 tf
   refine A3 (A4 A0 A0 (A6 (J5 A0 (by rw [hZ1];rfl) A0) A0 ?_));refine B54 (G99 (K:=[811,872,870]) (s:=s) (st:=sc.skip 1) (Z:=Z1 (F95 tf)) tf (by omega) ⟨rfl,rfl,by repeat (first | exact hz | refine ZOk.cons ?_ (.inl rfl) | refine ZOk.cons ?_ (.inr hz.k8.h811))⟩) (by repeat (first | exact FreeKs.nil | exact FreeKs.gf M1 | exact FreeKs.gf (R6 rfl) | exact FreeKs.gf (O9 hzK.k8) | exact FreeKs.gf hsub | refine FreeKs.cons (fun _ _=>rfl) ?_ | refine FreeKs.cons (J6 hz.k8) ?_ | refine FreeKs.cons (M3 hz.k8) ?_ | refine FreeKs.cons ks_own ?_ | refine FreeKs.cons (M2 rfl) ?_)) rfl rfl rfl ?_;rintro _ _ ⟨rfl,rfl⟩;refine A7 A0 A0 (A5 ?_);refine k1 (k10 ?_)
   exact J3 (I8 rfl rfl) (by repeat (first | exact A8 | refine A9 rfl ?_)) (O8 (K:=K) (st:=(C63 tf (sc.skip 1)).1) ⟨rfl,rfl,hzP _ _⟩) ⟨(C63 tf (sc.skip 1)).1,(C63 tf (sc.skip 1)).2,hcl,rfl,rfl⟩
  ·have hh:U4 s 93 sc=false:=decide_eq_false h93
   rw [if_neg (by rw [hh];decide)] at hit
   rw [decide_eq_false h93,if_neg h93]
   refine k1 ?_;refine B1 rfl (fun ht=>?_) (fun ht=>?_)
   rotate_left
   ·cases ht
   refine k5 (k1 (k3 ?_))
   cases hi2:B01 s tc sc with
   | error e0 =>
    rw [hi2] at hit
    rw [hit] at hcl
    refine A3 (A4 A0 A0 (A6 (J5 A0 (by rw [hZ1];rfl) A0) A0 ?_));refine M7 (E68 (K:=[811,872,870]) rfl rfl tc htc hsc _ _ (Z1 (F95 tc)) ⟨rfl,rfl,by repeat (first | exact hz | refine ZOk.cons ?_ (.inl rfl) | refine ZOk.cons ?_ (.inr hz.k8.h811))⟩) (by repeat (first | exact FreeKs.nil | exact FreeKs.gf M1 | exact FreeKs.gf (R6 rfl) | exact FreeKs.gf (O9 hzK.k8) | exact FreeKs.gf hsub | refine FreeKs.cons (fun _ _=>rfl) ?_ | refine FreeKs.cons (J6 hz.k8) ?_ | refine FreeKs.cons (M3 hz.k8) ?_ | refine FreeKs.cons ks_own ?_ | refine FreeKs.cons (M2 rfl) ?_)) rfl rfl rfl ?_ ?_
    ·(rintro e ob' ⟨hR2,rfl⟩;rw [hi2] at hR2;cases hR2;exact I2 (by repeat (first | exact A8 | refine A9 rfl ?_)) (hzz _).sub ⟨hcl,rfl⟩)
    rintro _ _ ⟨_,_,hR2,_,_⟩;rw [hi2] at hR2;cases hR2
   | ok p2 =>
    obtain ⟨sd,td⟩:=p2
    rw [hi2] at hit
    dsimp only at hit
    have gd:=B78 hsc.at_ hi2
    have gc:=gd.cnt
    have ga:=gd.len
    have gb:=gd.at_
    have gm:=gd.more
    refine A3 (A4 A0 A0 (A6 (J5 A0 (by rw [hZ1];rfl) A0) A0 ?_));refine M7 (E68 (K:=[811,872,870]) rfl rfl tc htc hsc _ _ (Z1 (F95 tc)) ⟨rfl,rfl,by repeat (first | exact hz | refine ZOk.cons ?_ (.inl rfl) | refine ZOk.cons ?_ (.inr hz.k8.h811))⟩) (by repeat (first | exact FreeKs.nil | exact FreeKs.gf M1 | exact FreeKs.gf (R6 rfl) | exact FreeKs.gf (O9 hzK.k8) | exact FreeKs.gf hsub | refine FreeKs.cons (fun _ _=>rfl) ?_ | refine FreeKs.cons (J6 hz.k8) ?_ | refine FreeKs.cons (M3 hz.k8) ?_ | refine FreeKs.cons ks_own ?_ | refine FreeKs.cons (M2 rfl) ?_)) rfl rfl rfl ?_ ?_
    ·(rintro e ob' ⟨hR2,rfl⟩;rw [hi2] at hR2;cases hR2)
    rintro _ _ ⟨sd',td',hR2,rfl,rfl⟩;refine G1 (B9 TySz.out A0 (by rw [hZ1];rfl) A0 A0 A0 A0) ?_;refine A5 ?_
    obtain ⟨rfl,rfl⟩:sd=sd'∧td=td':=by rw [hi2] at hR2;cases hR2;exact ⟨rfl,rfl⟩
    refine k4 (k1 ?_);refine ⟨(f,td,sd),⟨hsc.gr gd (by omega),G54 htc hi2,?_,hit⟩,Nat.lt_succ_self f,?_⟩
    ·dsimp only
     omega
    ·dsimp only
     refine K76 ⟨le1 rfl,le1 rfl,le1 rfl,trivial⟩ (C6 hH) (by repeat (first | exact A8 | refine A9 rfl ?_)) ?_
     rw [hZ1]
     exact E4 (L:=[(810,_),(811,_),(871,_)]) ⟨rfl,rfl,rfl,trivial⟩ (fun j x hj hx=>by
      have:=hzP (F95 tc) sd
      rw [hZ1] at this
      exact (this.cons (i:=871) (x:=F95 td) (.inr h871)).sub j x hx)
set_option maxHeartbeats 1000000
theorem G31 {K:List Nat} {s:Str} {st:PSt} (hs:SOk s st) (hlt:st.at_+1≤s.length) (kind:Int):PX 139 [L9,R5 kind] K s st (n9 s kind st) B14:=by
 intro gf ob Z hI
 have hz:=hI.z.self
 have hlen:=hs.len
 have hn:=hs.nds
 obtain ⟨st1,hst1⟩:∃st1,st1=(D17 ⟨kind,set0,0,0,[]⟩ (st.skip 1)).1:=⟨_,rfl⟩
 have hA:n9 s kind st=match s[st.at_+1]? with
  | some c=>if c∈([42,43,63,123]:Str) then .error 40 else .ok (st1,((st.skip 1).nodes.length:Int))
  | none=>.ok (st1,((st.skip 1).nodes.length:Int)):=by rw [hst1];rfl
 have ha1:st1.at_=st.at_+1:=by rw [hst1];rfl
 refine MetX.introH Tryz.func139 (by decide) rfl rfl rfl (fun hH=>?_)
 refine D3 (l4 (l:=[(0,.s L9),(1,.s (R5 kind))]) hI ⟨le1 rfl,le1 rfl,trivial⟩ hH (by repeat (first | exact A8 | refine A9 rfl ?_))) ?_
 refine k2 (A3 (A7 A0 A0 (A5 ?_)));refine k1 (k2 (A3 (A4 A0 A0 (A6 (B2 A0) A0 (A6 (B0 A0) A0 (G3 A0 A0 A0 A0 (E3 A0 A0 A0 (A6 (B2 A0) A0 (A6 (B0 A0) A0 (G1 (B9 TySz.out A0 A0 A0 A0 A0 A0) (A5 ?_)))))))))));refine k1 (k2 (A3 (A4 A0 A0 (A4 A0 A0 (A6 (K0 A0) A0 (E80 ((K82 Int 1 F2 17 7 A0 A0)) ?_))))));refine B54 (add_pm (K:=K) (s:=s) (st:=st.skip 1) (Z:=Z) ⟨kind,set0,0,0,[]⟩ (show st.nodes.length≤1000 by omega) ⟨rfl,rfl,by repeat (first | exact hz | refine ZOk.cons ?_ (.inl rfl) | refine ZOk.cons ?_ (.inr hz.k8.h811))⟩) (by repeat (first | exact FreeKs.nil | exact FreeKs.gf M1 | exact FreeKs.gf (R6 rfl) | exact FreeKs.gf (O9 hzK.k8) | exact FreeKs.gf hsub | refine FreeKs.cons (fun _ _=>rfl) ?_ | refine FreeKs.cons (J6 hz.k8) ?_ | refine FreeKs.cons (M3 hz.k8) ?_ | refine FreeKs.cons ks_own ?_ | refine FreeKs.cons (M2 rfl) ?_)) rfl rfl rfl ?_;rintro _ _ ⟨rfl,rfl⟩;refine A7 A0 A0 (A5 ?_)
 rw [←hst1]
 refine k1 (k2 (k2 ?_))
 by_cases hm:st.at_+1 < s.length
 ·have hv:s[st.at_+1]?=some (s.getD (st.at_+1) 0):=by rw [L07,L01 hm];rfl
  obtain ⟨c,hc⟩:∃c,c=s.getD (st.at_+1) 0:=⟨_,rfl⟩
  rw [←hc] at hv
  rw [hv] at hA
  dsimp only at hA
  refine A3 (A4 A0 A0 (L4 (B32 s st1.at_ st1.depth (by omega) (by omega) A0) A0 A0 A0 ?_));rintro _ _ ⟨rfl,rfl⟩;refine A4 A0 A0 (E8 A0 A0 A0 (E8 A0 A0 A0 (A7 A0 A0 (A7 A0 A0 (A5 ?_)))))
  rw [ha1,decide_eq_true hm,←hc]
  refine k1 (k2 (A3 (A4 A0 A0 (A4 A0 A0 (G9 A0 A0 A0 A0 (A4 A0 A0 (G9 A0 A0 A0 A0 (C9 (G78 [42,43,63,123] c) A0 A0 A0 ?_))))))));rintro _ rfl;refine G9 A0 A0 A0 A0 (A6 (V2 A0 A0) A0 (A6 (S9 A0 (rfl) A0) A0 (A5 ?_)));refine k1 ?_;refine B1 rfl (fun ht=>?_) (fun ht=>?_)
  ·have hcm:=(B18 c _).1 (A1 ht)
   skip
   refine A3 (A6 (J4 A0 (by kernel_rfl)) A0 (P1 A0 ?_))
   exact I2 (by repeat (first | exact A8 | refine A9 rfl ?_)) hz.pobs ⟨by rw [hA];exact if_pos hcm,rfl⟩
  have hcm:¬c∈([42,43,63,123]:Str):=fun e=>A2 ht ((B18 c _).2 e)
  refine k5 (k1 (k2 (A3 (A4 A0 A0 (A7 A0 A0 (A5 ?_))))));refine k1 (k10 ?_)
  exact J3 (I8 rfl rfl) (by repeat (first | exact A8 | refine A9 rfl ?_)) (O8 (K:=K) (st:=st1) ⟨rfl,rfl,by repeat (first | exact hz | refine ZOk.cons ?_ (.inl rfl) | refine ZOk.cons ?_ (.inr hz.k8.h811))⟩) ⟨st1,_,by rw [hA];exact if_neg hcm,rfl,rfl⟩
 rw [L18 (show s.length≤st.at_+1 by omega)] at hA
 refine A3 (A4 A0 A0 (L4 (B32 s st1.at_ st1.depth (by omega) (by omega) A0) A0 A0 A0 ?_));rintro _ _ ⟨rfl,rfl⟩;refine A4 A0 A0 (E8 A0 A0 A0 (E8 A0 A0 A0 (A7 A0 A0 (A7 A0 A0 (A5 ?_)))))
 rw [ha1,decide_eq_false hm]
 refine k1 (k2 (A3 (A4 A0 A0 (A4 A0 A0 (K1 A0 A0 A0 (by decide) A0 (K1 A0 A0 A0 (by decide) A0 (K1 A0 A0 A0 (by decide) A0 (A6 (V5 A0 (rfl) A0) A0 (A5 ?_)))))))));refine k1 ?_;refine B1 rfl (fun ht=>?_) (fun ht=>?_)
 ·cases ht
 refine k5 (k1 (k2 (A3 (A4 A0 A0 (A7 A0 A0 (A5 ?_))))));refine k1 (k10 ?_)
 exact J3 (I8 rfl rfl) (by repeat (first | exact A8 | refine A9 rfl ?_)) (O8 (K:=K) (st:=st1) ⟨rfl,rfl,by repeat (first | exact hz | refine ZOk.cons ?_ (.inl rfl) | refine ZOk.cons ?_ (.inr hz.k8.h811))⟩) ⟨st1,_,hA,rfl,rfl⟩
def G32 (c:UInt8):FuncId:=if c=40 then 159 else if c=91 then 160 else if c=46 then 161 else if c=92 then 162 else 163
def stepP (st:PSt) (c:UInt8):Ps FuncId:=if c∈([42,43,63,123]:Str) then .error 40 else .ok (st,G32 c)
abbrev cloR:FuncId→List S1:=fun f=>[.one (.clo f [(810,0)] [])]
theorem J44 {K:List Nat} {s:Str} {st:PSt} (c:UInt8):PX 140 [L9,A34 c] K s st (stepP st c) cloR:=by
 intro gf ob Z hI
 have hz:=hI.z.self
 have hu:∀k:UInt8,(c.toNat:Int)=k.toNat→c=k:=fun k e=>UInt8.toNat_inj.1 (by omega)
 have hno:∀k:UInt8,¬((c.toNat:Int)=k.toNat)→¬c=k:=fun k h e=>h (by rw [e])
 refine MetX.introH Tryz.func140 (by decide) rfl rfl rfl (fun hH=>?_)
 refine D3 (l4 (l:=[(0,.s L9),(1,.s (A34 c))]) hI ⟨le1 rfl,le1 rfl,trivial⟩ hH (by repeat (first | exact A8 | refine A9 rfl ?_))) ?_
 refine k2 (A3 (A7 A0 A0 (A5 ?_)));refine k1 (k2 (k2 (A3 (A4 A0 A0 (A5 ?_)))));refine k1 (k3 (k2 (A3 (A6 (H0 A0 A0) A0 (A7 A0 A0 (A5 ?_))))));refine k1 ?_;refine B1 rfl (fun ht=>?_) (fun ht=>?_)
 ·have hc:=hu 40 (A1 ht)
  refine k2 (A3 (A4 A0 A0 (A6 (Y7 A0 A0) A0 (A7 A0 A0 (A5 ?_)))));refine k1 (k10 (k12 (k11 ?_)))
  exact J3 (I8 rfl rfl) (by repeat (first | exact A8 | refine A9 rfl ?_)) (O8 (K:=K) (st:=st) ⟨rfl,rfl,by repeat (first | exact hz | refine ZOk.cons ?_ (.inl rfl) | refine ZOk.cons ?_ (.inr hz.k8.h811))⟩) ⟨st,_,by rw [hc];rfl,rfl,rfl⟩
 have h40:=hno 40 (A2 ht)
 refine k2 (A3 (A6 (H0 A0 A0) A0 (A7 A0 A0 (A5 ?_))));refine k1 ?_;refine B1 rfl (fun ht=>?_) (fun ht=>?_)
 ·have hc:=hu 91 (A1 ht)
  refine k2 (A3 (A4 A0 A0 (A6 (Y7 A0 A0) A0 (A7 A0 A0 (A5 ?_)))));refine k1 (k10 (k12 (k11 ?_)))
  exact J3 (I8 rfl rfl) (by repeat (first | exact A8 | refine A9 rfl ?_)) (O8 (K:=K) (st:=st) ⟨rfl,rfl,by repeat (first | exact hz | refine ZOk.cons ?_ (.inl rfl) | refine ZOk.cons ?_ (.inr hz.k8.h811))⟩) ⟨st,_,by rw [hc];rfl,rfl,rfl⟩
 have h91:=hno 91 (A2 ht)
 refine k2 (A3 (A6 (H0 A0 A0) A0 (A7 A0 A0 (A5 ?_))));refine k1 ?_;refine B1 rfl (fun ht=>?_) (fun ht=>?_)
 ·have hc:=hu 46 (A1 ht)
  refine k2 (A3 (A4 A0 A0 (A6 (Y7 A0 A0) A0 (A7 A0 A0 (A5 ?_)))));refine k1 (k10 (k12 (k11 ?_)))
  exact J3 (I8 rfl rfl) (by repeat (first | exact A8 | refine A9 rfl ?_)) (O8 (K:=K) (st:=st) ⟨rfl,rfl,by repeat (first | exact hz | refine ZOk.cons ?_ (.inl rfl) | refine ZOk.cons ?_ (.inr hz.k8.h811))⟩) ⟨st,_,by rw [hc];rfl,rfl,rfl⟩
 have h46:=hno 46 (A2 ht)
 refine k2 (A3 (A6 (H0 A0 A0) A0 (A7 A0 A0 (A5 ?_))));refine k1 ?_;refine B1 rfl (fun ht=>?_) (fun ht=>?_)
 ·have hc:=hu 92 (A1 ht)
  refine k2 (A3 (A4 A0 A0 (A6 (Y7 A0 A0) A0 (A7 A0 A0 (A5 ?_)))));refine k1 (k10 (k12 (k11 ?_)))
  exact J3 (I8 rfl rfl) (by repeat (first | exact A8 | refine A9 rfl ?_)) (O8 (K:=K) (st:=st) ⟨rfl,rfl,by repeat (first | exact hz | refine ZOk.cons ?_ (.inl rfl) | refine ZOk.cons ?_ (.inr hz.k8.h811))⟩) ⟨st,_,by rw [hc];rfl,rfl,rfl⟩
 have h92:=hno 92 (A2 ht)
 refine k2 (k2 (A3 (A6 (H0 A0 A0) A0 (A7 A0 A0 (A5 ?_)))));refine k1 ?_;refine B1 rfl (fun ht=>?_) (fun ht=>?_)
 ·have hc:=hu 42 (A1 ht)
  refine k5 (k1 ?_);refine B1 rfl (fun ht=>?_) (fun ht=>?_)
  ·skip
   refine A3 (A6 (J4 A0 (by kernel_rfl)) A0 (P1 A0 ?_))
   exact I2 (by repeat (first | exact A8 | refine A9 rfl ?_)) hz.pobs ⟨by rw [hc];rfl,rfl⟩
  ·rw [hc] at ht;cases ht
 have h42:=hno 42 (A2 ht)
 refine k2 (A3 (A6 (H0 A0 A0) A0 (A7 A0 A0 (A5 ?_))));refine k1 ?_;refine B1 rfl (fun ht=>?_) (fun ht=>?_)
 ·have hc:=hu 43 (A1 ht)
  refine k5 (k1 ?_);refine B1 rfl (fun ht=>?_) (fun ht=>?_)
  ·skip
   refine A3 (A6 (J4 A0 (by kernel_rfl)) A0 (P1 A0 ?_))
   exact I2 (by repeat (first | exact A8 | refine A9 rfl ?_)) hz.pobs ⟨by rw [hc];rfl,rfl⟩
  ·rw [hc] at ht;cases ht
 have h43:=hno 43 (A2 ht)
 refine k2 (A3 (A6 (H0 A0 A0) A0 (A7 A0 A0 (A5 ?_))));refine k1 ?_;refine B1 rfl (fun ht=>?_) (fun ht=>?_)
 ·have hc:=hu 63 (A1 ht)
  refine k5 (k1 ?_);refine B1 rfl (fun ht=>?_) (fun ht=>?_)
  ·skip
   refine A3 (A6 (J4 A0 (by kernel_rfl)) A0 (P1 A0 ?_))
   exact I2 (by repeat (first | exact A8 | refine A9 rfl ?_)) hz.pobs ⟨by rw [hc];rfl,rfl⟩
  ·rw [hc] at ht;cases ht
 have h63:=hno 63 (A2 ht)
 skip
 refine A3 (A6 (H0 A0 A0) A0 (A7 A0 A0 (A5 ?_)));refine k1 ?_;refine B1 rfl (fun ht=>?_) (fun ht=>?_)
 ·have hc:=hu 123 (A1 ht)
  skip
  refine A3 (A6 (J4 A0 (by kernel_rfl)) A0 (P1 A0 ?_))
  exact I2 (by repeat (first | exact A8 | refine A9 rfl ?_)) hz.pobs ⟨by rw [hc];rfl,rfl⟩
 have h123:=hno 123 (A2 ht)
 refine k5 (k2 (A3 (A4 A0 A0 (A6 (Y7 A0 A0) A0 (A7 A0 A0 (A5 ?_))))));refine k1 (k10 ?_);refine J3 (I8 rfl rfl) (by repeat (first | exact A8 | refine A9 rfl ?_)) (O8 (K:=K) (st:=st) ⟨rfl,rfl,by repeat (first | exact hz | refine ZOk.cons ?_ (.inl rfl) | refine ZOk.cons ?_ (.inr hz.k8.h811))⟩) ⟨st,_,?_,rfl,rfl⟩
 unfold stepP G32
 rw [if_neg (by simp only [L23,L47,or_false,h42,h43,h63,h123,not_false_eq_true]),if_neg h40,if_neg h91,if_neg h46,if_neg h92]
end Go.Proofs.YtjmoigcpoopjhaaGreatDoor
