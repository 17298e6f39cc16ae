/- Walks of the program's functions. -/
import Derived.Test.YtjmoigcpoopjhaaGreatDoorFe
import Derived.RecoverIn
import Derived.Test.YtjmoigcpoopjhaaGreatDoorFs
import Derived.Test.YtjmoigcpoopjhaaGreatDoorFc
import Derived.Test.YtjmoigcpoopjhaaGreatDoorFb
import Derived.Test.YtjmoigcpoopjhaaGreatDoorFd
import Derived.Test.YtjmoigcpoopjhaaGreatDoorFa
set_option linter.unusedSimpArgs false
namespace Go.Proofs.YtjmoigcpoopjhaaGreatDoor
open Go Go.AL
set_option maxRecDepth 100000
set_option maxHeartbeats 1000000
def F30 (s:Str) (f:Nat) (st:PSt) (c:UInt8):Ps Int:=if c=40 then U6 s K5 f st else if c=91 then B23 s (s.length+2) st else if c=46 then .ok (G00 st) else if c=92 then C51 s st else c8 s st
theorem atom_gr {s:Str} {f:Nat} {st:PSt} {c:UInt8} (hlt:st.at_+1≤s.length) {z:PSt} {k:Int} (h:F30 s f st c=.ok (z,k)):Gr s 0 0 st z∧inN z k:=by
 unfold F30 at h
 split at h
 ·exact (A30 f).paren hlt h
 split at h
 ·exact F70 hlt h
 split at h
 ·have hg:=gr_any (s:=s) (x:=st) hlt
  rw [Except.ok.inj h] at hg;exact hg
 split at h
 ·exact E10 hlt h
 ·exact C54 h
theorem atom_px {K:List Nat} (h870:G4 K 870=true) (h871:G4 K 871=true) (h872:G4 K 872=true) {s:Str} {st:PSt} (hs:SOk s st) (hlt:st.at_+1≤s.length) {f:Nat} {c:UInt8}
  (hpar:c=40→PX 159 [L9] K s st (U6 s K5 f st) B14):PX (G32 c) [L9] K s st (F30 s f st c) B14:=by
 unfold G32 F30
 split
 ·rename_i h;exact hpar h
 split
 ·exact K54 h870 h871 h872 hs hlt
 split
 ·exact any_px hs
 split
 ·exact J98 hs hlt
 ·exact J96 hs
theorem H88 {K:List Nat} (h870:G4 K 870=true) (h871:G4 K 871=true) (h872:G4 K 872=true) {s:Str} {st:PSt} (hs:SOk s st) {f:Nat} {c:UInt8} (hc:s[st.at_]?=some c)
  (hpar:c=40→PX 159 [L9] K s st (U6 s K5 f st) B14):PX 117 [L9,A34 c] K s st (y9 s K5 (f+1) st c) B14:=by
 intro gf ob Z hI
 have hz:=hI.z.self
 have hlen:=hs.len
 have hn:=hs.nds
 have hlt:st.at_+1≤s.length:=by have:=(List.getElem?_eq_some_iff.1 hc).1;omega
 have hu:∀k:UInt8,(c.toNat:Int)=k.toNat→c=k:=fun k e=>UInt8.toNat_inj.1 (by omega)
 have hno:∀k:UInt8,¬((c.toNat:Int)=k.toNat)→¬c=k:=fun k h e=>h (by rw [e])
 obtain ⟨R,hRd⟩:∃R,R=y9 s K5 (f+1) st c:=⟨_,rfl⟩
 rw [←hRd]
 rw [y9] at hRd
 refine MetX.introH Tryz.func117 (by decide) rfl rfl rfl (fun hH=>?_)
 refine D3 (l4 (l:=[(0,.s L9),(1,.s (A34 c))]) hI ⟨le1 rfl,le1 rfl,trivial⟩ hH (by repeat (first | exact A8 | refine A9 rfl ?_))) ?_
 refine k2 (A3 (A7 A0 A0 (A5 ?_)));refine k1 (k2 (k2 (A3 (A4 A0 A0 (A5 ?_)))));refine k1 (k3 (k2 (A3 (A6 (H0 A0 A0) A0 (A7 A0 A0 (A5 ?_))))));refine k1 ?_;refine B1 rfl (fun ht=>?_) (fun ht=>?_)
 ·have h94:=hu 94 (A1 ht)
  rw [if_pos h94] at hRd
  refine k2 (A3 (A4 A0 A0 ?_));refine M7 (G31 (K:=K) hs hlt 2 _ _ Z ⟨rfl,rfl,by repeat (first | exact hz | refine ZOk.cons ?_ (.inl rfl) | refine ZOk.cons ?_ (.inr hz.k8.h811))⟩) (by repeat (first | exact FreeKs.nil | exact FreeKs.gf M1 | exact FreeKs.gf (R6 rfl) | exact FreeKs.gf (O9 hzK.k8) | exact FreeKs.gf hsub | refine FreeKs.cons (fun _ _=>rfl) ?_ | refine FreeKs.cons (J6 hz.k8) ?_ | refine FreeKs.cons (M3 hz.k8) ?_ | refine FreeKs.cons ks_own ?_ | refine FreeKs.cons (M2 rfl) ?_)) rfl rfl rfl ?_ ?_
  ·(rintro e ob' ⟨hR,rfl⟩;exact I2 (by repeat (first | exact A8 | refine A9 rfl ?_)) (fun _ _ h=>h) ⟨by rw [hRd,hR],rfl⟩)
  rintro _ _ ⟨st2,v,hR,rfl,rfl⟩;refine A7 A0 A0 (A5 ?_)
  refine k1 (k10 (k12 (k11 ?_)))
  exact J3 (I8 rfl rfl) (by repeat (first | exact A8 | refine A9 rfl ?_)) (O8 (K:=K) (st:=st2) ⟨rfl,rfl,by repeat (first | exact hz | refine ZOk.cons ?_ (.inl rfl) | refine ZOk.cons ?_ (.inr hz.k8.h811))⟩) ⟨st2,v,by rw [hRd,hR],rfl,rfl⟩
 have h94:=hno 94 (A2 ht)
 rw [if_neg h94] at hRd
 refine k2 (A3 (A6 (H0 A0 A0) A0 (A7 A0 A0 (A5 ?_))));refine k1 ?_;refine B1 rfl (fun ht=>?_) (fun ht=>?_)
 ·have h36:=hu 36 (A1 ht)
  rw [if_pos h36] at hRd
  refine k2 (A3 (A4 A0 A0 ?_));refine M7 (G31 (K:=K) hs hlt 3 _ _ Z ⟨rfl,rfl,by repeat (first | exact hz | refine ZOk.cons ?_ (.inl rfl) | refine ZOk.cons ?_ (.inr hz.k8.h811))⟩) (by repeat (first | exact FreeKs.nil | exact FreeKs.gf M1 | exact FreeKs.gf (R6 rfl) | exact FreeKs.gf (O9 hzK.k8) | exact FreeKs.gf hsub | refine FreeKs.cons (fun _ _=>rfl) ?_ | refine FreeKs.cons (J6 hz.k8) ?_ | refine FreeKs.cons (M3 hz.k8) ?_ | refine FreeKs.cons ks_own ?_ | refine FreeKs.cons (M2 rfl) ?_)) rfl rfl rfl ?_ ?_
  ·(rintro e ob' ⟨hR,rfl⟩;exact I2 (by repeat (first | exact A8 | refine A9 rfl ?_)) (fun _ _ h=>h) ⟨by rw [hRd,hR],rfl⟩)
  rintro _ _ ⟨st2,v,hR,rfl,rfl⟩;refine A7 A0 A0 (A5 ?_)
  refine k1 (k10 (k12 (k11 ?_)))
  exact J3 (I8 rfl rfl) (by repeat (first | exact A8 | refine A9 rfl ?_)) (O8 (K:=K) (st:=st2) ⟨rfl,rfl,by repeat (first | exact hz | refine ZOk.cons ?_ (.inl rfl) | refine ZOk.cons ?_ (.inr hz.k8.h811))⟩) ⟨st2,v,by rw [hRd,hR],rfl,rfl⟩
 have h36:=hno 36 (A2 ht)
 rw [if_neg h36] at hRd
 refine k5 (k2 ?_)
 by_cases hq:c∈([42,43,63,123]:Str)
 ·have hS:stepP st c=.error 40:=if_pos hq
  have hR40:R=.error 40:=by
   rw [hRd]
   simp only [L23,L47,or_false] at hq
   rcases hq with rfl | rfl | rfl | rfl<;>rfl
  refine A3 (A4 A0 A0 (A4 A0 A0 ?_));refine M7 (J44 (K:=K) (s:=s) (st:=st) c _ _ Z ⟨rfl,rfl,by repeat (first | exact hz | refine ZOk.cons ?_ (.inl rfl) | refine ZOk.cons ?_ (.inr hz.k8.h811))⟩) (by repeat (first | exact FreeKs.nil | exact FreeKs.gf M1 | exact FreeKs.gf (R6 rfl) | exact FreeKs.gf (O9 hzK.k8) | exact FreeKs.gf hsub | refine FreeKs.cons (fun _ _=>rfl) ?_ | refine FreeKs.cons (J6 hz.k8) ?_ | refine FreeKs.cons (M3 hz.k8) ?_ | refine FreeKs.cons ks_own ?_ | refine FreeKs.cons (M2 rfl) ?_)) rfl rfl rfl ?_ ?_
  ·(rintro e ob' ⟨hR,rfl⟩;rw [hS] at hR;cases hR;exact I2 (by repeat (first | exact A8 | refine A9 rfl ?_)) (fun _ _ h=>h) ⟨hR40,rfl⟩)
  rintro _ _ ⟨st2,v,hR,rfl,rfl⟩;rw [hS] at hR;cases hR
 have hS:stepP st c=.ok (st,G32 c):=if_neg hq
 have hRa:R=o3 s K5 (F30 s f st c):=by
  rw [hRd]
  unfold F30
  split
  ·rfl
  split
  ·rfl
  split
  ·rfl
  split
  ·rfl
  ·rfl
 clear hRd
 refine A3 (A4 A0 A0 (A4 A0 A0 ?_));refine M7 (J44 (K:=K) (s:=s) (st:=st) c _ _ Z ⟨rfl,rfl,by repeat (first | exact hz | refine ZOk.cons ?_ (.inl rfl) | refine ZOk.cons ?_ (.inr hz.k8.h811))⟩) (by repeat (first | exact FreeKs.nil | exact FreeKs.gf M1 | exact FreeKs.gf (R6 rfl) | exact FreeKs.gf (O9 hzK.k8) | exact FreeKs.gf hsub | refine FreeKs.cons (fun _ _=>rfl) ?_ | refine FreeKs.cons (J6 hz.k8) ?_ | refine FreeKs.cons (M3 hz.k8) ?_ | refine FreeKs.cons ks_own ?_ | refine FreeKs.cons (M2 rfl) ?_)) rfl rfl rfl ?_ ?_
 ·(rintro e ob' ⟨hR,rfl⟩;rw [hS] at hR;cases hR)
 rintro _ _ ⟨st2,v,hR,rfl,rfl⟩;rw [hS] at hR;cases hR;refine A7 A0 A0 (A5 ?_)
 refine k1 (k2 ?_)
 obtain ⟨F,hF⟩:∃F,F=G32 c:=⟨_,rfl⟩
 have hat:=atom_px h870 h871 h872 hs hlt (c:=c) hpar
 rw [←hF] at hat ⊢
 obtain ⟨A,hA⟩:∃A,A=F30 s f st c:=⟨_,rfl⟩
 have hgr:=fun z k=>atom_gr (f:=f) (c:=c) hlt (z:=z) (k:=k)
 rw [←hA] at hat hRa hgr
 cases A with
 | error e0 =>
  refine A3 (A4 A0 A0 ?_);refine H53 (hat _ _ Z ⟨rfl,rfl,by repeat (first | exact hz | refine ZOk.cons ?_ (.inl rfl) | refine ZOk.cons ?_ (.inr hz.k8.h811))⟩) (by repeat (first | exact FreeKs.nil | exact FreeKs.gf M1 | exact FreeKs.gf (R6 rfl) | exact FreeKs.gf (O9 hzK.k8) | exact FreeKs.gf hsub | refine FreeKs.cons (fun _ _=>rfl) ?_ | refine FreeKs.cons (J6 hz.k8) ?_ | refine FreeKs.cons (M3 hz.k8) ?_ | refine FreeKs.cons ks_own ?_ | refine FreeKs.cons (M2 rfl) ?_)) rfl rfl rfl rfl ?_ ?_
  ·(rintro e ob' ⟨hR,rfl⟩;cases hR;exact I2 (by repeat (first | exact A8 | refine A9 rfl ?_)) (fun _ _ h=>h) ⟨hRa,rfl⟩)
  rintro _ _ ⟨st2,v,hR,rfl,rfl⟩;cases hR
 | ok p =>
  obtain ⟨st2,k⟩:=p
  obtain ⟨g2,i2⟩:=hgr st2 k rfl
  have hs2:=hs.gr g2 (Nat.le_refl _)
  have hn2:=hs2.nds
  have ha2:=hs2.at_
  refine A3 (A4 A0 A0 ?_);refine H53 (hat _ _ Z ⟨rfl,rfl,by repeat (first | exact hz | refine ZOk.cons ?_ (.inl rfl) | refine ZOk.cons ?_ (.inr hz.k8.h811))⟩) (by repeat (first | exact FreeKs.nil | exact FreeKs.gf M1 | exact FreeKs.gf (R6 rfl) | exact FreeKs.gf (O9 hzK.k8) | exact FreeKs.gf hsub | refine FreeKs.cons (fun _ _=>rfl) ?_ | refine FreeKs.cons (J6 hz.k8) ?_ | refine FreeKs.cons (M3 hz.k8) ?_ | refine FreeKs.cons ks_own ?_ | refine FreeKs.cons (M2 rfl) ?_)) rfl rfl rfl rfl ?_ ?_
  ·(rintro e ob' ⟨hR,rfl⟩;cases hR)
  rintro _ _ ⟨st2',v,hR,rfl,rfl⟩;cases hR;refine A7 A0 A0 (A5 ?_)
  refine k1 (k2 ?_)
  have hRb:R=match v7 s K5 st2 with
   | .error e=>.error e
   | .ok (st',none)=>.ok (st',k)
   | .ok (st',some (least,most))=>.ok (D17 ⟨6,set0,least,most,[k]⟩ st'):=by rw [hRa];rfl
  cases hq2:v7 s K5 st2 with
  | error e0 =>
   rw [hq2] at hRb
   refine A3 (A4 A0 A0 ?_);refine M7 (F27 (K:=K) hs2 _ _ Z ⟨rfl,rfl,by repeat (first | exact hz | refine ZOk.cons ?_ (.inl rfl) | refine ZOk.cons ?_ (.inr hz.k8.h811))⟩) (by repeat (first | exact FreeKs.nil | exact FreeKs.gf M1 | exact FreeKs.gf (R6 rfl) | exact FreeKs.gf (O9 hzK.k8) | exact FreeKs.gf hsub | refine FreeKs.cons (fun _ _=>rfl) ?_ | refine FreeKs.cons (J6 hz.k8) ?_ | refine FreeKs.cons (M3 hz.k8) ?_ | refine FreeKs.cons ks_own ?_ | refine FreeKs.cons (M2 rfl) ?_)) rfl rfl rfl ?_ ?_
   ·(rintro e ob' ⟨hR,rfl⟩;rw [hq2] at hR;cases hR;exact I2 (by repeat (first | exact A8 | refine A9 rfl ?_)) (fun _ _ h=>h) ⟨hRb,rfl⟩)
   rintro _ _ ⟨st3,b,hR,rfl,rfl⟩;rw [hq2] at hR;cases hR
  | ok q =>
   obtain ⟨st3,b⟩:=q
   rw [hq2] at hRb
   cases b with
   | none =>
    refine A3 (A4 A0 A0 ?_);refine M7 (F27 (K:=K) hs2 _ _ Z ⟨rfl,rfl,by repeat (first | exact hz | refine ZOk.cons ?_ (.inl rfl) | refine ZOk.cons ?_ (.inr hz.k8.h811))⟩) (by repeat (first | exact FreeKs.nil | exact FreeKs.gf M1 | exact FreeKs.gf (R6 rfl) | exact FreeKs.gf (O9 hzK.k8) | exact FreeKs.gf hsub | refine FreeKs.cons (fun _ _=>rfl) ?_ | refine FreeKs.cons (J6 hz.k8) ?_ | refine FreeKs.cons (M3 hz.k8) ?_ | refine FreeKs.cons ks_own ?_ | refine FreeKs.cons (M2 rfl) ?_)) rfl rfl rfl ?_ ?_
    ·(rintro e ob' ⟨hR,rfl⟩;rw [hq2] at hR;cases hR)
    rintro _ _ ⟨st3',b,hR,hrs,rfl⟩;rw [hq2] at hR;cases hR;dsimp only at hrs;subst hrs;refine A4 A0 A0 (E8 A0 A0 A0 (E8 A0 A0 A0 (E8 A0 A0 A0 (A7 A0 A0 (A7 A0 A0 (A7 A0 A0 (A5 ?_)))))))
    refine k1 (k2 (k2 (A3 (A4 A0 A0 (A6 (S2 A0) A0 (A5 ?_))))));refine k1 ?_;refine B1 rfl (fun ht=>?_) (fun ht=>?_)
    rotate_left
    ·cases ht
    refine k2 (A3 (A4 A0 A0 (A7 A0 A0 (A5 ?_))));refine k1 (k10 (k11 ?_))
    exact J3 (I8 rfl rfl) (by repeat (first | exact A8 | refine A9 rfl ?_)) (O8 (K:=K) (st:=st3) ⟨rfl,rfl,by repeat (first | exact hz | refine ZOk.cons ?_ (.inl rfl) | refine ZOk.cons ?_ (.inr hz.k8.h811))⟩) ⟨st3,k,hRb,rfl,rfl⟩
   | some q =>
    obtain ⟨least,most⟩:=q
    rcases C31 g2.len hq2 with ⟨hh,_⟩ | ⟨q,hh,g3,hb⟩
    ·cases hh
    have hs3:=hs2.gr g3 (by omega)
    have hn3:=hs3.nds
    have ha3:=hs3.at_
    refine A3 (A4 A0 A0 ?_);refine M7 (F27 (K:=K) hs2 _ _ Z ⟨rfl,rfl,by repeat (first | exact hz | refine ZOk.cons ?_ (.inl rfl) | refine ZOk.cons ?_ (.inr hz.k8.h811))⟩) (by repeat (first | exact FreeKs.nil | exact FreeKs.gf M1 | exact FreeKs.gf (R6 rfl) | exact FreeKs.gf (O9 hzK.k8) | exact FreeKs.gf hsub | refine FreeKs.cons (fun _ _=>rfl) ?_ | refine FreeKs.cons (J6 hz.k8) ?_ | refine FreeKs.cons (M3 hz.k8) ?_ | refine FreeKs.cons ks_own ?_ | refine FreeKs.cons (M2 rfl) ?_)) rfl rfl rfl ?_ ?_
    ·(rintro e ob' ⟨hR,rfl⟩;rw [hq2] at hR;cases hR)
    rintro _ _ ⟨st3',b,hR,hrs,rfl⟩;rw [hq2] at hR;cases hR;dsimp only at hrs;subst hrs;refine A4 A0 A0 (E8 A0 A0 A0 (E8 A0 A0 A0 (E8 A0 A0 A0 (A7 A0 A0 (A7 A0 A0 (A7 A0 A0 (A5 ?_)))))))
    refine k1 (k2 (k2 (A3 (A4 A0 A0 (A6 (S2 A0) A0 (A5 ?_))))));refine k1 ?_;refine B1 rfl (fun ht=>?_) (fun ht=>?_)
    ·cases ht
    refine k5 (k1 (k2 (A3 (A4 A0 A0 (A4 A0 A0 (A4 A0 A0 (A4 A0 A0 (A6 (D7 (c:=F2) (ys:=[k]) (G6 A0 A0 A0 A0 I0) A0 A0 A0) A0 (A6 (K0 A0) A0 ?_)))))))));refine B54 (add_pm (K:=K) (s:=s) (st:=st3) (Z:=Z) ⟨6,set0,least,most,[k]⟩ (by omega) ⟨rfl,rfl,by repeat (first | exact hz | refine ZOk.cons ?_ (.inl rfl) | refine ZOk.cons ?_ (.inr hz.k8.h811))⟩) (by repeat (first | exact FreeKs.nil | exact FreeKs.gf M1 | exact FreeKs.gf (R6 rfl) | exact FreeKs.gf (O9 hzK.k8) | exact FreeKs.gf hsub | refine FreeKs.cons (fun _ _=>rfl) ?_ | refine FreeKs.cons (J6 hz.k8) ?_ | refine FreeKs.cons (M3 hz.k8) ?_ | refine FreeKs.cons ks_own ?_ | refine FreeKs.cons (M2 rfl) ?_)) rfl rfl rfl ?_;rintro _ _ ⟨rfl,rfl⟩;refine A7 A0 A0 (A5 ?_);refine k1 (k10 ?_)
    exact J3 (I8 rfl rfl) (by repeat (first | exact A8 | refine A9 rfl ?_)) (O8 (K:=K) (st:=(D17 ⟨6,set0,least,most,[k]⟩ st3).1) ⟨rfl,rfl,by repeat (first | exact hz | refine ZOk.cons ?_ (.inl rfl) | refine ZOk.cons ?_ (.inr hz.k8.h811))⟩) ⟨_,_,hRb,rfl,rfl⟩
set_option maxHeartbeats 1000000
def aO (n:Nat):Nat:=900+2*n
def pO (n:Nat):Nat:=901+2*n
def ksN:Nat→List Nat
 | 0=>[811,870,871,872]
 | n+1=>pO n::aO n::ksN n
theorem ksN_iff {n j:Nat}:G4 (ksN n) j=true↔j=811∨j=870∨j=871∨j=872∨(900≤j∧j < 900+2*n):=by
 induction n with
 | zero =>
  rw [hasN_iff]
  simp only [ksN,L23,L47,or_false]
  omega
 | succ n ih =>
  rw [hasN_iff] at ih ⊢
  simp only [ksN,L23,aO,pO]
  rw [ih]
  omega
theorem ksA_iff {n j:Nat}:G4 (aO n::ksN n) j=true↔j=aO n∨G4 (ksN n) j=true:=by
 rw [hasN_iff,hasN_iff,L23]
theorem H00 {n j:Nat} (h:¬(j=811∨j=870∨j=871∨j=872∨(900≤j∧j < 900+2*n))):G4 (ksN n) j=false:=by
 cases hb:G4 (ksN n) j
 ·rfl
 ·exact absurd (ksN_iff.1 hb) h
theorem H01 (n:Nat):KOk (ksN n):=⟨ksN_iff.2 (.inl rfl),H00 (by omega)⟩
theorem ksA_ok (n:Nat):KOk (aO n::ksN n):=⟨ksA_iff.2 (.inr (H01 n).h811),by
 cases hb:G4 (aO n::ksN n) 810
 ·rfl
 ·rcases ksA_iff.1 hb with h | h
  ·unfold aO at h;omega
  ·rw [(H01 n).h810] at h;cases h⟩
theorem A55 {k:Nat} {fr:Fr} {i:Nat} {s:SV} (h:E5 fr i=some s) (hf:s.free k=true):E5 (Fr.forget k fr) i=some s:=by
 rw [N7,h]
 show some (s.forget k)=some s
 rw [SV.forget_free hf]
theorem H02 {k:Nat} {fr:Fr} {i:Nat} {α:Type} {ec:Nat} {c:α→Nat→Cell} {xs:List α} (h:E5 fr i=some (.s (.one (.buf k α ec c xs)))):E5 (Fr.forget k fr) i=some (D6 α ec c xs):=by
 rw [N7,h]
 show some (SV.s (.one (cond (Nat.beq k k) _ _)))=_
 rw [Nat.beq_refl]
 rfl
theorem D43 {K:List Nat} {a:Nat} {s:Str} {st:PSt} {x:Ob} {Z ob:Obs} (h0:a≠810) (h1:a≠811) (ha:G4 K a=true) (hz:ZOk K Z Z)
  (hob:∀k o,k≠a→C1 (PObs s st Z) k=some o→C1 ob k=some o):∀k o,C1 (PObs s st ((a,x)::Z)) k=some o→C1 ((a,x)::Obs.forget a ob) k=some o:=fun k o hk=>by
 by_cases e:a=k
 ·subst e
  rw [C4]
  rw [B4 (fun e=>h0 e.symm),B4 (fun e=>h1 e.symm),C4] at hk
  exact hk
 have hk2:C1 (PObs s st Z) k=some o:=by
  by_cases e0:810=k
  ·subst e0;rw [C4] at hk;rw [C4];exact hk
  rw [B4 e0] at hk ⊢
  by_cases e1:811=k
  ·subst e1;rw [C4] at hk;rw [C4];exact hk
  rw [B4 e1,B4 e] at hk
  rw [B4 e1];exact hk
 rw [B4 e,K6,hob k o (fun h=>e h.symm) hk2]
 show some (o.forget a)=some o
 rw [Ob.forget_free ?_]
 by_cases e0:810=k
 ·subst e0
  rw [C4] at hk2
  cases hk2
  simp [Ob.free,TC.free,C56,D02 (show 811≠a from fun e=>h1 e.symm)]
 rw [B4 e0] at hk2
 by_cases e1:811=k
 ·subst e1
  rw [C4] at hk2
  cases hk2
  rfl
 rw [B4 e1] at hk2
 exact hz.free k o hk2 a ha
theorem H03 {K:List Nat} {a:Nat} {s:Str} {st:PSt} {x:Ob} {Z:Obs} (h0:a≠810) (h1:a≠811) (ha:G4 K a=true) (hz:ZOk K Z Z):∀k o,C1 (PObs s st Z) k=some o→C1 (Obs.forget a (PObs s st ((a,x)::Z))) k=some o:=fun k o hk=>by
 have e:k≠a:=fun e=>by
  subst e
  rw [B4 (fun e=>h0 e.symm),B4 (fun e=>h1 e.symm),hz.none (.inr ha)] at hk
  cases hk
 have h:=D43 (s:=s) (st:=st) (x:=x) (Z:=Z) (ob:=PObs s st ((a,x)::Z)) h0 h1 ha hz (fun k o hk ho=>by
  by_cases e0:810=k
  ·subst e0;rw [C4] at ho ⊢;exact ho
  rw [B4 e0] at ho ⊢
  by_cases e1:811=k
  ·subst e1;rw [C4] at ho ⊢;exact ho
  rw [B4 e1] at ho ⊢
  rw [B4 (fun h=>hk h.symm)];exact ho) k o
 rw [B4 (fun h=>e h.symm)] at h
 refine h ?_
 by_cases e0:810=k
 ·subst e0;rw [C4] at hk ⊢;exact hk
 rw [B4 e0] at hk ⊢
 by_cases e1:811=k
 ·subst e1;rw [C4] at hk ⊢;exact hk
 rw [B4 e1] at hk ⊢
 rw [B4 (fun h=>e h.symm)];exact hk
theorem H89 {s:Str} {st:PSt} {y:Ob} {Z:Obs} {a:Nat}:∀k o,k≠a→C1 (PObs s st Z) k=some o→C1 (PObs s st ((a,y)::Z)) k=some o:=fun k o hk ho=>by
 by_cases e0:810=k
 ·subst e0;rw [C4] at ho ⊢;exact ho
 rw [B4 e0] at ho ⊢
 by_cases e1:811=k
 ·subst e1;rw [C4] at ho ⊢;exact ho
 rw [B4 e1] at ho ⊢
 rw [B4 (fun h=>hk h.symm)];exact ho
theorem H90 {s:Str} {st:PSt} {x:Ob} {Z:Obs} {a:Nat} (h0:a≠810) (h1:a≠811):C1 (PObs s st ((a,x)::Z)) a=some x:=by
 rw [B4 (fun e=>h0 e.symm),B4 (fun e=>h1 e.symm),C4]
theorem G33 {K:List Nat} {s:Str} {st:PSt} {Z:Obs} {a:Nat} (h0:a≠810) (h1:a≠811) (ha:G4 K a=true) (hz:ZOk K Z Z):C1 (PObs s st Z) a=none:=by
 rw [B4 (fun e=>h0 e.symm),B4 (fun e=>h1 e.symm),hz.none (.inr ha)]
theorem H91 {a:Nat} {K:List Nat} (h:G4 K a=false) {kids:List Int}:∀k,G4 K k=true→(SV.s (.one (.buf a Int 1 F2 kids))).free k=true:=fun k hk=>by
 show (!Nat.beq a k)=true
 rw [D02 (fun e=>by rw [e,hk] at h;cases h)];rfl
theorem alt_px {n:Nat} (hn50:n≤50) {s:Str} {st:PSt} (hs:SOk s st) (hn:st.nodes.length≤st.at_) (hd:st.depth+n=50) {F:Nat} (hF:F≤5000) (hne:A69 s K5 F st []≠.error 0)
  (hpar:∀f st',f < F→SOk s st'→st'.nodes.length≤st'.at_→st'.depth+n=50→st'.at_+1≤s.length→U6 s K5 f st'≠.error 0→PX 159 [L9] (ksN n) s st' (U6 s K5 f st') B14) :
  PX 79 [L9] (aO n::ksN n) s st (A69 s K5 F st []) B14:=by
 intro gf ob Z hI
 obtain ⟨K,hK⟩:∃K,K=aO n::ksN n:=⟨_,rfl⟩
 obtain ⟨a,haD⟩:∃a,a=aO n:=⟨_,rfl⟩
 obtain ⟨J,hJ⟩:∃J,J=ksN n:=⟨_,rfl⟩
 have haK:G4 K a=true:=by rw [hK,haD];exact ksA_iff.2 (.inl rfl)
 have haJ:G4 J a=false:=by rw [hJ,haD];exact H00 (by unfold aO;omega)
 have hJK:KOk J:=by rw [hJ];exact H01 n
 have hsub:∀k,G4 J k=true→G4 K k=true:=fun k hk=>by rw [hJ] at hk;rw [hK];exact ksA_iff.2 (.inr hk)
 have h870:G4 J 870=true:=by rw [hJ];exact ksN_iff.2 (by omega)
 have h871:G4 J 871=true:=by rw [hJ];exact ksN_iff.2 (by omega)
 have h872:G4 J 872=true:=by rw [hJ];exact ksN_iff.2 (by omega)
 have h0:a≠810:=by rw [haD];unfold aO;omega
 have h1:a≠811:=by rw [haD];unfold aO;omega
 have hap:Nat.blt a 1000000=true:=by
  have:a < 1000000:=by rw [haD];unfold aO;omega
  simpa using this
 rw [←hK] at hI ⊢
 rw [←hJ] at hpar
 clear hK haD hJ
 have hz:=hI.z.self
 have hzK:=hz
 have hlen:=hs.len
 obtain ⟨R,hR⟩:∃R,R=A69 s K5 F st []:=⟨_,rfl⟩
 rw [←hR] at hne ⊢
 obtain ⟨Z1,hZ1⟩:∃Z1:List Int→Obs,Z1=fun kids=>(a,.spare kids.length 1 3)::Z:=⟨_,rfl⟩
 have hz1:∀kids,ZOk J (Z1 kids) (Z1 kids):=fun kids=>by
  rw [hZ1]
  exact ZOk.own ((hz.less hJK hsub).consZ (hz.none (.inr haK))) ⟨h0,haJ⟩ (fun j hj=>rfl) (C4 _ _ _)
 have hzz:∀kids,ZOk K Z (Z1 kids):=fun kids=>by rw [hZ1];exact hzK.cons (i:=a) (.inr haK)
 refine MetX.introH Tryz.func79 (by decide) rfl rfl rfl (fun hH=>?_)
 refine D3 (l4 (l:=[(0,.s L9)]) hI ⟨le1 rfl,trivial⟩ hH (by repeat (first | exact A8 | refine A9 rfl ?_))) ?_
 refine k2 (A3 (A7 A0 A0 (A5 ?_)));refine k1 (k2 (A3 (A7 A0 A0 (A5 ?_))));refine D3 (K97 a Int 1 F2 3 (t:=3) A0 (G33 h0 h1 haK hz) hap) ?_
 refine k3 ?_;refine D2 (X:=Nat × List Int × PSt) (fun x=>([(0,.s L9),(3,.s (.one (.buf a Int 1 F2 x.2.1)))]++C0 K gf,PObs s x.2.2 (Z1 x.2.1))) (fun x=>SOk s x.2.2∧x.2.2.nodes.length≤x.2.2.at_∧x.2.2.depth+n=50∧x.2.1.length+x.1≤F∧R=A69 s K5 x.1 x.2.2 x.2.1) (fun x=>x.1) (F,[],st) ⟨hs,hn,hd,by simp,hR⟩ ?_ ?_
 ·dsimp only
  refine K76 ⟨le1 (A55 rfl (J6 hzK.k8 a haK)),le1 rfl,trivial⟩ (C6 hH) (by repeat (first | exact A8 | refine F8 _ haK ?_ | refine A9 rfl ?_)) ?_
  rw [hZ1]
  exact D43 h0 h1 haK hz fun _ _ _ h=>h
 rintro ⟨f,kids,sc⟩ ⟨hsc,hnc,hdc,hkc,hRc⟩
 dsimp only at hsc hnc hdc hkc hRc ⊢
 have hlc:=hsc.at_
 have hz:=hz1 kids
 refine k3 (k2 (A3 (A4 A0 A0 (L4 (B32 s sc.at_ sc.depth hlc (by omega) A0) A0 A0 A0 ?_))));rintro _ _ ⟨rfl,rfl⟩;refine A4 A0 A0 (E8 A0 A0 A0 (E8 A0 A0 A0 (A7 A0 A0 (A7 A0 A0 (A5 ?_)))));refine k1 (k2 (k2 (A3 (A4 A0 A0 (A6 (S2 A0) A0 (A4 A0 A0 (B5 A0 A0 A0 A0 (fun hg=>by rw [hg];exact C2 A0 A0) ?_)))))));refine B5 A0 A0 A0 A0 (fun hg=>by rw [hg];exact H0 A0 A0) ?_;refine K7 A0 A0 ?_;refine A4 A0 A0 (B5 A0 A0 A0 A0 (fun hg=>by rw [hg];exact C2 A0 A0) ?_);refine B5 A0 A0 A0 A0 (fun hg=>by rw [hg];exact H0 A0 A0) ?_;refine K7 A0 A0 ?_;refine A5 ?_;refine k1 ?_
 by_cases hm:sc.at_ < s.length
 rotate_left
 ·have hv:s[sc.at_]?=none:=L18 (by omega)
  rw [decide_eq_false hm]
  obtain ⟨f,rfl⟩:∃g,f=g+1:=by
   cases f with
   | zero=>exact absurd (by rw [hRc,A69]) hne
   | succ g=>exact ⟨g,rfl⟩
  rw [A69,hv] at hRc
  dsimp only at hRc
  refine B1 rfl (fun ht=>?_) (fun ht=>?_)
  rotate_left
  ·cases ht
  refine k2 ?_
  have hcl:=hsc.nds
  refine D3 (Sees.forget a) ?_
  refine D3 (fr':=[(0,.s L9),(3,D6 Int 1 F2 kids)]++C0 K gf) (ob':=PObs s sc Z) (K76 ⟨le1 (A55 rfl (J6 hzK.k8 a haK)),le1 (H02 rfl),trivial⟩ (C6 hH) (by repeat (first | exact A8 | refine F8 _ haK ?_ | refine A9 rfl ?_)) (by rw [hZ1];exact H03 h0 h1 haK hzK)) ?_
  have hz:=hzK
  refine A3 (A4 A0 A0 (A4 A0 A0 ?_));refine B54 (F28 (K:=K) (s:=s) (st:=sc) (Z:=Z) 4 kids (by omega) (by omega) ⟨rfl,rfl,by repeat (first | exact hz | refine ZOk.cons ?_ (.inl rfl) | refine ZOk.cons ?_ (.inr hz.k8.h811))⟩) (by repeat (first | exact FreeKs.nil | exact FreeKs.gf M1 | exact FreeKs.gf (R6 rfl) | exact FreeKs.gf (O9 hzK.k8) | exact FreeKs.gf hsub | refine FreeKs.cons (fun _ _=>rfl) ?_ | refine FreeKs.cons (J6 hz.k8) ?_ | refine FreeKs.cons (M3 hz.k8) ?_ | refine FreeKs.cons ks_own ?_ | refine FreeKs.cons (M2 rfl) ?_)) rfl rfl rfl ?_;rintro _ _ ⟨rfl,rfl⟩;refine A7 A0 A0 (A5 ?_);refine k1 (k10 (k11 (k12 (k11 (k12 ?_)))))
  exact J3 (I8 rfl rfl) (by repeat (first | exact A8 | refine A9 rfl ?_)) (fun _ _ h=>h) ⟨_,_,hRc,rfl,rfl⟩
 have hv:s[sc.at_]?=some (s.getD sc.at_ 0):=by rw [L07,L01 hm];rfl
 obtain ⟨c,hc⟩:∃c,c=s.getD sc.at_ 0:=⟨_,rfl⟩
 rw [←hc] at hv
 rw [←hc,decide_eq_true hm]
 obtain ⟨f,rfl⟩:∃g,f=g+1:=by
  cases f with
  | zero=>exact absurd (by rw [hRc,A69]) hne
  | succ g=>exact ⟨g,rfl⟩
 rw [A69,hv] at hRc
 dsimp only at hRc
 have hu:∀k:UInt8,(c.toNat:Int)=k.toNat↔c=k:=fun k=>⟨fun e=>UInt8.toNat_inj.1 (by omega),fun e=>by rw [e]⟩
 have h124:(c.toNat:Int)=124↔c=124:=hu 124
 have h41:(c.toNat:Int)=41↔c=41:=hu 41
 by_cases he:c=124∨c=41
 ·rw [if_pos he] at hRc
  refine B1 rfl (fun ht=>?_) (fun ht=>?_)
  rotate_left
  ·exfalso
   rw [F38,F38] at ht
   simp only [Bool.not_true,Bool.false_or,L34,decide_eq_false_iff_not,h124,h41] at ht
   rcases he with h | h
   ·exact ht.1 h
   ·exact ht.2 h
  refine k2 ?_
  have hcl:=hsc.nds
  refine D3 (Sees.forget a) ?_
  refine D3 (fr':=[(0,.s L9),(3,D6 Int 1 F2 kids)]++C0 K gf) (ob':=PObs s sc Z) (K76 ⟨le1 (A55 rfl (J6 hzK.k8 a haK)),le1 (H02 rfl),trivial⟩ (C6 hH) (by repeat (first | exact A8 | refine F8 _ haK ?_ | refine A9 rfl ?_)) (by rw [hZ1];exact H03 h0 h1 haK hzK)) ?_
  have hz:=hzK
  refine A3 (A4 A0 A0 (A4 A0 A0 ?_));refine B54 (F28 (K:=K) (s:=s) (st:=sc) (Z:=Z) 4 kids (by omega) (by omega) ⟨rfl,rfl,by repeat (first | exact hz | refine ZOk.cons ?_ (.inl rfl) | refine ZOk.cons ?_ (.inr hz.k8.h811))⟩) (by repeat (first | exact FreeKs.nil | exact FreeKs.gf M1 | exact FreeKs.gf (R6 rfl) | exact FreeKs.gf (O9 hzK.k8) | exact FreeKs.gf hsub | refine FreeKs.cons (fun _ _=>rfl) ?_ | refine FreeKs.cons (J6 hz.k8) ?_ | refine FreeKs.cons (M3 hz.k8) ?_ | refine FreeKs.cons ks_own ?_ | refine FreeKs.cons (M2 rfl) ?_)) rfl rfl rfl ?_;rintro _ _ ⟨rfl,rfl⟩;refine A7 A0 A0 (A5 ?_);refine k1 (k10 (k11 (k12 (k11 (k12 ?_)))))
  exact J3 (I8 rfl rfl) (by repeat (first | exact A8 | refine A9 rfl ?_)) (fun _ _ h=>h) ⟨_,_,hRc,rfl,rfl⟩
 rw [if_neg he] at hRc
 refine B1 rfl (fun ht=>?_) (fun ht=>?_)
 ·exfalso
  rw [F38,F38] at ht
  simp only [Bool.not_true,Bool.false_or,L20,decide_eq_true_eq,h124,h41] at ht
  exact he ht
 refine k5 (k1 ?_)
 have ks_own:∀k,G4 J k=true→(SV.s (.one (.buf a Int 1 F2 kids))).free k=true:=H91 haJ
 refine D3 (K76 (l:=[(0,.s L9),(3,.s (.one (.buf a Int 1 F2 kids))),(4,.s (A34 c))]) ⟨le1 rfl,le1 rfl,le1 rfl,trivial⟩ (C6 hH) (by repeat (first | exact A8 | refine A9 rfl ?_)) (fun _ _ h=>h)) ?_
 obtain ⟨f,rfl⟩:∃g,f=g+1:=by
  cases f with
  | zero=>exact absurd (by rw [hRc,y9]) hne
  | succ g=>exact ⟨g,rfl⟩
 have hpp:c=40→PX 159 [L9] J s sc (U6 s K5 f sc) B14:=fun e =>
  hpar f sc (by omega) hsc hnc hdc (by omega) (fun h=>hne (by rw [hRc,y9,if_neg (by rw [e];decide),if_neg (by rw [e];decide),if_pos e,h];rfl))
 cases hp:y9 s K5 (f+1) sc c with
 | error e0 =>
  rw [hp] at hRc
  refine A3 (A4 A0 A0 (A4 A0 A0 (A4 A0 A0 ?_)));refine M7 (H88 (K:=J) h870 h871 h872 hsc hv hpp _ _ (Z1 kids) ⟨rfl,rfl,by repeat (first | exact hz | refine ZOk.cons ?_ (.inl rfl) | refine ZOk.cons ?_ (.inr hz.k8.h811))⟩) (by repeat (first | exact FreeKs.nil | exact FreeKs.gf M1 | exact FreeKs.gf (R6 rfl) | exact FreeKs.gf (O9 hzK.k8) | exact FreeKs.gf hsub | refine FreeKs.cons (fun _ _=>rfl) ?_ | refine FreeKs.cons (J6 hz.k8) ?_ | refine FreeKs.cons (M3 hz.k8) ?_ | refine FreeKs.cons ks_own ?_ | refine FreeKs.cons (M2 rfl) ?_)) rfl rfl rfl ?_ ?_
  ·(rintro e ob' ⟨hR2,rfl⟩;rw [hp] at hR2;cases hR2;exact I2 (by repeat (first | exact A8 | refine A9 rfl ?_)) (hzz _).sub ⟨hRc,rfl⟩)
  rintro _ _ ⟨_,_,hR2,_,_⟩;rw [hp] at hR2;cases hR2
 | ok p =>
  obtain ⟨sd,k⟩:=p
  rw [hp] at hRc
  dsimp only at hRc
  obtain ⟨gp,ip⟩:=(A30 (s:=s) (f+1)).piece hv hp
  have hgc:=gp.cnt
  have hgl:=gp.len
  refine A3 (A4 A0 A0 (A4 A0 A0 (A4 A0 A0 ?_)));refine M7 (H88 (K:=J) h870 h871 h872 hsc hv hpp _ _ (Z1 kids) ⟨rfl,rfl,by repeat (first | exact hz | refine ZOk.cons ?_ (.inl rfl) | refine ZOk.cons ?_ (.inr hz.k8.h811))⟩) (by repeat (first | exact FreeKs.nil | exact FreeKs.gf M1 | exact FreeKs.gf (R6 rfl) | exact FreeKs.gf (O9 hzK.k8) | exact FreeKs.gf hsub | refine FreeKs.cons (fun _ _=>rfl) ?_ | refine FreeKs.cons (J6 hz.k8) ?_ | refine FreeKs.cons (M3 hz.k8) ?_ | refine FreeKs.cons ks_own ?_ | refine FreeKs.cons (M2 rfl) ?_)) rfl rfl rfl ?_ ?_
  ·(rintro e ob' ⟨hR2,rfl⟩;rw [hp] at hR2;cases hR2)
  rintro _ _ ⟨sd',k',hR2,rfl,rfl⟩;rw [hp] at hR2;cases hR2;refine A6 (D7 (c:=F2) (ys:=[k]) (G6 A0 A0 A0 A0 I0) A0 A0 A0) A0 (D1 (P0 A0 (by rw [hZ1];exact H90 h0 h1) A0 (.pure _ _ _ _) (by (simp only [L04,L09];omega)) hap) A0 ?_);refine A7 A0 A0 (A5 ?_)
  refine k4 (k1 ?_);refine ⟨(f+1,kids++[k],sd),⟨hsc.gr gp (Nat.le_refl _),by dsimp only;omega,by dsimp only;rw [gp.dep];exact hdc,by simp only [L06,L04,L09];omega,hRc⟩,by dsimp only;omega,?_⟩
  dsimp only
  refine K76 ⟨le1 (show E5 (Fr.forget a _) 0=_ from A55 rfl (J6 hzK.k8 a haK)),le1 rfl,trivial⟩ (C6 hH) (by repeat (first | exact A8 | refine F8 _ haK ?_ | refine A9 rfl ?_)) ?_
  rw [hZ1]
  exact D43 h0 h1 haK hzK H89
set_option maxHeartbeats 1000000
theorem ksS_iff {n j:Nat}:G4 (ksN (n+1)) j=true↔j=pO n∨G4 (aO n::ksN n) j=true:=by
 rw [show ksN (n+1)=pO n::aO n::ksN n from rfl,hasN_iff,hasN_iff,L23]
theorem pat_px {n:Nat} (hn50:n≤50) {s:Str} {st:PSt} (hs:SOk s st) (hn:st.nodes.length≤st.at_) (hd:st.depth+n=50) {F:Nat} (hF:F≤5000) (hne:B24 s K5 F st≠.error 0)
  (hpar:∀f st',f < F→SOk s st'→st'.nodes.length≤st'.at_→st'.depth+n=50→st'.at_+1≤s.length→U6 s K5 f st'≠.error 0→PX 159 [L9] (ksN n) s st' (U6 s K5 f st') B14) :
  PX 52 [L9] (ksN (n+1)) s st (B24 s K5 F st) B14:=by
 intro gf ob Z hI
 have halt:∀{f:Nat} {st':PSt},f < F→SOk s st'→st'.nodes.length≤st'.at_→st'.depth+n=50→A69 s K5 f st' []≠.error 0→PX 79 [L9] (aO n::ksN n) s st' (A69 s K5 f st' []) B14:=fun {f st'} h1 h2 h3 h4 h5 =>
  alt_px hn50 h2 h3 h4 (by omega) h5 fun f' st'' h6=>hpar f' st'' (by omega)
 obtain ⟨K,hK⟩:∃K,K=ksN (n+1):=⟨_,rfl⟩
 obtain ⟨a,haD⟩:∃a,a=pO n:=⟨_,rfl⟩
 obtain ⟨J,hJ⟩:∃J,J=aO n::ksN n:=⟨_,rfl⟩
 have haK:G4 K a=true:=by rw [hK,haD];exact ksS_iff.2 (.inl rfl)
 have haJ:G4 J a=false:=by
  rw [hJ,haD]
  cases hb:G4 (aO n::ksN n) (pO n)
  ·rfl
  ·rcases ksA_iff.1 hb with h | h
   ·unfold pO aO at h;omega
   ·have:=ksN_iff.1 h;unfold pO at this;omega
 have hJK:KOk J:=by rw [hJ];exact ksA_ok n
 have hsub:∀k,G4 J k=true→G4 K k=true:=fun k hk=>by rw [hJ] at hk;rw [hK];exact ksS_iff.2 (.inr hk)
 have h0:a≠810:=by rw [haD];unfold pO;omega
 have h1:a≠811:=by rw [haD];unfold pO;omega
 have ha6:a < 1000000:=by rw [haD];unfold pO;omega
 have hap:Nat.blt a 1000000=true:=by simpa using ha6
 rw [←hK] at hI ⊢
 rw [←hJ] at halt
 clear hK haD hJ hpar
 have hzK:=hI.z.self
 have hlen:=hs.len
 obtain ⟨R,hR⟩:∃R,R=B24 s K5 F st:=⟨_,rfl⟩
 rw [←hR] at hne ⊢
 obtain ⟨F,rfl⟩:∃G,F=G+1:=by
  cases F with
  | zero=>exact absurd (by rw [hR,B24]) hne
  | succ g=>exact ⟨g,rfl⟩
 rw [B24] at hR
 obtain ⟨Z1,hZ1⟩:∃Z1:List Int→Obs,Z1=fun kids=>(a,.spare kids.length 1 3)::Z:=⟨_,rfl⟩
 have hzJ:ZOk J Z Z:=hzK.less hJK hsub
 have hz1:∀kids,ZOk J (Z1 kids) (Z1 kids):=fun kids=>by
  rw [hZ1]
  exact ZOk.own (hzJ.consZ (hzK.none (.inr haK))) ⟨h0,haJ⟩ (fun j hj=>rfl) (C4 _ _ _)
 have hzz:∀kids,ZOk K Z (Z1 kids):=fun kids=>by rw [hZ1];exact hzK.cons (i:=a) (.inr haK)
 refine MetX.introH Tryz.func52 (by decide) rfl rfl rfl (fun hH=>?_)
 refine D3 (l4 (l:=[(0,.s L9)]) hI ⟨le1 rfl,trivial⟩ hH (by repeat (first | exact A8 | refine A9 rfl ?_))) ?_
 refine k2 (A3 (A7 A0 A0 (A5 ?_)));refine k1 (k2 ?_)
 have hz:=hzJ
 cases hp:A69 s K5 F st [] with
 | error e0 =>
  rw [hp] at hR
  have hne2:A69 s K5 F st []≠.error 0:=fun h=>hne (by rw [hp] at h;rw [hR,h])
  refine A3 (A4 A0 A0 ?_);refine M7 (halt (Nat.lt_succ_self F) hs hn hd hne2 _ _ Z ⟨rfl,rfl,by repeat (first | exact hz | refine ZOk.cons ?_ (.inl rfl) | refine ZOk.cons ?_ (.inr hz.k8.h811))⟩) (by repeat (first | exact FreeKs.nil | exact FreeKs.gf M1 | exact FreeKs.gf (R6 rfl) | exact FreeKs.gf (O9 hzK.k8) | exact FreeKs.gf hsub | refine FreeKs.cons (fun _ _=>rfl) ?_ | refine FreeKs.cons (J6 hz.k8) ?_ | refine FreeKs.cons (M3 hz.k8) ?_ | refine FreeKs.cons ks_own ?_ | refine FreeKs.cons (M2 rfl) ?_)) rfl rfl rfl ?_ ?_
  ·(rintro e ob' ⟨hR2,rfl⟩;rw [hp] at hR2;cases hR2;exact I2 (by repeat (first | exact A8 | refine A9 rfl ?_)) (fun _ _ h=>h) ⟨hR,rfl⟩)
  rintro _ _ ⟨_,_,hR2,_,_⟩;rw [hp] at hR2;cases hR2
 | ok q =>
  obtain ⟨st2,k⟩:=q
  rw [hp] at hR
  dsimp only at hR
  have hne2:A69 s K5 F st []≠.error 0:=fun h=>by rw [hp] at h;cases h
  obtain ⟨g2,_⟩:=(A30 (s:=s) F).alt hs.at_ (fun k hk=>by cases hk) hp
  have g2c:=g2.cnt
  have g2l:=g2.len
  have g2a:=g2.at_
  have hs2:SOk s st2:=⟨hlen,g2l,by omega⟩
  refine A3 (A4 A0 A0 ?_);refine M7 (halt (Nat.lt_succ_self F) hs hn hd hne2 _ _ Z ⟨rfl,rfl,by repeat (first | exact hz | refine ZOk.cons ?_ (.inl rfl) | refine ZOk.cons ?_ (.inr hz.k8.h811))⟩) (by repeat (first | exact FreeKs.nil | exact FreeKs.gf M1 | exact FreeKs.gf (R6 rfl) | exact FreeKs.gf (O9 hzK.k8) | exact FreeKs.gf hsub | refine FreeKs.cons (fun _ _=>rfl) ?_ | refine FreeKs.cons (J6 hz.k8) ?_ | refine FreeKs.cons (M3 hz.k8) ?_ | refine FreeKs.cons ks_own ?_ | refine FreeKs.cons (M2 rfl) ?_)) rfl rfl rfl ?_ ?_
  ·(rintro e ob' ⟨hR2,rfl⟩;rw [hp] at hR2;cases hR2)
  rintro _ _ ⟨st2',k',hR2,rfl,rfl⟩;rw [hp] at hR2;cases hR2;refine D1 (I43 a (c:=F2) (ys:=[k]) (G6 A0 A0 A0 A0 I0) A0 A0 A0 (G33 h0 h1 haK hzK) ha6) A0 (A7 A0 A0 (A5 ?_))
  refine k1 (k2 (k3 ?_));refine D2 (X:=Nat × List Int × PSt) (fun x=>([(0,.s L9),(3,.s (.one (.buf a Int 1 F2 x.2.1)))]++C0 K gf,PObs s x.2.2 (Z1 x.2.1))) (fun x=>SOk s x.2.2∧x.2.2.nodes.length≤x.2.2.at_+1∧x.2.2.depth+n=50∧x.2.1.length+x.1≤F+1∧x.1≤F∧R=A42 s K5 x.1 x.2.2 x.2.1) (fun x=>x.1) (F,[k],st2) ⟨hs2,by dsimp only;omega,by dsimp only;rw [g2.dep];exact hd,by simp only [L04,L09];omega,Nat.le_refl _,hR⟩ ?_ ?_
  ·dsimp only
   refine K76 ⟨le1 (show E5 (Fr.forget a _) 0=_ from A55 rfl (J6 hzK.k8 a haK)),le1 rfl,trivial⟩ (C6 hH) (by repeat (first | exact A8 | refine F8 _ haK ?_ | refine A9 rfl ?_)) ?_
   rw [hZ1]
   exact D43 h0 h1 haK hzK fun _ _ _ h=>h
  rintro ⟨f,kids,sc⟩ ⟨hsc,hnc,hdc,hkc,hfc,hRc⟩
  dsimp only at hsc hnc hdc hkc hfc hRc ⊢
  have hlc:=hsc.at_
  have hz:=hz1 kids
  obtain ⟨f,rfl⟩:∃g,f=g+1:=by
   cases f with
   | zero=>exact absurd (by rw [hRc,A42]) hne
   | succ g=>exact ⟨g,rfl⟩
  rw [A42] at hRc
  refine k2 (k2 (A3 (A4 A0 A0 (L4 (n4 s sc.at_ sc.depth 124 hlc (by omega) A0) A0 A0 A0 ?_))));rintro _ _ ⟨rfl,rfl⟩;refine A5 ?_
  by_cases hb:s[sc.at_]?=some 124
  rotate_left
  ·have hh:¬U4 s 124 sc=true:=fun h=>hb (A1 h)
   rw [if_neg hh] at hRc
   rw [decide_eq_false hb,if_neg hb]
   refine k1 ?_;refine B1 rfl (fun ht=>?_) (fun ht=>?_)
   ·cases ht
   refine k6 (k2 ?_);refine D3 (fr':=[(0,.s L9),(3,.s (.one (.buf a Int 1 F2 kids)))]++C0 K gf) (ob':=PObs s sc (Z1 kids)) (K76 ⟨le1 rfl,le1 rfl,trivial⟩ (C6 hH) (by repeat (first | exact A8 | refine A9 rfl ?_)) (O8 (K:=J) (st:=sc) ⟨rfl,rfl,by repeat (first | exact hz | refine ZOk.cons ?_ (.inl rfl) | refine ZOk.cons ?_ (.inr hz.k8.h811))⟩)) ?_
   refine D3 (Sees.forget a) ?_
   refine D3 (fr':=[(0,.s L9),(3,D6 Int 1 F2 kids)]++C0 K gf) (ob':=PObs s sc Z) (K76 ⟨le1 (A55 rfl (J6 hzK.k8 a haK)),le1 (H02 rfl),trivial⟩ (C6 hH) (by repeat (first | exact A8 | refine F8 _ haK ?_ | refine A9 rfl ?_)) (by rw [hZ1];exact H03 h0 h1 haK hzK)) ?_
   have hz:=hzK
   refine A3 (A4 A0 A0 (A4 A0 A0 ?_));refine B54 (F28 (K:=K) (s:=s) (st:=sc) (Z:=Z) 5 kids (by omega) (by omega) ⟨rfl,rfl,by repeat (first | exact hz | refine ZOk.cons ?_ (.inl rfl) | refine ZOk.cons ?_ (.inr hz.k8.h811))⟩) (by repeat (first | exact FreeKs.nil | exact FreeKs.gf M1 | exact FreeKs.gf (R6 rfl) | exact FreeKs.gf (O9 hzK.k8) | exact FreeKs.gf hsub | refine FreeKs.cons (fun _ _=>rfl) ?_ | refine FreeKs.cons (J6 hz.k8) ?_ | refine FreeKs.cons (M3 hz.k8) ?_ | refine FreeKs.cons ks_own ?_ | refine FreeKs.cons (M2 rfl) ?_)) rfl rfl rfl ?_;rintro _ _ ⟨rfl,rfl⟩;refine A7 A0 A0 (A5 ?_);refine k1 (k10 ?_)
   exact J3 (I8 rfl rfl) (by repeat (first | exact A8 | refine A9 rfl ?_)) (fun _ _ h=>h) ⟨_,_,hRc,rfl,rfl⟩
  have hh:U4 s 124 sc=true:=decide_eq_true hb
  have hsk:=O0 (s:=s) (x:=sc) 1 (l5 hh)
  have hs3:SOk s (sc.skip 1):=hsc.gr hsk (by omega)
  have hn3:(sc.skip 1).nodes.length≤(sc.skip 1).at_:=hnc
  rw [if_pos hh] at hRc
  rw [decide_eq_true hb,if_pos hb]
  refine k1 ?_;refine B1 rfl (fun ht=>?_) (fun ht=>?_)
  rotate_left
  ·cases ht
  refine k5 (k1 (k3 ?_));refine D3 (fr':=[(0,.s L9),(3,.s (.one (.buf a Int 1 F2 kids)))]++C0 K gf) (ob':=PObs s (sc.skip 1) (Z1 kids)) (K76 ⟨le1 rfl,le1 rfl,trivial⟩ (C6 hH) (by repeat (first | exact A8 | refine A9 rfl ?_)) (O8 (K:=J) (st:=sc.skip 1) ⟨rfl,rfl,by repeat (first | exact hz | refine ZOk.cons ?_ (.inl rfl) | refine ZOk.cons ?_ (.inr hz.k8.h811))⟩)) ?_
  have ks_own:∀k,G4 J k=true→(SV.s (.one (.buf a Int 1 F2 kids))).free k=true:=H91 haJ
  cases hq:A69 s K5 f (sc.skip 1) [] with
  | error e0 =>
   rw [hq] at hRc
   have hne3:A69 s K5 f (sc.skip 1) []≠.error 0:=fun h=>hne (by rw [hq] at h;rw [hRc,h])
   refine A3 (A4 A0 A0 (A4 A0 A0 ?_));refine M7 (halt (show f < F+1 by omega) hs3 hn3 hdc hne3 _ _ (Z1 kids) ⟨rfl,rfl,by repeat (first | exact hz | refine ZOk.cons ?_ (.inl rfl) | refine ZOk.cons ?_ (.inr hz.k8.h811))⟩) (by repeat (first | exact FreeKs.nil | exact FreeKs.gf M1 | exact FreeKs.gf (R6 rfl) | exact FreeKs.gf (O9 hzK.k8) | exact FreeKs.gf hsub | refine FreeKs.cons (fun _ _=>rfl) ?_ | refine FreeKs.cons (J6 hz.k8) ?_ | refine FreeKs.cons (M3 hz.k8) ?_ | refine FreeKs.cons ks_own ?_ | refine FreeKs.cons (M2 rfl) ?_)) rfl rfl rfl ?_ ?_
   ·(rintro e ob' ⟨hR2,rfl⟩;rw [hq] at hR2;cases hR2;exact I2 (by repeat (first | exact A8 | refine A9 rfl ?_)) (hzz _).sub ⟨hRc,rfl⟩)
   rintro _ _ ⟨_,_,hR2,_,_⟩;rw [hq] at hR2;cases hR2
  | ok q =>
   obtain ⟨sd,j⟩:=q
   rw [hq] at hRc
   dsimp only at hRc
   have hne3:A69 s K5 f (sc.skip 1) []≠.error 0:=fun h=>by rw [hq] at h;cases h
   obtain ⟨g4,_⟩:=(A30 (s:=s) f).alt hs3.at_ (fun k hk=>by cases hk) hq
   have g4c:=g4.cnt
   have g4l:=g4.len
   have g4a:=g4.at_
   have hs4:SOk s sd:=⟨hlen,g4l,by omega⟩
   refine A3 (A4 A0 A0 (A4 A0 A0 ?_));refine M7 (halt (show f < F+1 by omega) hs3 hn3 hdc hne3 _ _ (Z1 kids) ⟨rfl,rfl,by repeat (first | exact hz | refine ZOk.cons ?_ (.inl rfl) | refine ZOk.cons ?_ (.inr hz.k8.h811))⟩) (by repeat (first | exact FreeKs.nil | exact FreeKs.gf M1 | exact FreeKs.gf (R6 rfl) | exact FreeKs.gf (O9 hzK.k8) | exact FreeKs.gf hsub | refine FreeKs.cons (fun _ _=>rfl) ?_ | refine FreeKs.cons (J6 hz.k8) ?_ | refine FreeKs.cons (M3 hz.k8) ?_ | refine FreeKs.cons ks_own ?_ | refine FreeKs.cons (M2 rfl) ?_)) rfl rfl rfl ?_ ?_
   ·(rintro e ob' ⟨hR2,rfl⟩;rw [hq] at hR2;cases hR2)
   rintro _ _ ⟨sd',j',hR2,rfl,rfl⟩;rw [hq] at hR2;cases hR2;refine A6 (D7 (c:=F2) (ys:=[j]) (G6 A0 A0 A0 A0 I0) A0 A0 A0) A0 (D1 (P0 A0 (by rw [hZ1];exact H90 h0 h1) A0 (.pure _ _ _ _) (by (simp only [L04,L09];omega)) hap) A0 ?_);refine A7 A0 A0 (A5 ?_)
   refine k4 (k1 ?_);refine ⟨(f,kids++[j],sd),⟨hs4,by dsimp only;omega,by dsimp only;rw [g4.dep];exact hdc,by simp only [L06,L04,L09];omega,by dsimp only;omega,hRc⟩,by dsimp only;omega,?_⟩
   dsimp only
   refine K76 ⟨le1 (show E5 (Fr.forget a _) 0=_ from A55 rfl (J6 hzK.k8 a haK)),le1 rfl,trivial⟩ (C6 hH) (by repeat (first | exact A8 | refine F8 _ haK ?_ | refine A9 rfl ?_)) ?_
   rw [hZ1]
   exact D43 h0 h1 haK hzK H89
set_option maxHeartbeats 1000000
theorem K55 {n:Nat} {s:Str} {st:PSt} (hs:SOk s st) (hn:st.nodes.length≤st.at_) (hd:st.depth+n=50) (hlt:st.at_+1≤s.length) {F:Nat} (hne:U6 s K5 F st≠.error 0)
  (hpat:∀m f st',n=m+1→f < F→SOk s st'→st'.nodes.length≤st'.at_→st'.depth+m=50→B24 s K5 f st'≠.error 0→PX 52 [L9] (ksN (m+1)) s st' (B24 s K5 f st') B14) :
  PX 159 [L9] (ksN n) s st (U6 s K5 F st) B14:=by
 intro gf ob Z hI
 obtain ⟨K,hK⟩:∃K,K=ksN n:=⟨_,rfl⟩
 rw [←hK] at hI ⊢
 have hz:=hI.z.self
 have hlen:=hs.len
 obtain ⟨R,hR⟩:∃R,R=U6 s K5 F st:=⟨_,rfl⟩
 rw [←hR] at hne ⊢
 obtain ⟨F,rfl⟩:∃G,F=G+1:=by
  cases F with
  | zero=>exact absurd (by rw [hR,U6]) hne
  | succ g=>exact ⟨g,rfl⟩
 rw [U6] at hR
 refine MetX.introH Tryz.func159 (by decide) rfl rfl rfl (fun hH=>?_)
 refine D3 (l4 (l:=[(0,.s L9)]) hI ⟨le1 rfl,trivial⟩ hH (by repeat (first | exact A8 | refine A9 rfl ?_))) ?_
 refine k2 (A3 (A7 A0 A0 (A5 ?_)));refine k1 (k2 (k2 (A3 (A4 A0 A0 (A6 (B2 A0) A0 (A6 (B0 A0) A0 (G3 A0 A0 A0 A0 (A6 (H0 A0 A0) A0 (A5 ?_)))))))));refine k1 ?_;refine B1 rfl (fun ht=>?_) (fun ht=>?_)
 ·have h50:st.depth=50:=by have:=A1 ht;omega
  rw [if_pos h50] at hR
  skip
  refine A3 (A6 (J4 A0 (by kernel_rfl)) A0 (P1 A0 ?_))
  exact I2 (by repeat (first | exact A8 | refine A9 rfl ?_)) hz.pobs ⟨hR,rfl⟩
 have h50:¬st.depth=50:=by have:=A2 ht;omega
 rw [if_neg h50] at hR
 obtain ⟨m,rfl⟩:∃m,n=m+1:=⟨n - 1,by omega⟩
 obtain ⟨st1,hst1⟩:∃st1,st1=({ st with at_:=st.at_+1,depth:=st.depth+1 }:PSt):=⟨_,rfl⟩
 rw [←hst1] at hR
 have hs1:SOk s st1:=by rw [hst1];exact ⟨hlen,hlt,by dsimp only;omega⟩
 have hn1:st1.nodes.length≤st1.at_:=by rw [hst1];dsimp only;omega
 have hd1:st1.depth+m=50:=by rw [hst1];dsimp only;omega
 refine k5 (k1 (k2 (A3 (A4 A0 A0 (A6 (B2 A0) A0 (A6 (B0 A0) A0 (G3 A0 A0 A0 A0 (E3 A0 A0 A0 (A6 (B2 A0) A0 (A6 (B0 A0) A0 (G1 (B9 TySz.out A0 A0 A0 A0 A0 A0) (A5 ?_))))))))))));refine k1 (k2 (A3 (A4 A0 A0 (A6 (B2 A0) A0 (A6 (B0 A0) A0 (G3 A0 A0 A0 A0 (E3 A0 A0 A0 (A6 (B2 A0) A0 (A6 (B0 A0) A0 (G1 (B9 TySz.out A0 A0 A0 A0 A0 A0) (A5 ?_)))))))))));refine k1 (k2 ?_);refine D3 (fr':=[(0,.s L9)]++C0 K gf) (ob':=PObs s st1 Z) (K76 ⟨le1 rfl,trivial⟩ (C6 hH) (by repeat (first | exact A8 | refine A9 rfl ?_)) (by rw [hst1];exact O8 (K:=K) (st:={ st with at_:=st.at_+1,depth:=st.depth+1 }) ⟨rfl,rfl,by repeat (first | exact hz | refine ZOk.cons ?_ (.inl rfl) | refine ZOk.cons ?_ (.inr hz.k8.h811))⟩)) ?_
 have hpx:=hpat m F st1 rfl (Nat.lt_succ_self F) hs1 hn1 hd1
 rw [←hK] at hpx
 cases hp:B24 s K5 F st1 with
 | error e0 =>
  rw [hp] at hR
  have hne2:B24 s K5 F st1≠.error 0:=fun h=>hne (by rw [hp] at h;rw [hR,h])
  refine A3 (A4 A0 A0 ?_);refine M7 (hpx hne2 _ _ Z ⟨rfl,rfl,by repeat (first | exact hz | refine ZOk.cons ?_ (.inl rfl) | refine ZOk.cons ?_ (.inr hz.k8.h811))⟩) (by repeat (first | exact FreeKs.nil | exact FreeKs.gf M1 | exact FreeKs.gf (R6 rfl) | exact FreeKs.gf (O9 hzK.k8) | exact FreeKs.gf hsub | refine FreeKs.cons (fun _ _=>rfl) ?_ | refine FreeKs.cons (J6 hz.k8) ?_ | refine FreeKs.cons (M3 hz.k8) ?_ | refine FreeKs.cons ks_own ?_ | refine FreeKs.cons (M2 rfl) ?_)) rfl rfl rfl ?_ ?_
  ·(rintro e ob' ⟨hR2,rfl⟩;rw [hp] at hR2;cases hR2;exact I2 (by repeat (first | exact A8 | refine A9 rfl ?_)) (fun _ _ h=>h) ⟨hR,rfl⟩)
  rintro _ _ ⟨_,_,hR2,_,_⟩;rw [hp] at hR2;cases hR2
 | ok q =>
  obtain ⟨st2,k⟩:=q
  rw [hp] at hR
  dsimp only at hR
  have hne2:B24 s K5 F st1≠.error 0:=fun h=>by rw [hp] at h;cases h
  obtain ⟨g2,_⟩:=(A30 (s:=s) F).pat hs1.at_ hp
  have g2d:=g2.dep
  have g2l:=g2.len
  have e1:st1.depth=st.depth+1:=by rw [hst1]
  have e2:(st2.depth:Int) - 1=((st2.depth - 1:Nat):Int):=by omega
  refine A3 (A4 A0 A0 ?_);refine M7 (hpx hne2 _ _ Z ⟨rfl,rfl,by repeat (first | exact hz | refine ZOk.cons ?_ (.inl rfl) | refine ZOk.cons ?_ (.inr hz.k8.h811))⟩) (by repeat (first | exact FreeKs.nil | exact FreeKs.gf M1 | exact FreeKs.gf (R6 rfl) | exact FreeKs.gf (O9 hzK.k8) | exact FreeKs.gf hsub | refine FreeKs.cons (fun _ _=>rfl) ?_ | refine FreeKs.cons (J6 hz.k8) ?_ | refine FreeKs.cons (M3 hz.k8) ?_ | refine FreeKs.cons ks_own ?_ | refine FreeKs.cons (M2 rfl) ?_)) rfl rfl rfl ?_ ?_
  ·(rintro e ob' ⟨hR2,rfl⟩;rw [hp] at hR2;cases hR2)
  rintro _ _ ⟨st2',k',hR2,rfl,rfl⟩;rw [hp] at hR2;cases hR2;refine A7 A0 A0 (A5 ?_)
  refine k1 (k2 (A3 (A4 A0 A0 (A6 (B2 A0) A0 (A6 (B0 A0) A0 (G3 A0 A0 A0 A0 (A6 (N1 A0 A0 (by omega)) A0 (A6 (B2 A0) A0 (A6 (B0 A0) A0 (G1 (B9 TySz.out A0 A0 A0 A0 A0 A0) (A5 ?_)))))))))))
  rw [e2]
  obtain ⟨st3,hst3⟩:∃st3,st3=({ st2 with depth:=st2.depth - 1 }:PSt):=⟨_,rfl⟩
  refine D3 (fr':=[(0,.s L9),(3,I7 (.int .i64 k))]++C0 K gf) (ob':=PObs s st3 Z) (K76 ⟨le1 rfl,le1 rfl,trivial⟩ (C6 hH) (by repeat (first | exact A8 | refine A9 rfl ?_)) (by rw [hst3];exact O8 (K:=K) (st:={ st2 with depth:=st2.depth - 1 }) ⟨rfl,rfl,by repeat (first | exact hz | refine ZOk.cons ?_ (.inl rfl) | refine ZOk.cons ?_ (.inr hz.k8.h811))⟩)) ?_
  have ha3:st3.at_=st2.at_:=by rw [hst3]
  refine k2 (k2 (A3 (A4 A0 A0 (L4 (n4 s st3.at_ st3.depth 41 (by omega) (by omega) A0) A0 A0 A0 ?_))));rintro _ _ ⟨rfl,rfl⟩;refine A6 (S2 A0) A0 (A5 ?_)
  rw [ha3]
  by_cases hb:s[st2.at_]?=some 41
  ·have hh:U4 s 41 st2=true:=decide_eq_true hb
   rw [if_pos hh] at hR
   rw [decide_eq_true hb,if_pos hb]
   refine k1 ?_;refine B1 rfl (fun ht=>?_) (fun ht=>?_)
   ·cases ht
   refine k5 (k1 (k2 (A3 (A4 A0 A0 (A7 A0 A0 (A5 ?_))))));refine k1 (k10 ?_);refine J3 (I8 rfl rfl) (by repeat (first | exact A8 | refine A9 rfl ?_)) (O8 (K:=K) (st:={ st2 with at_:=st2.at_+1,depth:=st2.depth - 1 }) ⟨?_,?_,by repeat (first | exact hz | refine ZOk.cons ?_ (.inl rfl) | refine ZOk.cons ?_ (.inr hz.k8.h811))⟩) ⟨_,_,hR,rfl,rfl⟩
   ·rw [hst3];rfl
   ·rw [hst3];rfl
  ·have hh:¬U4 s 41 st2=true:=fun h=>hb (A1 h)
   rw [if_neg hh] at hR
   rw [decide_eq_false hb,if_neg hb]
   refine k1 ?_;refine B1 rfl (fun ht=>?_) (fun ht=>?_)
   rotate_left
   ·cases ht
   skip
   refine A3 (A6 (J4 A0 (by kernel_rfl)) A0 (P1 A0 ?_))
   exact I2 (by repeat (first | exact A8 | refine A9 rfl ?_)) ((((hz.cons (i:=811) (.inr hz.k8.h811)).cons (i:=810) (.inl rfl)).cons (i:=810) (.inl rfl)).sub) ⟨hR,rfl⟩
structure PxAll (s:Str) (F:Nat):Prop where
 pat:∀n st,st.depth+n=50→SOk s st→st.nodes.length≤st.at_→B24 s K5 F st≠.error 0→PX 52 [L9] (ksN (n+1)) s st (B24 s K5 F st) B14
 paren:∀n st,st.depth+n=50→SOk s st→st.nodes.length≤st.at_→st.at_+1≤s.length→U6 s K5 F st≠.error 0→PX 159 [L9] (ksN n) s st (U6 s K5 F st) B14
theorem I88 (s:Str):∀(B F:Nat),F < B→F≤5000→PxAll s F
 | 0,_,h,_=>by omega
 | B+1,F,h,hF=>⟨fun n st h1 h2 h3 h4=>pat_px (by omega) h2 h3 h1 hF h4 fun f st' h5 h6 h7 h8 h9 h10=>(I88 s B f (by omega) (by omega)).paren n st' h8 h6 h7 h9 h10,
  fun n st h1 h2 h3 h4 h5=>K55 h2 h3 h1 h4 h5 fun m f st' _ h7 h8 h9 h10 h11=>(I88 s B f (by omega) (by omega)).pat m st' h10 h8 h9 h11⟩
set_option maxHeartbeats 1000000
theorem F31 {P:Program} {ops:Array Oper} {Q:Exit→Act→List Frame→World→Prop} {i:Nat} {rest:List Nat} {a:Act} {cs:List Frame} {w w1:World} {t:TypeId} {x y:Operand} {ty:TypeId} {pos:String} {af:Array Edge}
  (ho:ops[i]?=some ⟨none,.store t x y,ty,pos,af,none⟩) (hr:(Instr.storeAt t (a.eval x) (a.eval y)).run P w=.ok () w1) (h:wpOpsSIn Fence.wide 0 P ops Q rest a cs w1):wpOpsSIn Fence.wide 0 P ops Q (i::rest) a cs w:=by
 simp only [wpOpsSIn,ho]
 refine ⟨fun _ _=>trivial,?_⟩
 have he:(execOp a.eval ⟨none,.store t x y,ty,pos,af,none⟩).run P w=.ok .skip w1:=by
  simp only [execOp,Sem.run_bind,hr,Result.andThen_ok,Sem.run_pure]
 rw [he]
 have hw:Region.wanted ⟨none,.store t x y,ty,pos,af,none⟩ (yielded ops a.tmps)=true:=rfl
 rw [if_pos hw]
 exact h
theorem J99 {P:Program} {ops:Array Oper} {Q:Exit→Act→List Frame→World→Prop} {i:Nat} {rest:List Nat} {a:Act} {cs:List Frame} {w:World} {d:Option Nat} {x:Operand} {ty:TypeId} {pos:String} {af:Array Edge}
  (ho:ops[i]?=some ⟨d,.move x,ty,pos,af,none⟩) (h:wpOpsSIn Fence.wide 0 P ops Q rest (a.put d (a.eval x)) cs w):wpOpsSIn Fence.wide 0 P ops Q (i::rest) a cs w:=by
 simp only [wpOpsSIn,ho]
 refine ⟨fun _ _=>trivial,?_⟩
 have he:(execOp a.eval ⟨d,.move x,ty,pos,af,none⟩).run P w=.ok (.value (a.eval x)) w:=by
  simp only [execOp,Sem.run_bind,Result.andThen_ok,Sem.run_pure]
 rw [he]
 have hw:Region.wanted ⟨d,.move x,ty,pos,af,none⟩ (yielded ops a.tmps)=true:=rfl
 rw [if_pos hw]
 exact h
theorem I89:RecFn Tryz.prog eT 51 65 30:=by
 intro p1 p2 e w w1 w2 hs1 hs2
 refine ⟨M4 ⟨_,rfl,rfl,rfl⟩,?_⟩
 have hta:(Instr.typeAssert (.iface 30 (.int .i64 e)) 20 30 true).run Tryz.prog w=.ok (.tuple #[.int .i64 e,.bool true]) w:=by
  simp only [Instr.typeAssert]
  rfl
 refine callsDIn_of_wpSIn Tryz.func51 rfl trivial fun c₀ cs hu=>?_
 simp only [Tryz.ntmps51,List.size_toArray,L04,L09,Nat.reduceAdd,Nat.reduceSub,Array.replicate_succ,Array.replicate_zero,List.push_toArray,List.append_toArray,L37,L25]
 apply wpSIn_seq
 apply wpSIn_region
 simp [wpOpsSIn,go_sem,recoverD,hu,Exit.thenS,hta]
 apply wpSIn_seq
 apply wpSIn_region
 simp [wpOpsSIn,go_sem,Exit.thenS]
 refine wpSIn_cond (t:=true) (by simp [Act.eval]) ?_
 simp only [if_true]
 apply wpSIn_region
 show wpOpsSIn Fence.wide 0 _ _ _ [0,1,2] _ _ _
 refine J99 A0 ?_
 refine F31 A0 (by simpa [Act.eval,Act.put] using hs1) ?_
 refine F31 A0 (by simpa [Act.eval,Act.put] using hs2) ?_
 cases c₀
 simp_all [wpOpsSIn,bodyPostS,results,Tryz.results51,settle]
 rfl
theorem H92 {P:Program} {T:TypeId} {fn:Func} {post:List PV→Prop} {k1 k2 i1 i2:Nat} {fr:Fr} {ob:Obs} {e:Int} {c1 c2:TC} (g1:E5 fr 1000001=some (.s (.one (.ref k1 0)))) (g2:E5 fr 1000002=some (.s (.one (.ref k2 0)))) (g3:c9 fr i1=some (.s (.one (.ref k1 0)))) (g4:c9 fr i2=some (.s (.one (.ref k2 0))))
  (o1:C1 ob k1=some (.box [c1])) (o2:C1 ob k2=some (.box [c2])) (hne:k1≠k2) (h:retP P fn post .ret (G70 fr) ((k2,.box [.p (.v (.int .i64 e))])::(k1,.box [.p (.v (.slice none 0 0))])::ob)):recQ T k1 k2 i1 i2 (retP P fn post) (.panic (A89 T e)) fr ob :=
 ⟨e,c1,c2,rfl,g1,g2,g3,g4,o1,o2,hne,h⟩
theorem z23 {K:List Nat} (hK:KOk K) (h2:G4 K 2=false) (h3:G4 K 3=false) {c1 c2:Cell} {ob:Obs} (e2:C1 ob 2=some (.box [.p c1])) (e3:C1 ob 3=some (.box [.p c2])):ZOk K [(2,.box [.p c1]),(3,.box [.p c2])] ob:=by
 have key:∀k o,C1 [(2,Ob.box [.p c1]),(3,.box [.p c2])] k=some o→(k=2∧o=.box [.p c1])∨(k=3∧o=.box [.p c2]):=fun k o hk=>by
  by_cases a2:2=k
  ·subst a2;rw [C4] at hk;cases hk;exact .inl ⟨rfl,rfl⟩
  rw [B4 a2] at hk
  by_cases a3:3=k
  ·subst a3;rw [C4] at hk;cases hk;exact .inr ⟨rfl,rfl⟩
  rw [B4 a3] at hk
  cases hk
 refine ⟨hK,fun k o hk=>?_,fun k o hk=>?_,fun k o hk j _=>?_⟩
 ·rcases key k o hk with ⟨rfl,rfl⟩ | ⟨rfl,rfl⟩
  ·exact e2
  ·exact e3
 ·rcases key k o hk with ⟨rfl,rfl⟩ | ⟨rfl,rfl⟩
  ·exact ⟨by decide,h2⟩
  ·exact ⟨by decide,h3⟩
 ·rcases key k o hk with ⟨rfl,rfl⟩ | ⟨rfl,rfl⟩<;>rfl
theorem H04 {K:List Nat} {i o:Nat} (h:G4 K i=false):∀k,G4 K k=true→(SV.s (.one (.ref i o))).free k=true:=fun k hk=>by
 show (!Nat.beq i k)=true
 rw [D02 (fun e=>by rw [←e,h] at hk;cases hk)];rfl
theorem J45 {K:List Nat} {f i j:Nat} (hi:G4 K i=false) (hj:G4 K j=false):∀k,G4 K k=true→(SV.s (.one (.clo f [] [(i,0),(j,0)]))).free k=true:=fun k hk=>by
 show (!(A74 k []||A74 k [(i,0),(j,0)]))=true
 have h1:i≠k:=fun e=>by rw [←e,hi] at hk;cases hk
 have h2:j≠k:=fun e=>by rw [←e,hj] at hk;cases hk
 simp [A74,D02 h1,D02 h2]
theorem K56 {rd:Rd} {z:Value} {α:Type} {ec:Nat} {c:α→Nat→Cell} (h:(PV.one (.v (.slice none 0 0))).rep rd z):(PV.one (.list α ec c [])).rep rd z:=by
 have e:z=.slice none 0 0:=by simp only [PV.rep,Cell.rep] at h;exact h.1
 rw [e]
 exact I4 α ec c
theorem retcn {P:Program} {fn:Func} {fr:Fr} {ob:Obs} {t t':Tmp} {k k':Nat} {tt tt':TypeId} {ts ts':List TC} {c':Cell} {α:Type} {ec:Nat} {cc:α→Nat→Cell} [TyOne P tt] [TyOne P tt'] (hr:fn.results=#[.cell t tt,.cell t' tt']) (ht:c9 fr t=some (.s (.one (.ref k 0)))) (hk:C1 ob k=some (.box ts)) (h0:ts[0]?=some (.p (.v (.slice none 0 0))))
  (ht':c9 fr t'=some (.s (.one (.ref k' 0)))) (hk':C1 ob k'=some (.box ts')) (h0':ts'[0]?=some (.p c')):RetOk P fn fr ob [.one (.list α ec cc []),.one c']:=by
 unfold RetOk
 intro S G a w h
 obtain ⟨b,z,h1,h2,h3⟩:=E66 h (tt:=tt) ht hk h0
 obtain ⟨b',z',h1',h2',h3'⟩:=E66 h (tt:=tt') ht' hk' h0'
 rw [Array.getD_eq_getD_getElem?] at h1 h1'
 exact ⟨_,by simp [results,hr,h1,h1',asAddr,h2,h2'],[_,_],rfl,K56 h3,h3',trivial⟩
def parsed (s:Str):List AL.Node × Int:=D69 s K5 1100
theorem B34 (s:Str) (hs:s.length≤1099511627776):FnOk Tryz.prog 26 [H7 s] (fun rs=>rs=[j2 (parsed s).1,E2 (parsed s).2]):=by
 refine K92 Tryz.func26 (by decide) A0 A0 A0 A0 ?_
 refine J34 ?_
 refine A3 (D1 (J1 2 A0) A0 (D1 (J1 3 A0) A0 (A5 ?_)));refine k1 (J34 ?_)
 refine k2 (A3 (A4 A0 A0 (A6 (J7 A0) A0 (A6 (O1 A0 A0) A0 (A5 ?_)))));refine k1 ?_;refine B1 rfl (fun ht=>?_) (fun ht=>?_)
 ·have h256:s.length > 256:=by have:=A1 ht;omega
  have hP:parsed s=([],1):=by unfold parsed D69;rw [if_pos h256]
  rw [hP]
  refine k2 (A3 (G1 (B9 TySz.out A0 A0 A0 A0 A0 A0) (G1 (B9 TySz.out A0 A0 A0 A0 A0 A0) (A5 ?_))));refine k1 (k10 (k11 ?_))
  exact B8 (rs:=[j2 [],E2 1]) (retcn rfl rfl rfl rfl rfl rfl rfl) rfl
 have h256:¬s.length > 256:=by have:=A2 ht;omega
 have hP:parsed s=match B24 s K5 1100 ⟨0,0,[]⟩ with
  | .error e=>([],e)
  | .ok (st,_)=>if st.at_ < s.length then ([],40) else (st.nodes,0):=by unfold parsed D69;rw [if_neg h256];rfl
 have hs0:SOk s ⟨0,0,[]⟩:=⟨by omega,Nat.zero_le _,by decide⟩
 have hne:B24 s K5 1100 ⟨0,0,[]⟩≠.error 0:=(nz_all 1100).pat _ (Nat.zero_le _) (by dsimp only;omega)
 obtain ⟨K,hK⟩:∃K,K=ksN 51:=⟨_,rfl⟩
 have hK8:KOk K:=by rw [hK];exact H01 51
 have hk2:G4 K 2=false:=by rw [hK];exact H00 (by decide)
 have hk3:G4 K 3=false:=by rw [hK];exact H00 (by decide)
 have hpx:=(I88 s 1101 1100 (by decide) (by decide)).pat 50 ⟨0,0,[]⟩ rfl hs0 (Nat.le_refl _) hne
 rw [←hK] at hpx
 clear hK
 refine k5 (k1 ?_)
 refine I47 (T:=eT) (k1:=2) (k2:=3) (i1:=2) (i2:=3) (t1:=65) (t2:=30) A0 A0 A0 H81 I89 A0 A0 ?_
 refine k2 (A3 (A4 A0 A0 (A6 (K0 A0) A0 (D1 (s6 810 A0 A0 A0) A0 (A7 A0 A0 (A5 ?_))))));refine D3 (K81 811 AL.Node 8 A68 154 (kb:=810) (o:=3) A0 A0 A0) ?_
 refine k2 ?_
 cases hp:B24 s K5 1100 ⟨0,0,[]⟩ with
 | error e0 =>
  rw [hp] at hP
  refine A3 (A4 A0 A0 ?_);refine M7 (hpx _ _ _ ⟨rfl,rfl,z23 hK8 hk2 hk3 rfl rfl⟩) (by repeat (first | exact FreeKs.nil | refine FreeKs.cons (fun _ _=>rfl) ?_ | refine FreeKs.cons (J6 hK8) ?_ | refine FreeKs.cons (H04 hk2) ?_ | refine FreeKs.cons (H04 hk3) ?_ | refine FreeKs.cons (J45 hk2 hk3) ?_)) rfl rfl rfl ?_ ?_
  ·(rintro e ob' ⟨hR2,rfl⟩;rw [hp] at hR2;cases hR2;exact H92 rfl rfl rfl rfl rfl rfl (by decide) (B8 (rs:=[j2 [],E2 e0]) (retcn rfl rfl rfl rfl rfl rfl rfl) (by rw [hP])))
  rintro _ _ ⟨_,_,hR2,_,_⟩;refine A5 ?_
  rw [hp] at hR2;cases hR2
 | ok q =>
  obtain ⟨st,v⟩:=q
  rw [hp] at hP
  dsimp only at hP
  obtain ⟨g,_⟩:=(A30 (s:=s) 1100).pat (Nat.zero_le _) hp
  have hgl:=g.len
  have hgc:=g.cnt
  dsimp only [L09] at hgc
  refine A3 (A4 A0 A0 ?_);refine M7 (hpx _ _ _ ⟨rfl,rfl,z23 hK8 hk2 hk3 rfl rfl⟩) (by repeat (first | exact FreeKs.nil | refine FreeKs.cons (fun _ _=>rfl) ?_ | refine FreeKs.cons (J6 hK8) ?_ | refine FreeKs.cons (H04 hk2) ?_ | refine FreeKs.cons (H04 hk3) ?_ | refine FreeKs.cons (J45 hk2 hk3) ?_)) rfl rfl rfl ?_ ?_
  ·(rintro e ob' ⟨hR2,rfl⟩;rw [hp] at hR2;cases hR2)
  rintro _ _ ⟨st',v',hR2,rfl,rfl⟩;rw [hp] at hR2;cases hR2;refine A5 ?_
  refine k1 (k2 (k2 (A3 (A4 A0 A0 (A6 (B2 A0) A0 (A6 (B0 A0) A0 (G3 A0 A0 A0 A0 (A4 A0 A0 (A6 (J7 A0) A0 (F7 A0 A0 A0 (A5 ?_)))))))))));refine k1 ?_;refine B1 rfl (fun ht=>?_) (fun ht=>?_)
  ·have hlt:st.at_ < s.length:=by have:=A1 ht;omega
   rw [if_pos hlt] at hP
   skip
   refine A3 (A6 (J4 A0 (by kernel_rfl)) A0 (P1 A0 ?_))
   exact H92 rfl rfl rfl rfl rfl rfl (by decide) (B8 (rs:=[j2 [],E2 40]) (retcn rfl rfl rfl rfl rfl rfl rfl) (by rw [hP]))
  have hlt:¬st.at_ < s.length:=by have:=A2 ht;omega
  rw [if_neg hlt] at hP
  refine k5 (k1 (k2 (A3 (A4 A0 A0 (A6 (B2 A0) A0 (A6 (B0 A0) A0 (G3 A0 A0 A0 A0 (G1 (B9 TySz.out A0 A0 A0 A0 A0 A0) (G1 (B9 TySz.out A0 A0 A0 A0 A0 A0) (A5 ?_))))))))));refine k1 (D3 (Sees.freezeG (k:=811) (α:=AL.Node) (ec:=8) (c:=A68) (xs:=st.nodes) (e:=154) rfl rfl) ?_)
  refine k10 ?_
  exact B8 (rs:=[j2 st.nodes,E2 0]) (retcc rfl rfl rfl rfl rfl rfl rfl) (by rw [hP])
set_option maxHeartbeats 1000000
abbrev D44 (A:AL.Auto):Unit→Nat→Cell:=fun _ j=>[Cell.list AL.State 7 z6 A.States,Cell.v (.int .i64 A.Start)].getD j (.v undef)
theorem I90 (A:AL.Auto) (hA:AG A):FnOk Tryz.prog 64 [A24 A] (fun rs=>rs=[E2 0]):=by
 obtain ⟨hl1,hl2⟩:=hA.len
 have hst:=hA.start
 obtain ⟨n,hn⟩:∃n,n=A.States.length:=⟨_,rfl⟩
 have hgd:=hA.good
 rw [←hn] at hl1 hl2 hst hgd
 refine FnOk.intro Tryz.func64 (by decide) A0 A0 A0 A0 ?_
 refine k2 (A3 (A6 (o5 A0 A0 A0) A0 (A7 A0 A0 (A5 ?_))));refine k1 (k2 (A3 (A6 (C3 A0) A0 (A6 (B3 A0 A0) A0 (F4 A0 A0 (D1 (J1 3 A0) A0 (G1 (B9 TySz.out A0 A0 A0 A0 A0 A0) (A5 ?_))))))));refine k1 (k2 (A3 (A6 (Y7 A0 A0) A0 (A7 A0 A0 (A5 ?_)))));refine k1 (k2 (k2 ?_))
 have hd1:decide ((n:Int) < 1)=false:=decide_eq_false (by omega)
 have hd2:decide ((8000:Int) < n)=false:=decide_eq_false (by omega)
 have hd3:decide (0≤A.Start∧A.Start < (n:Int))=true:=decide_eq_true hst
 rw [←hn]
 refine A3 (G3 A0 A0 A0 A0 (F7 A0 A0 A0 (A4 A0 A0 (G9 A0 A0 A0 hd1 (G3 A0 A0 A0 A0 (G9 A0 A0 A0 hd1 (A6 (O1 A0 A0) A0 (A6 (V5 A0 (hd1) A0) A0 (A4 A0 A0 (G9 A0 A0 A0 hd2 (A4 A0 A0 (G9 A0 A0 A0 hd2 (A6 (C3 A0) A0 (G9 A0 A0 A0 hd2 (A6 (B3 A0 A0) A0 (G9 A0 A0 A0 hd2 (C94 (C15 A.Start n A0) A0 A0 A0 A0 ?_)))))))))))))))));rintro _ _ ⟨rfl,rfl⟩;refine G9 A0 A0 A0 hd2 (A6 (S2 A0) A0 (A6 (V5 A0 (hd2) A0) A0 (A5 ?_)))
 rw [hd3]
 refine k1 ?_;refine B1 rfl (fun ht=>?_) (fun ht=>?_)
 ·cases ht
 refine k5 (k1 (k2 (k2 (A3 (A6 (C3 A0) A0 (A6 (B3 A0 A0) A0 (F4 A0 A0 (A4 A0 A0 (A5 ?_)))))))));refine k1 (k3 (D2 (X:=Nat) (fun i=>([(3,.s (.one (.ref 3 0))),(4,.s (.one (.clo 95 [] [(3,0)]))),(26,.s (J63 A.States).s1),(27,C7 n),(28,C7 i)],[(3,.box [.p (.v (.int .i64 n))])])) (fun i=>i≤n) (fun i=>n - i) 0 (Nat.zero_le _) (Sees.of ⟨le1 rfl,le1 rfl,le1 rfl,leE A0 (by first | (simp;done) | (simp;omega)),le1 rfl,trivial⟩ ⟨rfl,trivial⟩) ?_))
 intro i hi
 dsimp only at hi ⊢
 refine k2 (A3 (F7 A0 A0 A0 (A5 ?_)));refine k1 (k2 ?_);refine B1 rfl (fun ht=>?_) (fun ht=>?_)
 ·have hlt:i < n:=Int.ofNat_lt.1 (A1 ht)
  obtain ⟨q,hq⟩:∃q,q=A.States[i]'(by omega):=⟨_,rfl⟩
  have hv:A.States[i]?=some q:=by rw [hq];exact L01 (by omega)
  have hK:=B77 (hgd q (L14 hv))
  obtain ⟨b,hb⟩:∃b,b=decide (0≤q.Next∧q.Next < (n:Int)):=⟨_,rfl⟩
  have hbt:¬q.Kind=4→b=true:=fun h4=>by rw [hb];exact decide_eq_true (by omega)
  refine k5 (k1 (k2 (k3 (k2 (A3 (A6 (B6 A0 (.pure _ _ _ _) A0 (by omega) hv) A0 (A6 (E1 A0 A0) A0 (D1 (J1 6 A0) A0 (G1 (B9 TySz.out A0 A0 A0 A0 A0 A0) (A5 ?_))))))))));refine k1 (k2 (A3 (A4 A0 A0 (A6 (B0 A0) A0 (G3 A0 A0 A0 A0 (C94 (C15 q.Next n A0) A0 A0 A0 A0 ?_))))));rintro _ _ ⟨rfl,rfl⟩;refine A7 A0 A0 (A5 ?_)
  rw [←hb]
  refine k1 (k2 (k2 (A3 (A6 (B0 A0) A0 (G3 A0 A0 A0 A0 (A5 ?_))))));refine k1 ?_;refine A87 [(3,.s (.one (.ref 3 0))),(4,.s (.one (.clo 95 [] [(3,0)]))),(26,.s (J63 A.States).s1),(27,C7 n),(28,C7 i),(7,S0 true)] [(3,.box [.p (.v (.int .i64 n))])] ?_ ?_
  ·refine k3 (k2 (k2 (A3 (A6 (H0 A0 A0) A0 (A7 A0 A0 (A5 ?_))))));refine k1 ?_;refine B1 rfl (fun ht=>?_) (fun ht=>?_)
   ·rw [hbt (by have:=A1 ht;omega)]
    refine k5 (k1 ?_);refine B1 rfl (fun ht=>?_) (fun ht=>?_)
    ·refine k5 (k4 (k1 ?_))
     exact Sees.of ⟨le1 rfl,le1 rfl,le1 rfl,le1 rfl,le1 rfl,le1 rfl,trivial⟩ ⟨rfl,trivial⟩
    ·exact absurd (A1 (by assumption)) (A2 ht)
   have hK0:¬q.Kind=0:=A2 ht
   refine k2 (A3 (A6 (H0 A0 A0) A0 (A7 A0 A0 (A5 ?_))));refine k1 ?_;refine B1 rfl (fun ht=>?_) (fun ht=>?_)
   ·rw [hbt (by have:=A1 ht;omega)]
    refine k5 (k1 ?_);refine B1 rfl (fun ht=>?_) (fun ht=>?_)
    ·refine k5 (k4 (k1 ?_))
     exact Sees.of ⟨le1 rfl,le1 rfl,le1 rfl,le1 rfl,le1 rfl,le1 rfl,trivial⟩ ⟨rfl,trivial⟩
    ·exact absurd (A1 (by assumption)) (A2 ht)
   have hK2:¬q.Kind=2:=A2 ht
   skip
   refine A3 (A6 (H0 A0 A0) A0 (A7 A0 A0 (A5 ?_)));refine k1 ?_;refine B1 rfl (fun ht=>?_) (fun ht=>?_)
   ·rw [hbt (by have:=A1 ht;omega)]
    refine k5 (k4 (k1 ?_))
    exact Sees.of ⟨le1 rfl,le1 rfl,le1 rfl,le1 rfl,le1 rfl,le1 rfl,trivial⟩ ⟨rfl,trivial⟩
   have hK3:¬q.Kind=3:=A2 ht
   refine k2 (A3 (A6 (H0 A0 A0) A0 (A7 A0 A0 (A5 ?_))));refine k1 ?_;refine B1 rfl (fun ht=>?_) (fun ht=>?_)
   ·skip
    have hK1:q.Kind=1:=A1 ht
    have hO:decide (0≤q.Other∧q.Other < (n:Int))=true:=decide_eq_true (by omega)
    rw [hbt (by omega)]
    refine A3 (A4 A0 A0 (A4 A0 A0 (G9 A0 A0 A0 A0 (A4 A0 A0 (G9 A0 A0 A0 A0 (A6 (B0 A0) A0 (G9 A0 A0 A0 A0 (G3 A0 A0 A0 A0 (G9 A0 A0 A0 A0 (C94 (C15 q.Other n A0) A0 A0 A0 A0 ?_))))))))));rintro _ _ ⟨rfl,rfl⟩;refine K7 A0 A0 ?_;refine A7 A0 A0 (A5 ?_)
    rw [hO]
    refine k4 (k1 ?_)
    exact Sees.of ⟨le1 rfl,le1 rfl,le1 rfl,le1 rfl,le1 rfl,le1 rfl,trivial⟩ ⟨rfl,trivial⟩
   have hK1:¬q.Kind=1:=A2 ht
   refine k2 (A3 (A6 (H0 A0 A0) A0 (A7 A0 A0 (A5 ?_))));refine k1 ?_;refine B1 rfl (fun ht=>?_) (fun ht=>?_)
   ·skip
    refine A3 (A7 A0 A0 (A5 ?_));refine k4 (k1 ?_)
    exact Sees.of ⟨le1 rfl,le1 rfl,le1 rfl,le1 rfl,le1 rfl,le1 rfl,trivial⟩ ⟨rfl,trivial⟩
   have hK4:¬q.Kind=4:=A2 ht
   exfalso
   omega
  refine k2 (A3 (A4 A0 A0 (A6 (S2 A0) A0 (A5 ?_))));refine k1 ?_;refine B1 rfl (fun ht=>?_) (fun ht=>?_)
  ·cases ht
  refine k5 (k4 (k1 (A3 (E3 A0 A0 A0 (A4 A0 A0 (A5 ?_))))));refine k1 ?_
  exact ⟨i+1,Nat.succ_le_of_lt hlt,Nat.sub_lt_sub_left hlt (Nat.lt_succ_self i),Sees.of ⟨le1 rfl,le1 rfl,le1 rfl,le1 rfl,le1 rfl,trivial⟩ ⟨rfl,trivial⟩⟩
 refine k6 (k2 (A3 (A7 A0 A0 (A5 ?_))));refine k1 (k10 ?_)
 exact B8 (rs:=[E2 0]) (I1 rfl rfl rfl) rfl
set_option maxHeartbeats 1000000
abbrev macG (A:AL.Auto) (s:Str) (a:Nat) (x y:TC):Ob:=.box [.p (.list AL.State 7 z6 A.States),.p (.v (.int .i64 A.Start)),.p (.v (.string ⟨s.toArray⟩)),.p (.v (.int .i64 a)),x,y]
abbrev A56 (A:AL.Auto) (s:Str) (a:Nat):Ob:=macG A s a (.mut 831) (.mut 832)
abbrev A26:S1:=.one (.ref 830 0)
abbrev thO (l:List AL.Thread):Ob:=.grow 178 AL.Thread 2 j8 l
abbrev snO (l:List Bool):Ob:=.arr Bool 1 C89 l
abbrev pThr (t:AL.Thread):PV:=.agg [.v (.int .i64 t.state),.v (.int .i64 t.from_)]
theorem I91 (A:AL.Auto) (s:Str) (hA:AG A):AL.Met Tryz.prog 96 [(A24 A).s1,.one (.p (.v (.string ⟨s.toArray⟩))),R5 0] [] [] []
  (fun rs ob'=>rs=[A26]∧ob'=[(830,macG A s 0 (.p (.v (.slice none 0 0))) (.mut 832)),(832,snO (List.replicate A.States.length false))]):=by
 have h6:=hA.len
 refine AL.Met.intro Tryz.func96 (by decide) A0 A0 A0 ?_
 refine k2 (A3 (A6 (o5 A0 A0 A0) A0 (A7 A0 A0 (A5 ?_))));refine k1 (k2 (Q0 [8,6] [[],[6],[8,6]] [(6,([832],[])),(8,([830],[]))] [(0,[]),(1,[]),(2,[]),(3,[]),(4,[]),(5,[]),(6,[]),(7,[6]),(8,[6]),(9,[8,6])] [(0,[6]),(1,[6]),(2,[6])] (by kernel_rfl) (by kernel_rfl) (E6 A0 A0 (by kernel_rfl) A0 A0 (E1 A0 A0) (E6 A0 A0 (by kernel_rfl) A0 A0 (C2 A0 A0) (E6 A0 A0 (by kernel_rfl) A0 A0 (C2 A0 A0) (E6 A0 A0 (by kernel_rfl) A0 A0 (C3 A0) (E6 A0 A0 (by kernel_rfl) A0 A0 (B3 A0 A0) (E6 A0 A0 (by kernel_rfl) A0 A0 (r5 A0 (.pure _ _ _ _)) (Z5 A0 A0 (by kernel_rfl) A0 A0 (E65 (fun frc hU hk=>A00 832 Bool C89 false (T9 hU A0) (T9 hU A0) (by (first | omega | decide)) (by (first | omega | decide)) (fun _=>by first | exact ⟨⟨rfl,rfl⟩,trivial⟩ | exact ⟨I4 _ _ _,trivial⟩ | exact ⟨I4 _ _ _,⟨rfl,rfl⟩,I4 _ _ _,trivial⟩) (by rw [hk];rfl))) A0 ?_)))))))));refine E6 A0 A0 (by kernel_rfl) A0 A0 (K0 A0) (Z5 A0 A0 (by kernel_rfl) A0 A0 (E65 (fun frc hU hk=>s6 830 (T9 hU A0) A0 (by rw [hk];rfl))) A0 ?_);refine E6 A0 A0 (by kernel_rfl) A0 A0 (H5 A0 A0) ?_;refine G11 (by kernel_rfl) rfl ?_ ?_
 ·refine O3 A0 A0 (by kernel_rfl) A0 A0 (E1 A0 A0) (O3 A0 A0 (by kernel_rfl) A0 A0 (C2 A0 A0) (O3 A0 A0 (by kernel_rfl) A0 A0 (C2 A0 A0) ?_));exact C03
 refine k1 (k10 ?_)
 exact G7 (I8 rfl rfl) (by repeat (first | exact A8 | refine tail_drop rfl ?_ | refine A9 rfl ?_)) (fun _ _ h=>h) ⟨rfl,by rw [L03];rfl⟩
theorem G34 {gf:Fr} {ob:Obs} (A:AL.Auto) (s:Str) (hA:AG A) (a:Nat) (q fr:Int) (m0 R:Mach) (hm0:MG A m0) (hq:0≤q∧q < A.States.length) (hR0:addM A s a ⟨q,fr⟩ m0=R)
  (h0:C1 ob 830=some (A56 A s a)) (h1:C1 ob 831=some (thO m0.1)) (h2:C1 ob 832=some (snO m0.2)) (h3:C1 ob 834=none) :
  AL.Met Tryz.prog 97 [A26,(pThr ⟨q,fr⟩).s1] gf ob [831,834] (fun rs ob'=>rs=[]∧ob'=(830,A56 A s a)::(831,thO R.1)::(832,snO R.2)::G8 [831,834] ob):=by
 obtain ⟨hn1,hn2⟩:=hA.len
 refine AL.Met.introH Tryz.func97 (by decide) rfl rfl rfl (fun hH=>?_)
 refine D3 (K77 831 (l:=[(0,.s A26),(1,.s (pThr ⟨q,fr⟩).s1)]) (L:=[(830,_),(831,_),(832,_)]) ⟨le1 rfl,le1 rfl,trivial⟩ hH (by repeat (first | exact A8 | refine A9 rfl ?_)) ⟨h0,h1,h2,trivial⟩) ?_
 refine D3 (Sees.forget 834) ?_
 refine D3 (K76 (gf':=C0 [831,834] gf) (l:=[(0,.s A26),(1,.s (pThr ⟨q,fr⟩).s1)]) (ob':=[(830,A56 A s a),(831,thO m0.1),(832,snO m0.2)]++G8 [831,834] ob) ⟨le1 rfl,le1 rfl,trivial⟩ (C6 hH) (by repeat (first | exact A8 | refine tail_drop rfl ?_ | refine A9 rfl ?_ | refine F8 _ rfl ?_)) (E4 (L:=[(830,_),(831,_),(832,_)]) ⟨rfl,rfl,rfl,trivial⟩ (by repeat (first | exact D5 | refine D8 rfl ?_)))) ?_
 have hf3:C1 (G8 [831,834] ob) 834=none:=W8 h3
 refine k2 (A3 (A6 (o5 A0 A0 A0) A0 (A5 ?_)));refine k1 (k2 (A3 (A6 (C3 A0) A0 (A6 (B3 A0 A0) A0 (D1 (J72 834 (c:=F2) (ys:=[q]) (G6 A0 A0 A0 A0 I0) A0 A0 A0 hf3 A0) A0 (A7 A0 A0 (A5 ?_)))))));refine k1 (k3 ?_);refine D2 (X:=Nat × List Int × Mach) (fun x=>([(0,.s A26),(3,.s (.one (.eref Unit 2 (fun _ j=>[Cell.v (.int .i64 q),Cell.v (.int .i64 fr)].getD j (.v undef)) () 0))),(4,.s (.one (.mut 834)))]++C0 [831,834] gf,[(830,A56 A s a),(831,thO x.2.2.1),(832,snO x.2.2.2),(834,.grow 3 Int 1 F2 x.2.1)]++G8 [831,834] ob)) (fun x=>muA x.2.1 x.2.2 < x.1∧A71 A s a fr x.1 x.2.1 x.2.2=R∧muA x.2.1 x.2.2≤24001∧MG A x.2.2∧∀k∈x.2.1,0≤k∧k < A.States.length) (fun x=>muA x.2.1 x.2.2) (3*A.States.length+2,[q],m0) ?_ ?_ ?_
 ·have h6:=hm0.cnt
  refine ⟨?_,hR0,?_,hm0,fun k hk=>by rw [List.mem_singleton.1 hk];exact hq⟩
  ·unfold muA;simp only [List.length_singleton];omega
  ·unfold muA;simp only [List.length_singleton];omega
 ·exact K76 ⟨le1 rfl,le1 rfl,le1 rfl,trivial⟩ (C6 hH) (by repeat (first | exact A8 | refine tail_drop rfl ?_ | refine A9 rfl ?_ | refine F8 _ rfl ?_)) (E4 (L:=[(830,_),(831,_),(832,_),(834,_)]) ⟨rfl,rfl,rfl,rfl,trivial⟩ (by repeat (first | exact D5 | refine D8 rfl ?_ | refine M5 _ rfl ?_)))
 rintro ⟨f,opn,m⟩ ⟨hf,hR,hmu,hm,hop⟩
 dsimp only at hf hR hmu hm hop ⊢
 have hol:opn.length≤24001:=by unfold muA at hmu;omega
 have hcn:=hm.cnt
 have hsn:=hm.sl
 refine k2 (k2 (A3 (A4 A0 A0 (A6 (X3 A0 A0) A0 (A6 (O1 A0 A0) A0 (A5 ?_))))));refine k1 ?_;refine B1 rfl (fun ht=>?_) (fun ht=>?_)
 rotate_left
 ·have hy0:opn=[]:=List.length_eq_zero_iff.1 (by have:=A2 ht;omega)
  rw [hy0,K21] at hR
  rw [hR]
  refine k6 (k7 (k7 (k8 A0 ?_)))
  exact S8 (A81 rfl) (by repeat (first | exact A8 | refine tail_drop rfl ?_ | refine A9 rfl ?_ | refine F8 _ rfl ?_)) (E4 (L:=[(830,_),(831,_),(832,_)]) ⟨rfl,rfl,rfl,trivial⟩ (by repeat (first | exact D5 | refine D8 rfl ?_ | refine D9 hf3 ?_ | refine M5 _ rfl ?_))) ⟨rfl,rfl⟩
 have hpos:0 < opn.length:=by have:=A1 ht;omega
 obtain ⟨i,hi⟩:∃i,opn.getLast?=some i:=by
  cases h:opn.getLast? with
  | none=>rw [List.getLast?_eq_none_iff] at h;rw [h] at hpos;cases hpos
  | some i=>exact ⟨i,rfl⟩
 obtain ⟨_,hig,him⟩:=F66 hi
 obtain ⟨g3,g4⟩:=hop i him
 obtain ⟨f',opn',m',hff,hR',hf',hmu',hm',hop',hseen,hnew⟩:=I24 s hA hm hop hf hR hi
 have hvl:opn[((opn.length:Int) - 1).toNat]?=some i:=by rw [show ((opn.length:Int) - 1).toNat=opn.length - 1 by omega];exact hig
 have hcut:opn.take ((opn.length:Int) - 1).toNat=opn.dropLast:=by rw [List.dropLast_eq_take];congr 1;omega
 obtain ⟨r,hr⟩:∃r,r=opn.dropLast:=⟨_,rfl⟩
 have hrl:r.length≤24001:=by rw [hr,List.length_dropLast];omega
 rw [←hr] at hcut hseen hnew
 obtain ⟨b,hb⟩:∃b,b=K2 m.2 i.toNat:=⟨_,rfl⟩
 have hvb:m.2[i.toNat]?=some b:=by rw [hb];exact J15 (by rw [hm.sl];omega)
 rw [←hb] at hseen hnew
 have hvs:=D71 (A:=A) ⟨g3,g4⟩
 refine k5 (k1 (k3 (k2 (A3 (A4 A0 A0 (A4 A0 A0 (A6 (X3 A0 A0) A0 (A6 (N1 A0 A0 (by omega)) A0 (A6 (H6 A0 A0 A0 (by omega) (by omega)) A0 (A6 (A15 A0 A0 hvl A0) A0 (A7 A0 A0 (A5 ?_))))))))))));refine k1 (k2 (A3 (A4 A0 A0 (A4 A0 A0 (A6 (X3 A0 A0) A0 (A6 (N1 A0 A0 (by omega)) A0 (D1 (A88 A0 A0 A0 (by omega) (by omega) A0) A0 (A7 A0 A0 (A5 ?_)))))))))
 rw [hcut]
 refine k1 (k2 (k2 (A3 (A4 A0 A0 (A6 (B2 A0) A0 (A6 (B0 A0) A0 (G3 A0 A0 A0 A0 (A4 A0 A0 (A6 (F9 A0 A0 A0 (by omega) (by omega)) A0 (A6 (N8 A0 A0 hvb A0) A0 (A5 ?_)))))))))));refine k1 ?_;refine B1 rfl (fun ht=>?_) (fun ht=>?_)
 ·obtain ⟨e1,e2⟩:=hseen ht
  refine k6 (k7 (k8 A0 (k1 ?_)));refine ⟨(f',opn',m'),⟨hf',hR',(by dsimp only;omega),hm',hop'⟩,hmu',?_⟩
  rw [e1,e2]
  exact K76 ⟨le1 rfl,le1 rfl,le1 rfl,trivial⟩ (C6 hH) (by repeat (first | exact A8 | refine tail_drop rfl ?_ | refine A9 rfl ?_ | refine F8 _ rfl ?_)) (E4 (L:=[(830,_),(831,_),(832,_),(834,_)]) ⟨rfl,rfl,rfl,rfl,trivial⟩ (by repeat (first | exact D5 | refine D8 rfl ?_ | refine M5 _ rfl ?_)))
 obtain ⟨e1,e2⟩:=hnew ht
 have hA0:decide ((a:Int)=0)=decide (a=0):=decide_eq_decide.2 (by omega)
 have hA1:decide ((a:Int)=(s.length:Int))=decide (a=s.length):=decide_eq_decide.2 (by omega)
 rw [←hA0,←hA1] at e1
 obtain ⟨hsl,_⟩:=F64 hA ⟨g3,g4⟩ (decide ((a:Int)=0)) (decide ((a:Int)=(s.length:Int)))
 refine k5 (k1 (k2 (A3 (A4 A0 A0 (A6 (B2 A0) A0 (A6 (B0 A0) A0 (G3 A0 A0 A0 A0 (A4 A0 A0 (A6 (F9 A0 A0 A0 (by omega) (by omega)) A0 (G1 (L3 TySz.out A0 A0 (by omega) A0 A0) (A5 ?_)))))))))));refine k1 (k2 ?_);refine D3 (K76 (gf':=C0 [831,834] gf) (l:=[(0,.s A26),(3,.s (.one (.eref Unit 2 (fun _ j=>[Cell.v (.int .i64 q),Cell.v (.int .i64 fr)].getD j (.v undef)) () 0))),(4,.s (.one (.mut 834))),(5,C7 i)]) (ob':=[(830,A56 A s a),(831,thO m.1),(832,snO (m.2.set i.toNat true)),(834,.grow 3 Int 1 F2 r)]++G8 [831,834] ob) ⟨le1 rfl,le1 rfl,le1 rfl,le1 rfl,trivial⟩ (C6 hH) (by repeat (first | exact A8 | refine tail_drop rfl ?_ | refine A9 rfl ?_ | refine F8 _ rfl ?_)) (E4 (L:=[(830,_),(831,_),(832,_),(834,_)]) ⟨rfl,rfl,rfl,rfl,trivial⟩ (by repeat (first | exact D5 | refine D8 rfl ?_ | refine M5 _ rfl ?_)))) ?_
 refine Q0 [13,10] [[],[10],[13,10]] [(10,([831],[40])),(13,([],[]))] [(0,[]),(1,[]),(2,[]),(3,[]),(4,[]),(5,[]),(6,[]),(7,[]),(8,[]),(9,[]),(10,[]),(11,[10]),(12,[10]),(13,[10])] [(0,[10])] (by kernel_rfl) (by kernel_rfl) (E6 A0 A0 (by kernel_rfl) A0 A0 (C2 A0 A0) (E6 A0 A0 (by kernel_rfl) A0 A0 (C2 A0 A0) (E6 A0 A0 (by kernel_rfl) A0 A0 (B2 A0) (E6 A0 A0 (by kernel_rfl) A0 A0 (B0 A0) (E6 A0 A0 (by kernel_rfl) A0 A0 (C5 A0 A0 A0) (E6 A0 A0 (by kernel_rfl) A0 A0 (C2 A0 A0) (E6 A0 A0 (by kernel_rfl) A0 A0 (C3 A0) (E6 A0 A0 (by kernel_rfl) A0 A0 (B3 A0 A0) (E6 A0 A0 (by kernel_rfl) A0 A0 (K0 A0) (E6 A0 A0 (by kernel_rfl) A0 A0 (D7 (c:=j8) (ys:=[⟨i,fr⟩]) (G6 A0 A0 A0 A0 I0) A0 A0 A0) (Z5 A0 A0 (by kernel_rfl) A0 A0 (D84 (fun frc hU=>U3 (T9 hU A0) A0 (T9 hU A0) (.pure _ _ _ _) (by (simp only [L04,L09];omega)) A0)) A0 (E6 A0 A0 (by kernel_rfl) A0 A0 (B2 A0) (E6 A0 A0 (by kernel_rfl) A0 A0 (B0 A0) (Z5 A0 A0 (by kernel_rfl) A0 A0 (A84 (fun frc hU=>B9 TySz.out (T9 hU A0) A0 (T9 hU A0) A0 A0 A0)) A0 ?_))))))))))))));refine D85 (ks:=[831,834]) rfl (by kernel_rfl) rfl ?_ ?_
 ·refine O3 A0 A0 (by kernel_rfl) A0 A0 (C2 A0 A0) ?_;exact C03
 refine k1 ?_;refine D3 (K76 (gf':=C0 [831,834] gf) (l:=[(0,.s A26),(3,.s (.one (.eref Unit 2 (fun _ j=>[Cell.v (.int .i64 q),Cell.v (.int .i64 fr)].getD j (.v undef)) () 0))),(4,.s (.one (.mut 834))),(5,C7 i)]) (ob':=[(830,A56 A s a),(831,thO (m.1++[⟨i,fr⟩])),(832,snO (m.2.set i.toNat true)),(834,.grow 3 Int 1 F2 r)]++G8 [831,834] ob) ⟨le1 rfl,le1 rfl,le1 rfl,le1 rfl,trivial⟩ (C6 hH) (by repeat (first | exact A8 | refine tail_drop rfl ?_ | refine A9 rfl ?_ | refine F8 _ rfl ?_)) (E4 (L:=[(830,_),(831,_),(832,_),(834,_)]) ⟨rfl,rfl,rfl,rfl,trivial⟩ (by repeat (first | exact D5 | refine D8 rfl ?_ | refine M5 _ rfl ?_)))) ?_
 refine E7 (by kernel_rfl) (by kernel_rfl) (E9 A0 A0 (E9 A0 A0 (B7 (B2 A0) A0 A0 (B7 (B0 A0) A0 A0 (B7 (B0 A0) A0 A0 (B7 (C5 A0 A0 A0) A0 A0 (E9 A0 A0 (B7 (B6 A0 (.pure _ _ _ _) A0 (by omega) hvs) A0 A0 (B7 (E1 A0 A0) A0 A0 (E9 A0 A0 (B7 (B2 A0) A0 A0 (B7 (B0 A0) A0 A0 (B7 (C5 A0 A0 A0) A0 A0 (B7 (H0 A0 A0) A0 A0 (E9 A0 A0 (B7 (B2 A0) A0 A0 (B7 (B0 A0) A0 A0 (B7 (C5 A0 A0 A0) A0 A0 (E9 A0 A0 (B7 (B2 A0) A0 A0 (B7 (B0 A0) A0 A0 (B7 (C5 A0 A0 A0) A0 A0 (B7 (J7 A0) A0 A0 ?_)))))))))))))))))))))));refine B7 (H0 A0 A0) A0 A0 (B7 (O7 (K44 (q9 A i) (decide ((a:Int)=0)) (decide ((a:Int)=(s.length:Int)))) A0 A0) A0 A0 (d_effv (U3 A0 A0 A0 (.pure _ _ _ _) (by omega) A0) A0 A0 (B7 (H5 A0 A0) A0 A0 (Q6 ?_))));refine k4 (k1 ?_);refine ⟨(f',opn',m'),⟨hf',hR',(by dsimp only;omega),hm',hop'⟩,hmu',?_⟩
 rw [e1,e2]
 exact K76 ⟨le1 rfl,le1 rfl,le1 rfl,trivial⟩ (C6 hH) (by repeat (first | exact A8 | refine tail_drop rfl ?_ | refine A9 rfl ?_ | refine F8 _ rfl ?_)) (E4 (L:=[(830,_),(831,_),(832,_),(834,_)]) ⟨rfl,rfl,rfl,rfl,trivial⟩ (by repeat (first | exact D5 | refine D8 rfl ?_ | refine M5 _ rfl ?_)))
set_option maxHeartbeats 1000000
theorem I92 {α:Type} {l:List α} {i:Nat} {x:α} (h:l[i]?=some x):l.take (i+1)=l.take i++[x]:=by rw [List.take_add_one,h];rfl
theorem F32 {gf:Fr} {ob:Obs} (A:AL.Auto) (s:Str) (a:Nat) (th:List AL.Thread) (sn:List Bool) (hst:∀t∈th,0≤t.state∧t.state < A.States.length) (hl:th.length≤8000) (h0:C1 ob 830=some (A56 A s a)) (h1:C1 ob 831=some (thO th)) (h2:C1 ob 832=some (snO sn)) (h3:C1 ob 835=none) :
  AL.Met Tryz.prog 98 [A26] gf ob [835] (fun rs ob'=>rs=[R5 (p9 A th)]∧ob'=(830,A56 A s a)::(831,thO th)::(832,snO sn)::G8 [835] ob):=by
 refine AL.Met.introH Tryz.func98 (by decide) rfl rfl rfl (fun hH=>?_)
 refine D3 (K77 835 (l:=[(0,.s A26)]) (L:=[(830,_),(831,_),(832,_)]) ⟨le1 rfl,trivial⟩ hH (by repeat (first | exact A8 | refine A9 rfl ?_)) ⟨h0,h1,h2,trivial⟩) ?_
 refine D3 (K76 (gf':=C0 [835] gf) (l:=[(0,.s A26)]) (ob':=[(830,A56 A s a),(831,thO th),(832,snO sn)]++G8 [835] ob) ⟨le1 rfl,trivial⟩ (C6 hH) (by repeat (first | exact A8 | refine tail_drop rfl ?_ | refine A9 rfl ?_ | refine F8 _ rfl ?_)) (E4 (L:=[(830,_),(831,_),(832,_)]) ⟨rfl,rfl,rfl,trivial⟩ (by repeat (first | exact D5 | refine D8 rfl ?_)))) ?_
 have hf3:C1 (G8 [835] ob) 835=none:=W8 h3
 refine k2 (A3 (A7 A0 A0 (A5 ?_)));refine k1 (k2 (k2 (A3 (A4 A0 A0 (A6 (B2 A0) A0 (A6 (B0 A0) A0 (G3 A0 A0 A0 A0 (A6 (X3 A0 A0) A0 (A4 A0 A0 (A5 ?_))))))))));refine k1 (k3 ?_);refine D2 (X:=Nat) (fun i=>([(0,.s A26),(8,.s (.one (.mut 831))),(9,C7 th.length),(10,C7 i)]++C0 [835] gf,[(830,A56 A s a),(831,thO th),(832,snO sn)]++G8 [835] ob)) (fun i=>i≤th.length∧p9 A (th.drop i)=p9 A th) (fun i=>th.length - i) 0 ⟨Nat.zero_le _,rfl⟩ ?_ ?_
 ·exact K76 ⟨le1 rfl,le1 rfl,le1 rfl,le1 rfl,trivial⟩ (C6 hH) (by repeat (first | exact A8 | refine tail_drop rfl ?_ | refine A9 rfl ?_ | refine F8 _ rfl ?_)) (E4 (L:=[(830,_),(831,_),(832,_)]) ⟨rfl,rfl,rfl,trivial⟩ (by repeat (first | exact D5 | refine D8 rfl ?_ | refine D9 hf3 ?_ | refine M5 _ rfl ?_)))
 rintro i ⟨hi,hA⟩
 dsimp only at hi hA ⊢
 refine k2 (A3 (F7 A0 A0 A0 (A5 ?_)));refine k1 (k2 ?_);refine B1 rfl (fun ht=>?_) (fun ht=>?_)
 rotate_left
 ·have hie:i=th.length:=by have:=A2 ht;omega
  rw [hie,List.drop_length] at hA
  rw [←hA]
  refine k6 (k2 (A3 (A7 A0 A0 (A5 ?_))));refine k1 (k10 ?_)
  exact G7 (I8 rfl rfl) (by repeat (first | exact A8 | refine tail_drop rfl ?_ | refine A9 rfl ?_ | refine F8 _ rfl ?_)) (E4 (L:=[(830,_),(831,_),(832,_)]) ⟨rfl,rfl,rfl,trivial⟩ (by repeat (first | exact D5 | refine D8 rfl ?_ | refine D9 hf3 ?_ | refine M5 _ rfl ?_))) ⟨rfl,rfl⟩
 have hlt:i < th.length:=by have:=A1 ht;omega
 obtain ⟨t,htd⟩:∃t,t=th[i]:=⟨_,rfl⟩
 have hv:th[i]?=some t:=by rw [htd];simp [hlt]
 obtain ⟨hs1,hs2⟩:=hst t (L14 hv)
 have hvs:=D71 (A:=A) ⟨hs1,hs2⟩
 rw [L11 hlt,←htd,p9] at hA
 refine k5 (k1 (k2 (k3 (k2 (A3 (A6 (H6 A0 A0 A0 (by omega) (by omega)) A0 (A6 (A43 A0 A0 hv A0) A0 (D1 (A78 835 hf3 (by decide)) A0 (G1 (B9 TySz.out A0 A0 A0 A0 A0 A0) (A5 ?_))))))))));refine k1 (k2 (E7 (by kernel_rfl) (by kernel_rfl) (E9 A0 A0 (B7 (B2 A0) A0 A0 (B7 (B0 A0) A0 A0 (B7 (B0 A0) A0 A0 (B7 (C5 A0 A0 A0) A0 A0 (B7 (B0 A0) A0 A0 (B7 (C5 A0 A0 A0) A0 A0 (B7 (B6 A0 (.pure _ _ _ _) A0 (by omega) hvs) A0 A0 (B7 (C3 A0) A0 A0 (B7 (B3 A0 A0) A0 A0 (B7 (H0 A0 A0) A0 A0 (Q6 ?_))))))))))))));refine k1 ?_;refine B1 rfl (fun ht=>?_) (fun ht=>?_)
 ·have hK:(q9 A t.state).Kind=4:=A1 ht
  rw [if_pos hK] at hA
  rw [←hA]
  refine k2 (A3 (A6 (B0 A0) A0 (G3 A0 A0 A0 A0 (A7 A0 A0 (A5 ?_)))));refine k1 (k10 (k12 (k11 (k11 (k12 (k11 ?_))))))
  exact G7 (I8 rfl rfl) (by repeat (first | exact A8 | refine tail_drop rfl ?_ | refine A9 rfl ?_ | refine F8 _ rfl ?_)) (E4 (L:=[(830,_),(831,_),(832,_)]) ⟨rfl,rfl,rfl,trivial⟩ (by repeat (first | exact D5 | refine D8 rfl ?_ | refine D9 hf3 ?_ | refine M5 _ rfl ?_))) ⟨rfl,rfl⟩
 have hK:¬(q9 A t.state).Kind=4:=A2 ht
 rw [if_neg hK] at hA
 refine k5 (k4 (k1 (A3 (E3 A0 A0 A0 (A4 A0 A0 (A5 ?_))))));refine k1 ?_
 exact ⟨i+1,⟨by omega,hA⟩,by omega,K76 ⟨le1 rfl,le1 rfl,le1 rfl,le1 rfl,trivial⟩ (C6 hH) (by repeat (first | exact A8 | refine tail_drop rfl ?_ | refine A9 rfl ?_ | refine F8 _ rfl ?_)) (E4 (L:=[(830,_),(831,_),(832,_)]) ⟨rfl,rfl,rfl,trivial⟩ (by repeat (first | exact D5 | refine D8 rfl ?_ | refine D9 hf3 ?_ | refine M5 _ rfl ?_)))⟩
theorem I93 {gf:Fr} {ob:Obs} (A:AL.Auto) (s:Str) (a:Nat) (fr:Int) (th:List AL.Thread) (sn:List Bool) (hl:th.length≤8000) (h0:C1 ob 830=some (A56 A s a)) (h1:C1 ob 831=some (thO th)) (h2:C1 ob 832=some (snO sn)) (h3:C1 ob 835=none) :
  AL.Met Tryz.prog 99 [A26,R5 fr] gf ob [831,835] (fun rs ob'=>rs=[]∧ob'=(830,A56 A s a)::(831,thO (A72 fr th))::(832,snO sn)::G8 [831,835] ob):=by
 refine AL.Met.introH Tryz.func99 (by decide) rfl rfl rfl (fun hH=>?_)
 refine D3 (K77 831 (l:=[(0,.s A26),(1,.s (R5 fr))]) (L:=[(830,_),(831,_),(832,_)]) ⟨le1 rfl,le1 rfl,trivial⟩ hH (by repeat (first | exact A8 | refine A9 rfl ?_)) ⟨h0,h1,h2,trivial⟩) ?_
 refine D3 (Sees.forget 835) ?_
 refine D3 (K76 (gf':=C0 [831,835] gf) (l:=[(0,.s A26),(1,.s (R5 fr))]) (ob':=[(830,A56 A s a),(831,thO th),(832,snO sn)]++G8 [831,835] ob) ⟨le1 rfl,le1 rfl,trivial⟩ (C6 hH) (by repeat (first | exact A8 | refine tail_drop rfl ?_ | refine A9 rfl ?_ | refine F8 _ rfl ?_)) (E4 (L:=[(830,_),(831,_),(832,_)]) ⟨rfl,rfl,rfl,trivial⟩ (by repeat (first | exact D5 | refine D8 rfl ?_)))) ?_
 have hf3:C1 (G8 [831,835] ob) 835=none:=W8 h3
 refine k2 (A3 (A4 A0 A0 (A6 (B2 A0) A0 (A6 (B0 A0) A0 (G3 A0 A0 A0 A0 (A6 (X3 A0 A0) A0 (A4 A0 A0 (A5 ?_))))))));refine k1 (k3 ?_);refine D2 (X:=Nat) (fun i=>([(0,.s A26),(1,.s (R5 fr)),(9,.s (.one (.mut 831))),(10,C7 th.length),(11,C7 i)]++C0 [831,835] gf,[(830,A56 A s a),(831,thO th),(832,snO sn)]++G8 [831,835] ob)) (fun i=>i≤th.length∧∀t∈th.take i,t.from_≤fr) (fun i=>th.length - i) 0 ⟨Nat.zero_le _,fun _ h=>by cases h⟩ ?_ ?_
 ·exact K76 ⟨le1 rfl,le1 rfl,le1 rfl,le1 rfl,le1 rfl,trivial⟩ (C6 hH) (by repeat (first | exact A8 | refine tail_drop rfl ?_ | refine A9 rfl ?_ | refine F8 _ rfl ?_)) (E4 (L:=[(830,_),(831,_),(832,_)]) ⟨rfl,rfl,rfl,trivial⟩ (by repeat (first | exact D5 | refine D8 rfl ?_ | refine D9 hf3 ?_ | refine M5 _ rfl ?_)))
 rintro i ⟨hi,hlo⟩
 dsimp only at hi hlo ⊢
 refine k2 (A3 (F7 A0 A0 A0 (A5 ?_)));refine k1 (k2 ?_);refine B1 rfl (fun ht=>?_) (fun ht=>?_)
 rotate_left
 ·have hie:i=th.length:=by have:=A2 ht;omega
  have hk:A72 fr th=th:=by
   rw [D20 (i:=i) hlo (fun t h=>by rw [hie,L18 (Nat.le_refl _)] at h;cases h),hie,L08]
  rw [hk]
  refine k6 (k7 (k7 (k8 A0 ?_)))
  exact S8 (A81 rfl) (by repeat (first | exact A8 | refine tail_drop rfl ?_ | refine A9 rfl ?_ | refine F8 _ rfl ?_)) (E4 (L:=[(830,_),(831,_),(832,_)]) ⟨rfl,rfl,rfl,trivial⟩ (by repeat (first | exact D5 | refine D8 rfl ?_ | refine D9 hf3 ?_ | refine M5 _ rfl ?_))) ⟨rfl,rfl⟩
 have hlt:i < th.length:=by have:=A1 ht;omega
 obtain ⟨t,htd⟩:∃t,t=th[i]:=⟨_,rfl⟩
 have hv:th[i]?=some t:=by rw [htd];simp [hlt]
 refine k5 (k1 (k2 (k3 (k2 (A3 (A4 A0 A0 (A6 (H6 A0 A0 A0 (by omega) (by omega)) A0 (A6 (A43 A0 A0 hv A0) A0 (D1 (A78 835 hf3 (by decide)) A0 (A7 A0 A0 (G1 (B9 TySz.out A0 A0 A0 A0 A0 A0) (A5 ?_))))))))))));refine k1 (k2 (A3 (A6 (B0 A0) A0 (G3 A0 A0 A0 A0 (A4 A0 A0 (A6 (O1 A0 A0) A0 (A5 ?_)))))));refine k1 ?_;refine B1 rfl (fun ht=>?_) (fun ht=>?_)
 ·have hgt:t.from_ > fr:=A1 ht
  have hk:A72 fr th=th.take i:=D20 hlo (fun x hx=>by rw [hv] at hx;cases hx;exact hgt)
  rw [hk]
  refine k2 (A3 (A4 A0 A0 (A4 A0 A0 (A6 (B2 A0) A0 (A6 (B0 A0) A0 (G3 A0 A0 A0 A0 (A4 A0 A0 (D1 (A88 A0 A0 A0 (by omega) (by omega) A0) A0 (A6 (B2 A0) A0 (A6 (B0 A0) A0 (G1 (B9 TySz.out A0 A0 A0 A0 A0 A0) (A5 ?_))))))))))))
  rw [L03]
  refine k1 (k10 (k12 (k11 (k11 (k12 ?_)))))
  exact G7 (A81 rfl) (by repeat (first | exact A8 | refine tail_drop rfl ?_ | refine A9 rfl ?_ | refine F8 _ rfl ?_)) (E4 (L:=[(830,_),(831,_),(832,_)]) ⟨rfl,rfl,rfl,trivial⟩ (by repeat (first | exact D5 | refine D8 rfl ?_ | refine D9 hf3 ?_ | refine M5 _ rfl ?_))) ⟨rfl,rfl⟩
 have hle:¬t.from_ > fr:=A2 ht
 refine k5 (k4 (k1 (A3 (E3 A0 A0 A0 (A4 A0 A0 (A5 ?_))))));refine k1 ?_
 exact ⟨i+1,⟨by omega,fun x hx=>by
  rw [I92 hv] at hx
  rcases List.mem_append.1 hx with hx | hx
  ·exact hlo x hx
  ·rw [List.mem_singleton.1 hx];omega⟩,by omega,K76 ⟨le1 rfl,le1 rfl,le1 rfl,le1 rfl,le1 rfl,trivial⟩ (C6 hH) (by repeat (first | exact A8 | refine tail_drop rfl ?_ | refine A9 rfl ?_ | refine F8 _ rfl ?_)) (E4 (L:=[(830,_),(831,_),(832,_)]) ⟨rfl,rfl,rfl,trivial⟩ (by repeat (first | exact D5 | refine D8 rfl ?_ | refine D9 hf3 ?_ | refine M5 _ rfl ?_)))⟩
set_option maxHeartbeats 1000000
theorem F33 {gf:Fr} {ob:Obs} (A:AL.Auto) (s:Str) (hA:AG A) (a:Nat) (ha:a < s.length) (hsl:s.length≤16777216) (m0:Mach) (hm0:MG A m0) (h0:C1 ob 830=some (A56 A s a)) (h1:C1 ob 831=some (thO m0.1)) (h2:C1 ob 832=some (snO m0.2)) :
  AL.Met Tryz.prog 100 [A26] gf ob [831,832,834,837,838] (fun rs ob'=>rs=[]∧ob'=(830,A56 A s (a+1))::(831,thO (D70 A s a m0).1)::(832,snO (D70 A s a m0).2)::oZ [831,832,834,837,838] ob):=by
 obtain ⟨hn1,hn2⟩:=hA.len
 have hcn:=hm0.cnt
 obtain ⟨th,hth⟩:∃th,th=m0.1:=⟨_,rfl⟩
 obtain ⟨sn,hsn⟩:∃sn,sn=m0.2:=⟨_,rfl⟩
 have hst:=hm0.st
 obtain ⟨ch,hch⟩:∃ch,ch=s[a]:=⟨_,rfl⟩
 have hv:s[((a:Nat):Int).toNat]?=some ch:=by rw [L03,hch];simp [ha]
 have hrd:D70 A s a m0=C30 A s (a+1) ch.toNat m0.1 ([],List.replicate A.States.length false):=by
  unfold D70;rw [L07,←L03 a,hv,L03];rfl
 rw [hrd]
 rw [←hth] at h1 hst hcn ⊢
 rw [←hsn] at h2
 have hl:th.length≤8000:=by omega
 refine AL.Met.introH Tryz.func100 (by decide) rfl rfl rfl (fun hH=>?_)
 refine D3 (K77 831 (l:=[(0,.s A26)]) (L:=[(830,_),(831,_),(832,_)]) ⟨le1 rfl,trivial⟩ hH (by repeat (first | exact A8 | refine A9 rfl ?_)) ⟨h0,h1,h2,trivial⟩) ?_
 refine D3 (K77 832 (l:=[(0,.s A26)]) (L:=[(830,_),(831,_),(832,_)]) ⟨le1 rfl,trivial⟩ (A82 hH) (by repeat (first | exact A8 | refine A9 rfl ?_)) ⟨rfl,rfl,rfl,trivial⟩) ?_
 refine D3 (Sees.forget 834) ?_
 refine D3 (Sees.forget 837) ?_
 refine D3 (Sees.forget 838) ?_
 refine D3 (K76 (gf':=C0 [831,832,834,837,838] gf) (l:=[(0,.s A26)]) (ob':=[(830,A56 A s a),(831,thO th),(832,snO sn)]++oZ [831,832,834,837,838] ob) ⟨le1 rfl,trivial⟩ (C6 hH) (by repeat (first | exact A8 | refine tail_drop rfl ?_ | refine A9 rfl ?_ | refine F8 _ rfl ?_ | refine d7 rfl ?_)) (E4 (L:=[(830,_),(831,_),(832,_)]) ⟨rfl,rfl,rfl,trivial⟩ (by repeat (first | exact oZ_base | refine D8 rfl ?_)))) ?_
 have z1:L0 831 (oZ [831,832,834,837,838] ob)=true:=D38 rfl rfl
 have z2:L0 832 (oZ [831,832,834,837,838] ob)=true:=D38 rfl rfl
 have z3:L0 834 (oZ [831,832,834,837,838] ob)=true:=D38 rfl rfl
 have z4:L0 837 (oZ [831,832,834,837,838] ob)=true:=D38 rfl rfl
 have z5:L0 838 (oZ [831,832,834,837,838] ob)=true:=D38 rfl rfl
 have f1:K4 831 (C0 [831,832,834,837,838] gf)=true:=D00 (m6 rfl)
 have f2:K4 832 (C0 [831,832,834,837,838] gf)=true:=D00 (m6 rfl)
 obtain ⟨R,hR⟩:∃R,C30 A s (a+1) ch.toNat th ([],List.replicate A.States.length false)=R:=⟨_,rfl⟩
 rw [hR]
 obtain ⟨Z,hZ⟩:∃Z,Z=oZ [831,832,834,837,838] ob:=⟨_,rfl⟩
 rw [←hZ] at z1 z2 z3 z4 z5 ⊢
 refine k2 (E7 (by kernel_rfl) (by kernel_rfl) (E9 A0 A0 (B7 (B2 A0) A0 A0 (B7 (B0 A0) A0 A0 (B7 (C5 A0 A0 A0) A0 A0 (E9 A0 A0 (B7 (B2 A0) A0 A0 (B7 (B0 A0) A0 A0 (B7 (C5 A0 A0 A0) A0 A0 (B7 (R7 A0 A0 (by omega) hv) A0 A0 (B7 (H5 A0 A0) A0 A0 (Q6 ?_))))))))))));refine k1 (k2 (A3 (A4 A0 A0 (A6 (B2 A0) A0 (A6 (B0 A0) A0 (G3 A0 A0 A0 A0 (E3 A0 A0 A0 (A6 (B2 A0) A0 (A6 (B0 A0) A0 (G1 (B9 TySz.out A0 A0 A0 A0 A0 A0) (A5 ?_)))))))))));refine k1 (k2 (A3 (A4 A0 A0 (A6 (B2 A0) A0 (A6 (B0 A0) A0 (G3 A0 A0 A0 A0 (A7 A0 A0 (A5 ?_))))))));refine k1 (k2 (D3 (Sees.freezeG (k:=831) (α:=AL.Thread) (ec:=2) (c:=j8) (xs:=th) (e:=178) A0 A0) ?_))
 refine D3 (K76 (gf':=C0 [831,832,834,837,838] gf) (l:=[(0,.s A26),(2,.s (A34 ch)),(3,D6 AL.Thread 2 j8 th)]) (ob':=[(830,macG A s (a+1) (.p (.list AL.Thread 2 j8 th)) (.mut 832)),(832,snO sn)]++Z) ⟨le1 rfl,le1 rfl,le1 rfl,trivial⟩ (C6 hH) (by repeat (first | exact A8 | refine tail_drop rfl ?_ | refine A9 rfl ?_ | refine F8 _ rfl ?_ | refine d7 rfl ?_)) (E4 (L:=[(830,_),(832,_)]) ⟨rfl,rfl,trivial⟩ (by repeat (first | exact D5 | refine D8 rfl ?_ | refine D9 (H9 z2).2.1 ?_ | refine D9 (H9 z4).2.1 ?_ | refine D9 (H9 z5).2.1 ?_ | refine C75 (by first | exact z1 | exact z2 | exact z3 | exact z4 | exact z5) ?_ | refine A06 (by first | exact z1 | exact z2 | exact z3 | exact z4 | exact z5) ?_)))) ?_
 refine D3 (Sees.forget 832) ?_
 refine D3 (K76 (gf':=C0 [831,832,834,837,838] gf) (l:=[(0,.s A26),(2,.s (A34 ch)),(3,D6 AL.Thread 2 j8 th)]) (ob':=[(830,macG A s (a+1) (.p (.list AL.Thread 2 j8 th)) .any)]++Z) ⟨le1 rfl,le1 rfl,le1 rfl,trivial⟩ (C6 hH) (by repeat (first | exact A8 | refine tail_drop rfl ?_ | refine A9 rfl ?_ | refine F8 _ rfl ?_ | refine d7 rfl ?_)) (E4 (L:=[(830,_)]) ⟨rfl,trivial⟩ (by repeat (first | exact D5 | refine D8 rfl ?_ | refine D9 (H9 z2).2.1 ?_ | refine D9 (H9 z4).2.1 ?_ | refine D9 (H9 z5).2.1 ?_ | refine C75 (by first | exact z1 | exact z2 | exact z3 | exact z4 | exact z5) ?_ | refine A06 (by first | exact z1 | exact z2 | exact z3 | exact z4 | exact z5) ?_)))) ?_
 refine Q0 [14,11,8] [[],[8],[11],[11,8],[14,11,8]] [(8,([832],[])),(11,([],[])),(14,([],[]))] [(0,[]),(1,[]),(2,[]),(3,[]),(4,[]),(5,[]),(6,[]),(7,[]),(8,[]),(9,[]),(10,[]),(11,[]),(11,[8]),(12,[11,8]),(13,[11,8]),(14,[11,8])] [(0,[8]),(1,[8]),(1,[11]),(1,[11,8]),(7,[11]),(8,[11]),(9,[8]),(10,[8])] (by kernel_rfl) (by kernel_rfl) (E6 A0 A0 (by kernel_rfl) A0 A0 (C2 A0 A0) (E6 A0 A0 (by kernel_rfl) A0 A0 (C2 A0 A0) (E6 A0 A0 (by kernel_rfl) A0 A0 (C2 A0 A0) (E6 A0 A0 (by kernel_rfl) A0 A0 (B2 A0) (E6 A0 A0 (by kernel_rfl) A0 A0 (B0 A0) (E6 A0 A0 (by kernel_rfl) A0 A0 (B0 A0) (E6 A0 A0 (by kernel_rfl) A0 A0 (C5 A0 A0 A0) (E6 A0 A0 (by kernel_rfl) A0 A0 (r5 A0 (.pure _ _ _ _)) ?_))))))));refine Z5 rfl rfl (by kernel_rfl) rfl rfl (E65 (fun frc hU hk=>A00 832 Bool C89 false (T9 hU rfl) (T9 hU rfl) (by (first | omega | decide)) (by (first | omega | decide)) (fun _=>by first | exact ⟨⟨rfl,rfl⟩,trivial⟩ | exact ⟨I4 _ _ _,trivial⟩ | exact ⟨I4 _ _ _,⟨rfl,rfl⟩,I4 _ _ _,trivial⟩) (by rw [hk];(repeat (first | exact z2 | refine I72 ?_ | refine P2 rfl rfl ?_))))) rfl ?_;refine E6 A0 A0 (by kernel_rfl) A0 A0 (B2 A0) (E6 A0 A0 (by kernel_rfl) A0 A0 (B0 A0) (Z5 A0 A0 (by kernel_rfl) A0 A0 (A84 (fun frc hU=>B9 TySz.out (T9 hU A0) A0 (T9 hU A0) A0 A0 A0)) A0 (w_again A0 A0 (by kernel_rfl) A0 A0 (A84 (fun frc hU=>B9 TySz.out (T9 hU A0) A0 (T9 hU A0) A0 A0 A0)) A0 (E6 A0 A0 (by kernel_rfl) A0 A0 (B2 A0) (E6 A0 A0 (by kernel_rfl) A0 A0 (B0 A0) (Z5 A0 A0 (by kernel_rfl) A0 A0 (A84 (fun frc hU=>B9 TySz.out (T9 hU A0) A0 (T9 hU A0) A0 A0 A0)) A0 ?_))))));refine D85 (ks:=[831,832,834,837,838]) rfl (by kernel_rfl) rfl ?_ ?_
 ·refine O3 A0 A0 (by kernel_rfl) A0 A0 (C2 A0 A0) (O3 A0 A0 (by kernel_rfl) A0 A0 (C2 A0 A0) (O3 A0 A0 (by kernel_rfl) A0 A0 (C2 A0 A0) (O3 A0 A0 (by kernel_rfl) A0 A0 (C2 A0 A0) (O3 A0 A0 (by kernel_rfl) A0 A0 (r5 A0 (.pure _ _ _ _)) ?_))));refine x_eff rfl rfl (by kernel_rfl) rfl rfl (E65 (fun frc hU hk=>A00 832 Bool C89 false (T9 hU rfl) (T9 hU rfl) (by (first | omega | decide)) (by (first | omega | decide)) (fun _=>by first | exact ⟨⟨rfl,rfl⟩,trivial⟩ | exact ⟨I4 _ _ _,trivial⟩ | exact ⟨I4 _ _ _,⟨rfl,rfl⟩,I4 _ _ _,trivial⟩) (by rw [hk];(repeat (first | exact z2 | refine I72 ?_ | refine P2 rfl rfl ?_))))) rfl (K31 (by repeat (first | exact trivial | refine ⟨.inr rfl,?_⟩ | refine ⟨.inl rfl,?_⟩ | exact F19 (by repeat (first | exact D5 | refine D8 rfl ?_))))) ?_;refine O3 A0 A0 (by kernel_rfl) A0 A0 (B2 A0) (O3 A0 A0 (by kernel_rfl) A0 A0 (B0 A0) ?_);exact C03
 refine k1 (k2 ?_);refine D3 (K76 (gf':=C0 [831,832,834,837,838] gf) (l:=[(0,.s A26),(2,.s (A34 ch)),(3,D6 AL.Thread 2 j8 th)]) (ob':=[(830,macG A s (a+1) (.p (.v (.slice none 0 0))) (.mut 832)),(832,snO (List.replicate A.States.length false))]++Z) ⟨le1 rfl,le1 rfl,le1 rfl,trivial⟩ (C6 hH) (by repeat (first | exact A8 | refine tail_drop rfl ?_ | refine A9 rfl ?_ | refine F8 _ rfl ?_ | refine d7 rfl ?_)) (E4 (L:=[(830,_),(832,_)]) ⟨rfl,rfl,trivial⟩ (by repeat (first | exact D5 | refine D8 rfl ?_ | refine D9 (H9 z2).2.1 ?_ | refine D9 (H9 z4).2.1 ?_ | refine D9 (H9 z5).2.1 ?_ | refine C75 (by first | exact z1 | exact z2 | exact z3 | exact z4 | exact z5) ?_ | refine A06 (by first | exact z1 | exact z2 | exact z3 | exact z4 | exact z5) ?_)))) ?_
 refine D3 (K81 831 AL.Thread 2 j8 178 (kb:=830) (o:=4) A0 A0 (and_tt (C14 A0 (C14 A0 (C14 A0 f1))) (P2 A0 A0 (P2 A0 A0 z1)))) ?_
 refine A3 (A4 A0 A0 (F4 A0 A0 (A4 A0 A0 (A5 ?_))));refine k1 (k3 ?_);refine D2 (X:=Nat × Mach) (fun x=>([(0,.s A26),(2,.s (A34 ch)),(40,D6 AL.Thread 2 j8 th),(41,C7 th.length),(42,C7 x.1)]++C0 [831,832,834,837,838] gf,[(830,A56 A s (a+1)),(831,thO x.2.1),(832,snO x.2.2)]++Z)) (fun x=>x.1≤th.length∧C30 A s (a+1) ch.toNat (th.drop x.1) x.2=R∧MG A x.2) (fun x=>th.length - x.1) (0,([],List.replicate A.States.length false)) ⟨Nat.zero_le _,hR,MG.first A⟩ ?_ ?_
 ·exact K76 ⟨le1 rfl,le1 rfl,le1 rfl,le1 rfl,le1 rfl,trivial⟩ (C6 hH) (by repeat (first | exact A8 | refine tail_drop rfl ?_ | refine A9 rfl ?_ | refine F8 _ rfl ?_ | refine d7 rfl ?_)) (E4 (L:=[(830,_),(831,_),(832,_)]) ⟨rfl,rfl,rfl,trivial⟩ (by repeat (first | exact D5 | refine D8 rfl ?_ | refine D9 (H9 z2).2.1 ?_ | refine D9 (H9 z4).2.1 ?_ | refine D9 (H9 z5).2.1 ?_ | refine C75 (by first | exact z1 | exact z2 | exact z3 | exact z4 | exact z5) ?_ | refine A06 (by first | exact z1 | exact z2 | exact z3 | exact z4 | exact z5) ?_)))
 rintro ⟨i,m⟩ ⟨hi,hRi,hmg⟩
 dsimp only at hi hRi hmg ⊢
 refine k2 (A3 (F7 A0 A0 A0 (A5 ?_)));refine k1 (k2 ?_);refine B1 rfl (fun ht=>?_) (fun ht=>?_)
 rotate_left
 ·have hie:i=th.length:=by have:=A2 ht;omega
  rw [hie,List.drop_length] at hRi
  have hRm:m=R:=hRi
  rw [hRm]
  refine k6 (k7 (k7 (k8 A0 ?_)))
  exact S8 (A81 rfl) (by repeat (first | exact A8 | refine tail_drop rfl ?_ | refine A9 rfl ?_ | refine F8 _ rfl ?_ | refine d7 rfl ?_)) (E4 (L:=[(830,_),(831,_),(832,_)]) ⟨rfl,rfl,rfl,trivial⟩ (by repeat (first | exact D5 | refine D8 rfl ?_ | refine D9 (H9 z2).2.1 ?_ | refine D9 (H9 z4).2.1 ?_ | refine D9 (H9 z5).2.1 ?_ | refine C75 (by first | exact z1 | exact z2 | exact z3 | exact z4 | exact z5) ?_ | refine A06 (by first | exact z1 | exact z2 | exact z3 | exact z4 | exact z5) ?_))) ⟨rfl,rfl⟩
 have hlt:i < th.length:=by have:=A1 ht;omega
 obtain ⟨t,htd⟩:∃t,t=th[i]:=⟨_,rfl⟩
 have hvt:th[i]?=some t:=by rw [htd];simp [hlt]
 rw [L11 hlt,←htd,C30] at hRi
 obtain ⟨hs1,hs2⟩:=hst t (L14 hvt)
 obtain ⟨q,hqd⟩:∃q,q=q9 A t.state:=⟨_,rfl⟩
 have hvs:A.States[t.state.toNat]?=some q:=by rw [hqd];exact D71 ⟨hs1,hs2⟩
 have hqg:=B77 (E07 hA ⟨hs1,hs2⟩)
 rw [←hqd] at hRi hqg
 refine k5 (k1 (k2 (k3 (k2 (A3 (A6 (B6 A0 (.pure _ _ _ _) A0 (by omega) hvt) A0 (A6 (E1 A0 A0) A0 (D1 (A78 837 (H9 (P2 A0 A0 (P2 A0 A0 (P2 A0 A0 z4)))).2.1 (by decide)) A0 (G1 (B9 TySz.out A0 A0 A0 A0 A0 A0) (A5 ?_))))))))));refine k1 (k2 ?_);refine D3 (K76 (gf':=C0 [831,832,834,837,838] gf) (l:=[(0,.s A26),(2,.s (A34 ch)),(40,D6 AL.Thread 2 j8 th),(41,C7 th.length),(42,C7 i),(5,.s (.one (.ref 837 0)))]) (ob':=[(830,A56 A s (a+1)),(831,thO m.1),(832,snO m.2),(837,.box [.p (.v (.int .i64 t.state)),.p (.v (.int .i64 t.from_))])]++Z) ⟨le1 rfl,le1 rfl,le1 rfl,le1 rfl,le1 rfl,le1 rfl,trivial⟩ (C6 hH) (by repeat (first | exact A8 | refine tail_drop rfl ?_ | refine A9 rfl ?_ | refine F8 _ rfl ?_ | refine d7 rfl ?_)) (E4 (L:=[(830,_),(831,_),(832,_),(837,_)]) ⟨rfl,rfl,rfl,rfl,trivial⟩ (by repeat (first | exact D5 | refine D8 rfl ?_ | refine D9 (H9 z2).2.1 ?_ | refine D9 (H9 z4).2.1 ?_ | refine D9 (H9 z5).2.1 ?_ | refine C75 (by first | exact z1 | exact z2 | exact z3 | exact z4 | exact z5) ?_ | refine A06 (by first | exact z1 | exact z2 | exact z3 | exact z4 | exact z5) ?_)))) ?_
 refine Q0 [10,9] [[],[9],[10,9]] [(9,([838],[])),(10,([],[]))] [(0,[]),(1,[]),(2,[]),(3,[]),(4,[]),(5,[]),(6,[]),(7,[]),(8,[]),(9,[]),(10,[9])] [(0,[9]),(1,[9]),(2,[9]),(3,[9]),(4,[9]),(5,[9]),(6,[9]),(7,[9]),(8,[9])] (by kernel_rfl) (by kernel_rfl) (E6 A0 A0 (by kernel_rfl) A0 A0 (C2 A0 A0) (E6 A0 A0 (by kernel_rfl) A0 A0 (B2 A0) (E6 A0 A0 (by kernel_rfl) A0 A0 (B0 A0) (E6 A0 A0 (by kernel_rfl) A0 A0 (B0 A0) (E6 A0 A0 (by kernel_rfl) A0 A0 (C5 A0 A0 A0) (E6 A0 A0 (by kernel_rfl) A0 A0 (B0 A0) (E6 A0 A0 (by kernel_rfl) A0 A0 (C5 A0 A0 A0) (E6 A0 A0 (by kernel_rfl) A0 A0 (B6 A0 (.pure _ _ _ _) A0 (by omega) hvs) (E6 A0 A0 (by kernel_rfl) A0 A0 (E1 A0 A0) ?_)))))))));refine Z5 rfl rfl (by kernel_rfl) rfl rfl (r_alloc (by repeat (first | exact z5 | refine I72 ?_ | refine P2 rfl rfl ?_))) rfl ?_;refine Z5 A0 A0 (by kernel_rfl) A0 A0 (A84 (fun frc hU=>B9 TySz.out (T9 hU A0) A0 (T9 hU A0) A0 A0 A0)) A0 ?_;refine D85 (ks:=[831,832,834,837,838]) rfl (by kernel_rfl) rfl ?_ ?_
 ·refine O3 A0 A0 (by kernel_rfl) A0 A0 (C2 A0 A0) (O3 A0 A0 (by kernel_rfl) A0 A0 (B2 A0) (O3 A0 A0 (by kernel_rfl) A0 A0 (B0 A0) (O3 A0 A0 (by kernel_rfl) A0 A0 (B0 A0) (O3 A0 A0 (by kernel_rfl) A0 A0 (C5 A0 A0 A0) (O3 A0 A0 (by kernel_rfl) A0 A0 (B0 A0) (O3 A0 A0 (by kernel_rfl) A0 A0 (C5 A0 A0 A0) (O3 A0 A0 (by kernel_rfl) A0 A0 (B6 A0 (.pure _ _ _ _) A0 (by omega) hvs) (O3 A0 A0 (by kernel_rfl) A0 A0 (E1 A0 A0) ?_))))))));exact C03
 refine k1 (k2 ?_);refine D3 (K76 (gf':=C0 [831,832,834,837,838] gf) (l:=[(0,.s A26),(2,.s (A34 ch)),(40,D6 AL.Thread 2 j8 th),(41,C7 th.length),(42,C7 i),(5,.s (.one (.ref 837 0))),(6,.s (.one (.ref 838 0)))]) (ob':=[(830,A56 A s (a+1)),(831,thO m.1),(832,snO m.2),(837,.box [.p (.v (.int .i64 t.state)),.p (.v (.int .i64 t.from_))]),(838,.box ((cellsOf z6 q 0 7).map .p))]++Z) ⟨le1 rfl,le1 rfl,le1 rfl,le1 rfl,le1 rfl,le1 rfl,le1 rfl,trivial⟩ (C6 hH) (by repeat (first | exact A8 | refine tail_drop rfl ?_ | refine A9 rfl ?_ | refine F8 _ rfl ?_ | refine d7 rfl ?_)) (E4 (L:=[(830,_),(831,_),(832,_),(837,_),(838,_)]) ⟨rfl,rfl,rfl,rfl,rfl,trivial⟩ (by repeat (first | exact D5 | refine D8 rfl ?_ | refine D9 (H9 z2).2.1 ?_ | refine D9 (H9 z4).2.1 ?_ | refine D9 (H9 z5).2.1 ?_ | refine C75 (by first | exact z1 | exact z2 | exact z3 | exact z4 | exact z5) ?_ | refine A06 (by first | exact z1 | exact z2 | exact z3 | exact z4 | exact z5) ?_)))) ?_
 by_cases hK:q.Kind=0
 ·have hd:ch.toNat / 64=0∨ch.toNat / 64=1∨ch.toNat / 64=2∨ch.toNat / 64=3:=by have:=ch.toNat_lt;omega
  have hdK:=decide_eq_true hK
  rcases hd with hd | hd | hd | hd
  all_goals
   have hq4:=quo64 ch.toNat_lt hd
   have hm0:0≤(ch.toNat:Int).tmod 64:=Int.tmod_nonneg _ (by omega)
   refine A3 (A6 (B0 A0) A0 (G3 A0 A0 A0 A0 (A6 (H0 A0 A0) A0 (A4 A0 A0 (G9 A0 A0 A0 hdK (A4 A0 A0 (G9 A0 A0 A0 hdK (A6 (G58 A0 A0 (by decide)) A0 (G9 A0 A0 A0 hdK (A6 (B0 A0) A0 (G9 A0 A0 A0 hdK (A6 (v8 A0 A0 (hq4) (by decide)) A0 (G9 A0 A0 A0 hdK (G3 A0 A0 A0 A0 (G9 A0 A0 A0 hdK (A4 A0 A0 (G9 A0 A0 A0 hdK (A6 (n_rem A0 A0 (by decide)) A0 (G9 A0 A0 A0 hdK (A6 (n_shr A0 A0 (by (exact hm0))) A0 ?_))))))))))))))))))));refine G9 A0 A0 A0 hdK (A6 (n_bits A0 A0 A0 (fun _=>rfl)) A0 (G9 A0 A0 A0 hdK (A6 (H0 A0 A0) A0 (A6 (S9 A0 (hdK) A0) A0 (A5 ?_)))));refine k1 ?_;refine B1 rfl (fun ht=>?_) (fun ht=>?_)
   ·have hB:D18 q.Set ch.toNat=1:=by
     have h1:=A1 ht
     rw [I26,rem64] at h1
     unfold D18
     rw [hd]
     exact h1
    rw [if_pos ⟨hK,hB⟩] at hRi
    obtain ⟨M,hM⟩:∃M,addM A s (a+1) ⟨q.Next,t.from_⟩ m=M:=⟨_,rfl⟩
    rw [hM] at hRi
    have hMg:MG A M:=by rw [←hM];exact E08 s hA (by dsimp only;omega) hmg
    skip
    refine A3 (A4 A0 A0 (A6 (B0 A0) A0 (G3 A0 A0 A0 A0 (A6 (B0 A0) A0 (G3 A0 A0 A0 A0 (A6 (K0 A0) A0 (L4 (G34 A s hA (a+1) q.Next t.from_ m M hmg (by omega) hM A0 A0 A0 (H9 (P2 A0 A0 (P2 A0 A0 (P2 A0 A0 (P2 A0 A0 (P2 A0 A0 z3)))))).2.1) A0 A0 A0 ?_)))))));rintro _ _ ⟨rfl,rfl⟩;refine A5 ?_;refine k4 (k1 (A3 (E3 A0 A0 A0 (A4 A0 A0 (A5 ?_)))));refine k1 ?_;refine ⟨(i+1,M),⟨by omega,hRi,hMg⟩,by dsimp only;omega,?_⟩
    exact K76 ⟨le1 rfl,le1 rfl,le1 rfl,le1 rfl,le1 rfl,trivial⟩ (C6 hH) (by repeat (first | exact A8 | refine tail_drop rfl ?_ | refine A9 rfl ?_ | refine F8 _ rfl ?_ | refine d7 rfl ?_)) (E4 (L:=[(830,_),(831,_),(832,_)]) ⟨rfl,rfl,rfl,trivial⟩ (by repeat (first | exact D5 | refine D8 rfl ?_ | refine D9 (H9 z2).2.1 ?_ | refine D9 (H9 z4).2.1 ?_ | refine D9 (H9 z5).2.1 ?_ | refine C75 (by first | exact z1 | exact z2 | exact z3 | exact z4 | exact z5) ?_ | refine A06 (by first | exact z1 | exact z2 | exact z3 | exact z4 | exact z5) ?_)))
   ·have hB:¬D18 q.Set ch.toNat=1:=by
     have h1:=A2 ht
     rw [I26,rem64] at h1
     unfold D18
     rw [hd]
     exact h1
    rw [if_neg (fun h=>hB h.2)] at hRi
    refine k5 (k4 (k1 (A3 (E3 A0 A0 A0 (A4 A0 A0 (A5 ?_))))));refine k1 ?_;refine ⟨(i+1,m),⟨by omega,hRi,hmg⟩,by dsimp only;omega,?_⟩
    exact K76 ⟨le1 rfl,le1 rfl,le1 rfl,le1 rfl,le1 rfl,trivial⟩ (C6 hH) (by repeat (first | exact A8 | refine tail_drop rfl ?_ | refine A9 rfl ?_ | refine F8 _ rfl ?_ | refine d7 rfl ?_)) (E4 (L:=[(830,_),(831,_),(832,_)]) ⟨rfl,rfl,rfl,trivial⟩ (by repeat (first | exact D5 | refine D8 rfl ?_ | refine D9 (H9 z2).2.1 ?_ | refine D9 (H9 z4).2.1 ?_ | refine D9 (H9 z5).2.1 ?_ | refine C75 (by first | exact z1 | exact z2 | exact z3 | exact z4 | exact z5) ?_ | refine A06 (by first | exact z1 | exact z2 | exact z3 | exact z4 | exact z5) ?_)))
 have hdF:=decide_eq_false hK
 refine A3 (A6 (B0 A0) A0 (G3 A0 A0 A0 A0 (A6 (H0 A0 A0) A0 (A4 A0 A0 (K1 A0 A0 A0 (by rw [hdF];decide) A0 ?_)))));refine K1 A0 A0 A0 (by rw [hdF];decide) A0 ?_;refine K1 A0 A0 A0 (by rw [hdF];decide) A0 ?_;refine K1 A0 A0 A0 (by rw [hdF];decide) A0 ?_;refine K1 A0 A0 A0 (by rw [hdF];decide) A0 ?_;refine K1 A0 A0 A0 (by rw [hdF];decide) A0 ?_;refine K1 A0 A0 A0 (by rw [hdF];decide) A0 ?_;refine K1 A0 A0 A0 (by rw [hdF];decide) A0 ?_;refine K1 A0 A0 A0 (by rw [hdF];decide) A0 ?_;refine K1 A0 A0 A0 (by rw [hdF];decide) A0 ?_;refine A6 (V5 A0 (hdF) A0) A0 (A5 ?_);refine k1 ?_;refine B1 rfl (fun ht=>?_) (fun ht=>?_)
 ·cases ht
 refine k5 (k4 (k1 (A3 (E3 A0 A0 A0 (A4 A0 A0 (A5 ?_))))));refine k1 ?_
 rw [if_neg (fun h=>hK h.1)] at hRi
 refine ⟨(i+1,m),⟨by omega,hRi,hmg⟩,by dsimp only;omega,?_⟩
 exact K76 ⟨le1 rfl,le1 rfl,le1 rfl,le1 rfl,le1 rfl,trivial⟩ (C6 hH) (by repeat (first | exact A8 | refine tail_drop rfl ?_ | refine A9 rfl ?_ | refine F8 _ rfl ?_ | refine d7 rfl ?_)) (E4 (L:=[(830,_),(831,_),(832,_)]) ⟨rfl,rfl,rfl,trivial⟩ (by repeat (first | exact D5 | refine D8 rfl ?_ | refine D9 (H9 z2).2.1 ?_ | refine D9 (H9 z4).2.1 ?_ | refine D9 (H9 z5).2.1 ?_ | refine C75 (by first | exact z1 | exact z2 | exact z3 | exact z4 | exact z5) ?_ | refine A06 (by first | exact z1 | exact z2 | exact z3 | exact z4 | exact z5) ?_)))
set_option maxHeartbeats 1000000
theorem H93 {A:AL.Auto} {s:Str} {f a:Nat} {m m1 m2:Mach} {b b':Int × Int} {fd fd':Bool} {i:Int} (h1:(if fd=true then m else addM A s a ⟨A.Start,a⟩ m)=m1) (hi:p9 A m1.1=i) (hb:(if 0≤i then (i,(a:Int)) else b)=b') (hf:(if 0≤i then true else fd)=fd') (h2:(if 0≤i then (A72 i m1.1,m1.2) else m1)=m2) :
  E06 A s (f+1) a m b fd=if a=s.length∨(fd'=true∧m2.1=[]) then (b',fd') else E06 A s f (a+1) (D70 A s a m2) b' fd':=by
 subst h1 hi hb hf h2
 rfl
theorem K57 (A:AL.Auto) (s:Str) (hA:AG A) (hs:s.length≤16777216):FnOk Tryz.prog 65 [A24 A,H7 s,E2 0] (fun rs=>rs=[.agg [.v (.int .i64 (E48 A s 0).1.1),.v (.int .i64 (E48 A s 0).1.2)],H1 (E48 A s 0).2]):=by
 obtain ⟨R,hR⟩:∃R,E48 A s 0=R:=⟨_,rfl⟩
 rw [hR]
 have hR0:E06 A s (s.length+1 - 0) 0 ([],List.replicate A.States.length false) (0,0) false=R:=hR
 obtain ⟨hn1,hn2⟩:=hA.len
 refine FnOk.intro Tryz.func65 (by decide) A0 A0 A0 A0 ?_
 refine k2 (A3 (A6 (o5 A0 A0 A0) A0 (D1 (J1 6 A0) A0 (A7 A0 A0 (A5 ?_)))));refine k1 (k2 (A3 (A6 (E1 A0 A0) A0 (A4 A0 A0 (A4 A0 A0 (A33 (I91 A s hA) A0 A0 A0 A0 ?_))))));rintro _ _ ⟨rfl,rfl⟩;refine ⟨rfl,?_⟩;refine A7 A0 A0 (A5 ?_);refine k1 (D3 (K81 831 AL.Thread 2 j8 178 (kb:=830) (o:=4) A0 A0 A0) ?_)
 refine k2 (A3 (D1 (J1 9 A0) A0 (A5 ?_)));refine k1 (k2 (A3 (A7 A0 A0 (A5 ?_))));refine k1 (k3 (D2 (X:=Nat × Mach × (Int × Int) × Bool) (fun x=>([(1,Z9 s),(3,.s (.one (.eref Unit 2 (D44 A) () 0))),(6,.s (.one (.ref 6 0))),(8,.s (.one (.ref 830 0))),(9,.s (.one (.ref 9 0))),(10,S0 x.2.2.2)],[(830,A56 A s x.1),(831,thO x.2.1.1),(832,snO x.2.1.2),(6,.box [.p (.v (.int .i64 0)),.p (.v (.int .i64 0))]),(9,.box [.p (.v (.int .i64 x.2.2.1.1)),.p (.v (.int .i64 x.2.2.1.2))])])) (fun x=>x.1≤s.length∧MG A x.2.1∧E06 A s (s.length+1 - x.1) x.1 x.2.1 x.2.2.1 x.2.2.2=R) (fun x=>s.length - x.1) (0,([],List.replicate A.States.length false),(0,0),false) ⟨Nat.zero_le _,MG.first A,hR0⟩ (Sees.of ⟨le1 rfl,le1 rfl,le1 rfl,le1 rfl,le1 rfl,le1 rfl,trivial⟩ ⟨rfl,rfl,rfl,rfl,rfl,trivial⟩) ?_))
 rintro ⟨a,m,⟨b1,b2⟩,fd⟩ ⟨ha,hm,hRa⟩
 dsimp only at ha hm hRa ⊢
 obtain ⟨m1,hm1⟩:∃m1,(if fd=true then m else addM A s a ⟨A.Start,a⟩ m)=m1:=⟨_,rfl⟩
 obtain ⟨i,hi⟩:∃i,p9 A m1.1=i:=⟨_,rfl⟩
 obtain ⟨b',hb'⟩:∃b',(if 0≤i then (i,(a:Int)) else (b1,b2))=b':=⟨_,rfl⟩
 obtain ⟨fd',hfd'⟩:∃fd',(if 0≤i then true else fd)=fd':=⟨_,rfl⟩
 obtain ⟨m2,hm2⟩:∃m2,(if 0≤i then (A72 i m1.1,m1.2) else m1)=m2:=⟨_,rfl⟩
 rw [show s.length+1 - a=(s.length - a)+1 by omega,H93 hm1 hi hb' hfd' hm2] at hRa
 have hg1:MG A m1:=by
  rw [←hm1]
  split
  ·exact hm
  ·exact E08 s hA hA.start hm
 have hg2:MG A m2:=by
  rw [←hm2]
  split
  ·exact hg1.keep i
  ·exact hg1
 have hc1:=hg1.cnt
 have hc2:=hg2.cnt
 refine k3 (k2 (k2 (A3 (A4 A0 A0 (A6 (S2 A0) A0 (A5 ?_))))));refine k1 ?_;refine A87 [(1,Z9 s),(3,.s (.one (.eref Unit 2 (D44 A) () 0))),(6,.s (.one (.ref 6 0))),(8,.s (.one (.ref 830 0))),(9,.s (.one (.ref 9 0))),(10,S0 fd)] [(830,A56 A s a),(831,thO m1.1),(832,snO m1.2),(6,.box [.p (.v (.int .i64 0)),.p (.v (.int .i64 0))]),(9,.box [.p (.v (.int .i64 b1)),.p (.v (.int .i64 b2))])] ?_ ?_
 ·cases fd with
  | true =>
   rw [if_pos rfl] at hm1
   subst hm1
   skip
   refine B1 rfl (fun ht=>?_) (fun ht=>?_)
   ·cases ht
   refine k5 (k1 ?_)
   exact Sees.of ⟨le1 rfl,le1 rfl,le1 rfl,le1 rfl,le1 rfl,le1 rfl,trivial⟩ ⟨rfl,rfl,rfl,rfl,rfl,trivial⟩
  | false =>
   rw [if_neg (by decide)] at hm1
   skip
   refine B1 rfl (fun ht=>?_) (fun ht=>?_)
   rotate_left
   ·cases ht
   skip
   refine F76 8 (by kernel_rfl) (by kernel_rfl) A0 (E9 A0 A0 (B7 (C3 A0) A0 A0 (B7 (B3 A0 A0) A0 A0 (E9 A0 A0 (B7 (B2 A0) A0 A0 (B7 (B0 A0) A0 A0 (B7 (C5 A0 A0 A0) A0 A0 (B7 (K0 A0) A0 A0 (Q6 ?_)))))))));refine H42 (G34 A s hA a A.Start a m m1 hm hA.start hm1 A0 A0 A0 A0) A0 A0 A0 ?_;rintro _ _ ⟨rfl,rfl⟩;refine ⟨_,rfl,?_⟩;refine Q6 ?_;refine k1 ?_
   exact Sees.of ⟨le1 rfl,le1 rfl,le1 rfl,le1 rfl,le1 rfl,le1 rfl,trivial⟩ ⟨rfl,rfl,rfl,rfl,rfl,trivial⟩
 refine k2 (k2 (A3 (A4 A0 A0 (L4 (F32 A s a m1.1 m1.2 hg1.st (by omega) A0 A0 A0 A0) A0 A0 A0 ?_))));rintro _ _ ⟨rfl,rfl⟩;refine A7 A0 A0 (A5 ?_);refine k1 (k2 ?_)
 rw [hi]
 refine A3 (A4 A0 A0 (A6 (V2 A0 A0) A0 (A5 ?_)));refine k1 ?_;refine A87 [(1,Z9 s),(3,.s (.one (.eref Unit 2 (D44 A) () 0))),(6,.s (.one (.ref 6 0))),(8,.s (.one (.ref 830 0))),(9,.s (.one (.ref 9 0))),(10,S0 fd')] [(830,A56 A s a),(831,thO m2.1),(832,snO m2.2),(6,.box [.p (.v (.int .i64 0)),.p (.v (.int .i64 0))]),(9,.box [.p (.v (.int .i64 b'.1)),.p (.v (.int .i64 b'.2))])] ?_ ?_
 ·skip
  refine B1 rfl (fun ht=>?_) (fun ht=>?_)
  ·have h0:=A1 ht
   rw [if_pos h0] at hb' hfd' hm2
   subst hb' hfd' hm2
   refine k2 (A3 (A4 A0 A0 (A4 A0 A0 (A6 (B2 A0) A0 (A6 (B0 A0) A0 (G3 A0 A0 A0 A0 (A6 (K0 A0) A0 (G1 (B9 TySz.out A0 A0 A0 A0 A0 A0) (A7 A0 A0 (A5 ?_))))))))));refine k1 (A3 (A4 A0 A0 (A4 A0 A0 (L4 (I93 A s a i m1.1 m1.2 (by omega) A0 A0 A0 A0) A0 A0 A0 ?_))));rintro _ _ ⟨rfl,rfl⟩;refine A5 ?_;refine k1 ?_
   exact Sees.of ⟨le1 rfl,le1 rfl,le1 rfl,le1 rfl,le1 rfl,le1 rfl,trivial⟩ ⟨rfl,rfl,rfl,rfl,rfl,trivial⟩
  ·have h0:=A2 ht
   rw [if_neg h0] at hb' hfd' hm2
   subst hb' hfd' hm2
   refine k5 (k1 ?_)
   exact Sees.of ⟨le1 rfl,le1 rfl,le1 rfl,le1 rfl,le1 rfl,le1 rfl,trivial⟩ ⟨rfl,rfl,rfl,rfl,rfl,trivial⟩
 refine k2 (k2 ?_)
 by_cases hal:a=s.length
 ·have hd:decide ((a:Int)=(s.length:Int))=true:=decide_eq_true (by omega)
  rw [if_pos (.inl hal)] at hRa
  refine A3 (A4 A0 A0 (A6 (B2 A0) A0 (A6 (B0 A0) A0 (G3 A0 A0 A0 A0 (A4 A0 A0 (A6 (J7 A0) A0 (A6 (H0 A0 A0) A0 (A4 A0 A0 (K1 A0 A0 A0 (by rw [hd];decide) A0 ?_)))))))));refine K1 A0 A0 A0 (by rw [hd];decide) A0 ?_;refine C52 A0 A0 A0 A0 (C52 A0 A0 A0 A0 (C52 A0 A0 A0 A0 (C52 A0 A0 A0 A0 (C52 A0 A0 A0 A0 (C52 A0 A0 A0 A0 (K1 A0 A0 A0 (by rw [hd];decide) A0 ?_))))));refine A6 (S9 A0 (hd) A0) A0 (A5 ?_);refine k1 ?_;refine B1 rfl (fun ht=>?_) (fun ht=>?_)
  rotate_left
  ·cases ht
  refine k2 (A3 (A6 (J5 A0 A0 A0) A0 (A4 A0 A0 (G1 (B9 TySz.out A0 A0 A0 A0 A0 A0) (A7 A0 A0 (A5 ?_))))));refine k1 (k10 (k11 (k12 (k11 (k12 ?_)))))
  exact B8 (rs:=[.agg [.v (.int .i64 b'.1),.v (.int .i64 b'.2)],H1 fd']) (E79 rfl rfl rfl rfl rfl rfl rfl) (by rw [←hRa])
 have hd:decide ((a:Int)=(s.length:Int))=false:=decide_eq_false (by omega)
 cases fd' with
 | true =>
  refine A3 (A4 A0 A0 (A6 (B2 A0) A0 (A6 (B0 A0) A0 (G3 A0 A0 A0 A0 (A4 A0 A0 (A6 (J7 A0) A0 (A6 (H0 A0 A0) A0 (A4 A0 A0 (G9 A0 A0 A0 hd (A4 A0 A0 (G9 A0 A0 A0 hd (A4 A0 A0 (G9 A0 A0 A0 A0 (A4 A0 A0 (G9 A0 A0 A0 A0 (A6 (B2 A0) A0 (G9 A0 A0 A0 A0 (A6 (B0 A0) A0 (G9 A0 A0 A0 A0 (G3 A0 A0 A0 A0 (G9 A0 A0 A0 A0 (A6 (X3 A0 A0) A0 (G9 A0 A0 A0 A0 ?_)))))))))))))))))))))));refine A6 (H0 A0 A0) A0 (G9 A0 A0 A0 hd (A6 (S9 A0 (rfl) A0) A0 (A6 (V5 A0 (hd) A0) A0 (A5 ?_))));refine k1 ?_;refine B1 rfl (fun ht=>?_) (fun ht=>?_)
  ·have hnl:m2.1=[]:=List.length_eq_zero_iff.1 (by have:=A1 ht;omega)
   rw [if_pos (.inr ⟨rfl,hnl⟩)] at hRa
   refine k2 (A3 (A6 (J5 A0 A0 A0) A0 (A4 A0 A0 (G1 (B9 TySz.out A0 A0 A0 A0 A0 A0) (A7 A0 A0 (A5 ?_))))));refine k1 (k10 (k11 (k12 (k11 (k12 ?_)))))
   exact B8 (rs:=[.agg [.v (.int .i64 b'.1),.v (.int .i64 b'.2)],H1 true]) (E79 rfl rfl rfl rfl rfl rfl rfl) (by rw [←hRa])
  ·have hnl:m2.1≠[]:=fun e=>by have:=A2 ht;rw [e] at this;exact this rfl
   rw [if_neg (fun h=>h.elim hal fun h=>hnl h.2)] at hRa
   refine k5 (k1 (A3 (A4 A0 A0 (L4 (F33 A s hA a (by omega) hs m2 hg2 A0 A0 A0) A0 A0 A0 ?_))));rintro _ _ ⟨rfl,rfl⟩;refine A5 ?_;refine k4 (k1 ?_)
   exact ⟨(a+1,D70 A s a m2,b',true),⟨by dsimp only;omega,F67 s hA hg2,by dsimp only;rw [show s.length+1 - (a+1)=s.length - a by omega];exact hRa⟩,by dsimp only;omega,Sees.of ⟨le1 rfl,le1 rfl,le1 rfl,le1 rfl,le1 rfl,le1 rfl,trivial⟩ ⟨rfl,rfl,rfl,rfl,rfl,trivial⟩⟩
 | false =>
  rw [if_neg (fun h=>h.elim hal fun h=>by cases h.1)] at hRa
  refine A3 (A4 A0 A0 (A6 (B2 A0) A0 (A6 (B0 A0) A0 (G3 A0 A0 A0 A0 (A4 A0 A0 (A6 (J7 A0) A0 (A6 (H0 A0 A0) A0 (A4 A0 A0 (G9 A0 A0 A0 hd (A4 A0 A0 (G9 A0 A0 A0 hd (A4 A0 A0 (K1 A0 A0 A0 (by decide) A0 (K1 A0 A0 A0 (by decide) A0 (K1 A0 A0 A0 (by decide) A0 (K1 A0 A0 A0 (by decide) A0 (K1 A0 A0 A0 (by decide) A0 (K1 A0 A0 A0 (by decide) A0 (G9 A0 A0 A0 hd (A6 (V5 A0 (rfl) A0) A0 (A6 (V5 A0 (hd) A0) A0 (A5 ?_))))))))))))))))))))));refine k1 ?_;refine B1 rfl (fun ht=>?_) (fun ht=>?_)
  ·cases ht
  refine k5 (k1 (A3 (A4 A0 A0 (L4 (F33 A s hA a (by omega) hs m2 hg2 A0 A0 A0) A0 A0 A0 ?_))));rintro _ _ ⟨rfl,rfl⟩;refine A5 ?_;refine k4 (k1 ?_)
  exact ⟨(a+1,D70 A s a m2,b',false),⟨by dsimp only;omega,F67 s hA hg2,by dsimp only;rw [show s.length+1 - (a+1)=s.length - a by omega];exact hRa⟩,by dsimp only;omega,Sees.of ⟨le1 rfl,le1 rfl,le1 rfl,le1 rfl,le1 rfl,le1 rfl,trivial⟩ ⟨rfl,rfl,rfl,rfl,rfl,trivial⟩⟩
theorem anyG_ok (A:AL.Auto) (s:Str) (hA:AG A) (hs:s.length≤16777216):FnOk Tryz.prog 32 [A24 A,H7 s] (fun rs=>rs=[H1 (E48 A s 0).2,E2 0]):=by
 refine FnOk.intro Tryz.func32 (by decide) A0 A0 A0 A0 ?_
 refine k2 (A3 (A6 (o5 A0 A0 A0) A0 (A7 A0 A0 (A7 A0 A0 (A5 ?_)))));refine k1 (k2 (k2 (A3 (A6 (E1 A0 A0) A0 (C9 (I90 A hA) A0 A0 A0 ?_)))));rintro _ rfl;refine A7 A0 A0 (A5 ?_);refine k1 (k2 (A3 (A4 A0 A0 (A6 (O2 A0 A0) A0 (A5 ?_)))));refine k1 ?_;refine B1 rfl (fun ht=>?_) (fun ht=>?_)
 ·cases ht
 refine k5 (k1 (k2 (A3 (A6 (E1 A0 A0) A0 (A4 A0 A0 (C9 (K57 A s hA hs) A0 A0 A0 ?_))))));rintro _ rfl;refine A4 A0 A0 (E8 A0 A0 A0 (E8 A0 A0 A0 (D1 (J1 7 A0) A0 (G1 (B9 TySz.out A0 A0 A0 A0 A0 A0) (A7 A0 A0 (A5 ?_))))));refine k1 (k2 (A3 (A4 A0 A0 (A7 A0 A0 (A7 A0 A0 (A5 ?_))))));refine k1 (k10 ?_)
 exact B8 (rs:=[H1 (E48 A s 0).2,E2 0]) (a6 rfl rfl rfl rfl rfl) rfl
set_option maxHeartbeats 1000000
abbrev B15 (A:AL.Auto) (s:Str):Bool:=(E48 A s 0).2
theorem H05 (A:AL.Auto) (hA:AG A) (a b:Str) (ha:M8 a=0) (hb:M8 b=0):FnOk Tryz.prog 16 [A24 A,H7 a,H7 b] (fun rs=>rs=[E12 (D73 (B15 A) a b),E2 0]):=by
 have lims:∀{s:Str},M8 s=0→s.length≤1048576∧(I6 s).length≤4096:=fun {s} h=>by
  unfold M8 at h
  split at h
  ·cases h
  ·omega
 obtain ⟨ha1,ha2⟩:=lims ha
 obtain ⟨hb1,hb2⟩:=lims hb
 have hs0:=G21 a (by omega)
 have hs1:=G21 b (by omega)
 rw [show j6 a=(I6 a,0) by unfold j6;rw [if_neg (by omega)]] at hs0
 rw [show j6 b=(I6 b,0) by unfold j6;rw [if_neg (by omega)]] at hs1
 obtain ⟨x,hx⟩:∃x,x=I6 a:=⟨_,rfl⟩
 obtain ⟨y,hy⟩:∃y,y=I6 b:=⟨_,rfl⟩
 have hxl:∀s∈x,s.length≤1048576:=fun s hs=>by rw [hx] at hs;have:=I12 _ _ hs;omega
 have hyl:∀s∈y,s.length≤1048576:=fun s hs=>by rw [hy] at hs;have:=I12 _ _ hs;omega
 have hmo:D73 (B15 A) a b=j9 (B15 A) x y (E52 x y):=by unfold D73;rw [hx,hy]
 rw [hmo]
 rw [←hx] at ha2 hs0
 rw [←hy] at hb2 hs1
 have hid:=G94 [x,y] (by simp) (by simp only [L36,List.flatten_nil,L06,L09];omega)
 have hwk:=I77 (S5 (I9 [x,y]) x) (S5 (I9 [x,y]) y) (by rw [A73];exact ha2) (by rw [A73];exact hb2)
 obtain ⟨L,hL⟩:∃L,L=E52 x y:=⟨_,rfl⟩
 have hsc:F47 (S5 (I9 [x,y]) x) (S5 (I9 [x,y]) y)=L:=hL.symm
 rw [hsc] at hwk
 obtain ⟨hLl,hLb⟩:=K24 x y
 rw [←hL] at hLl hLb ⊢
 have hv0:([x,y].map (S5 (I9 [x,y])))[(0:Int).toNat]?=some (S5 (I9 [x,y]) x):=rfl
 have hv1:([x,y].map (S5 (I9 [x,y])))[(1:Int).toNat]?=some (S5 (I9 [x,y]) y):=rfl
 refine FnOk.intro Tryz.func16 (by decide) A0 A0 A0 A0 ?_
 refine k2 (A3 (A6 (o5 A0 A0 A0) A0 (A7 A0 A0 (A7 A0 A0 (A5 ?_)))));refine k1 (k2 (A3 (A4 A0 A0 (C9 (hs0) A0 A0 A0 ?_))));rintro _ rfl;refine A4 A0 A0 (E8 A0 A0 A0 (E8 A0 A0 A0 (A7 A0 A0 (A7 A0 A0 (A5 ?_)))));refine k1 (k2 (k2 (A3 (A4 A0 A0 (A6 (O2 A0 A0) A0 (A5 ?_))))));refine k1 ?_;refine B1 rfl (fun ht=>?_) (fun ht=>?_)
 ·cases ht
 refine k5 (k1 (k2 (A3 (A4 A0 A0 (C9 (hs1) A0 A0 A0 ?_)))));rintro _ rfl;refine A4 A0 A0 (E8 A0 A0 A0 (E8 A0 A0 A0 (A7 A0 A0 (A7 A0 A0 (A5 ?_)))));refine k1 (k2 (k2 (A3 (A4 A0 A0 (A6 (O2 A0 A0) A0 (A5 ?_))))));refine k1 ?_;refine B1 rfl (fun ht=>?_) (fun ht=>?_)
 ·cases ht
 refine k5 (k1 (k2 (A3 (A4 A0 A0 (A4 A0 A0 (A6 (D7 (c:=strsC) (ys:=[x,y]) (G6 A0 A0 A0 A0 (G6 A0 A0 A0 A0 I0)) A0 A0 A0) A0 (C9 (hid) A0 A0 A0 ?_)))))));rintro _ rfl;refine A7 A0 A0 (A5 ?_);refine k1 (k2 (E7 (by kernel_rfl) (by kernel_rfl) (E9 A0 A0 (B7 (B6 A0 (.pure _ _ _ _) A0 (by omega) hv0) A0 A0 (B7 (B3 A0 A0) A0 A0 (E9 A0 A0 (B7 (B6 A0 (.pure _ _ _ _) A0 (by omega) hv1) A0 A0 (B7 (B3 A0 A0) A0 A0 (B7 (O7 (hwk) A0 A0) A0 A0 (E9 A0 A0 (B7 (N2 A0 A0) A0 A0 (B7 (N2 A0 A0) A0 A0 (B7 (H5 A0 A0) A0 A0 (B7 (H5 A0 A0) A0 A0 (Q6 ?_)))))))))))))));refine k1 (k2 (A3 (D1 (j4 14 _ X2 A0) A0 (A5 ?_))));refine k1 (k2 (k2 (A3 (A4 A0 A0 (F4 A0 A0 (A4 A0 A0 (A5 ?_)))))));refine k1 (k3 (D2 (X:=Nat) (fun i=>([(3,.s (.one (.eref Unit 2 (D44 A) () 0))),(8,D6 Str 1 X2 x),(10,D6 Str 1 X2 y),(14,.s (.one (.buf 14 Str 1 X2 (j9 (B15 A) x y (L.take i))))),(51,.s (pChanges L).s1),(52,C7 L.length),(53,C7 i)],[(14,.spare (j9 (B15 A) x y (L.take i)).length 1 9)])) (fun i=>i≤L.length) (fun i=>L.length - i) 0 (Nat.zero_le _) (Sees.of ⟨le1 rfl,le1 rfl,le1 rfl,le1 rfl,le1 rfl,le1 rfl,le1 rfl,trivial⟩ ⟨rfl,trivial⟩) ?_))
 intro i hi
 have hml:=E54 (B15 A) x y (L.take i)
 rw [L10] at hml
 have hml2:(j9 (B15 A) x y (L.take i)).length≤4097*8192:=Nat.le_trans hml (Nat.mul_le_mul (by omega) (by omega))
 dsimp only at hi ⊢
 refine k2 (A3 (F7 A0 A0 A0 (A5 ?_)));refine k1 (k2 ?_);refine B1 rfl (fun ht=>?_) (fun ht=>?_)
 rotate_left
 ·have hie:i=L.length:=by have:=A2 ht;omega
  rw [hie,L08]
  refine k6 (k2 (A3 (A4 A0 A0 (A7 A0 A0 (A7 A0 A0 (A5 ?_))))));refine k1 (k10 ?_)
  exact B8 (rs:=[E12 (j9 (B15 A) x y L),E2 0]) (a6 rfl rfl rfl rfl rfl) rfl
 have hlt:i < L.length:=by have:=A1 ht;omega
 obtain ⟨c,hc⟩:∃c,c=L[i]:=⟨_,rfl⟩
 have hvc:L[i]?=some c:=by rw [hc];simp [hlt]
 obtain ⟨q1,q2,q3,q4,q5,q6⟩:=hLb c (L14 hvc)
 obtain ⟨W,hW⟩:∃W,W=j9 (B15 A) x y (L.take i):=⟨_,rfl⟩
 have hnx:j9 (B15 A) x y (L.take (i+1))=W++B26 (B15 A) (q8 x y c):=by
  rw [I92 hvc,hW];unfold j9;rw [List.flatMap_append,List.flatMap_singleton]
 rw [←hW] at hml2 ⊢
 have hCl:=E53 x y c
 have hcs:=G92 [(x.drop c.Old.toNat).take ((c.Old+c.OldLen).toNat - c.Old.toNat),(y.drop c.New.toNat).take ((c.New+c.NewLen).toNat - c.New.toNat)] (by simp) (by
  simp only [L36,List.flatten_nil,L29]
  exact Nat.le_trans hCl (by omega))
 have hfl:[(x.drop c.Old.toNat).take ((c.Old+c.OldLen).toNat - c.Old.toNat),(y.drop c.New.toNat).take ((c.New+c.NewLen).toNat - c.New.toNat)].flatten=q8 x y c:=by
  simp only [L36,List.flatten_nil,L29];rfl
 rw [hfl] at hcs
 refine k5 (k1 (k2 (k3 (k2 (A3 (A6 (B6 A0 (.pure _ _ _ _) A0 (by omega) hvc) A0 (A6 (E1 A0 A0) A0 (D1 (J1 16 A0) A0 (G1 (B9 TySz.out A0 A0 A0 A0 A0 A0) (A5 ?_))))))))));refine k1 (k2 (E7 (by kernel_rfl) (by kernel_rfl) (E9 A0 A0 (B7 (B0 A0) A0 A0 (B7 (C5 A0 A0 A0) A0 A0 (B7 (B0 A0) A0 A0 (B7 (C5 A0 A0 A0) A0 A0 (B7 (B0 A0) A0 A0 (B7 (C5 A0 A0 A0) A0 A0 (B7 (l6 A0 A0 (by (first | omega | decide))) A0 A0 (B7 (E75 A0 (.pure _ _ _ _) A0 A0 (by (first | omega | decide)) (by (first | omega | decide)) (by (first | omega | decide))) A0 A0 (E9 A0 A0 (B7 (B0 A0) A0 A0 (B7 (C5 A0 A0 A0) A0 A0 (B7 (B0 A0) A0 A0 (B7 (C5 A0 A0 A0) A0 A0 (B7 (B0 A0) A0 A0 (B7 (C5 A0 A0 A0) A0 A0 (B7 (l6 A0 A0 (by (first | omega | decide))) A0 A0 (B7 (E75 A0 (.pure _ _ _ _) A0 A0 (by (first | omega | decide)) (by (first | omega | decide)) (by (first | omega | decide))) A0 A0 (B7 (D7 (c:=strsC) (ys:=[(x.drop c.Old.toNat).take ((c.Old+c.OldLen).toNat - c.Old.toNat),(y.drop c.New.toNat).take ((c.New+c.NewLen).toNat - c.New.toNat)]) (G6 A0 A0 A0 A0 (G6 A0 A0 A0 A0 I0)) A0 A0 A0) A0 A0 (B7 (O7 (hcs) A0 A0) A0 A0 (B7 (r5 A0 (.pure _ _ _ _)) A0 A0 ?_)))))))))))))))))))))));refine E9 A0 A0 (Q6 ?_);refine k1 (k3 ?_)
 obtain ⟨M,hM⟩:∃M,M=q8 x y c:=⟨_,rfl⟩
 have hMs:∀s∈M,s.length≤1048576:=fun s hs=>by
  rw [hM] at hs
  exact (I30 hs).elim (hxl s) (hyl s)
 rw [←hM] at hCl hnx ⊢
 refine D2 (X:=Nat) (fun j=>([(3,.s (.one (.eref Unit 2 (D44 A) () 0))),(8,D6 Str 1 X2 x),(10,D6 Str 1 X2 y),(14,.s (.one (.buf 14 Str 1 X2 (W++B26 (B15 A) (M.take j))))),(51,.s (pChanges L).s1),(52,C7 L.length),(53,C7 i),(76,D6 Str 1 X2 M),(77,C7 M.length),(78,C7 j)],[(14,.spare (W++B26 (B15 A) (M.take j)).length 1 9)])) (fun j=>j≤M.length) (fun j=>M.length - j) 0 (Nat.zero_le _) ?_ ?_
 ·dsimp only
  rw [List.take_zero,show B26 (B15 A) []=[] from rfl,L29]
  exact Sees.of ⟨le1 rfl,le1 rfl,le1 rfl,le1 rfl,le1 rfl,le1 rfl,le1 rfl,le1 rfl,le1 rfl,le1 rfl,trivial⟩ ⟨rfl,trivial⟩
 intro j hj
 have hhl:=I31 (B15 A) (M.take j)
 rw [L10] at hhl
 dsimp only at hj ⊢
 refine k2 (A3 (F7 A0 A0 A0 (A5 ?_)));refine k1 (k2 ?_);refine B1 rfl (fun ht=>?_) (fun ht=>?_)
 rotate_left
 ·have hje:j=M.length:=by have:=A2 ht;omega
  rw [hje,L08,←hnx]
  refine k6 (k7 (k7 (k8 A0 (k4 (k1 (A3 (E3 A0 A0 A0 (A4 A0 A0 (A5 ?_)))))))));refine k1 ?_
  exact ⟨i+1,by omega,by omega,Sees.of ⟨le1 rfl,le1 rfl,le1 rfl,le1 rfl,le1 rfl,le1 rfl,le1 rfl,trivial⟩ ⟨rfl,trivial⟩⟩
 have hjlt:j < M.length:=by have:=A1 ht;omega
 obtain ⟨s,hs⟩:∃s,s=M[j]:=⟨_,rfl⟩
 have hvs:M[j]?=some s:=by rw [hs];simp [hjlt]
 have hsl:=hMs s (L14 hvs)
 have hba:=K36 s (by omega)
 have hbl:(A62 s).length≤16777216:=by unfold A62;split<;>(try rw [List.length_dropLast])<;>omega
 obtain ⟨V,hV⟩:∃V,V=W++B26 (B15 A) (M.take j):=⟨_,rfl⟩
 have hVl:V.length≤4097*8192+8192:=by rw [hV,L06];omega
 have hVn:W++B26 (B15 A) (M.take (j+1))=V++(if B15 A (A62 s)=true then [A62 s] else []):=by
  rw [hV,I92 hvs]
  unfold B26
  rw [L40,List.filter_append,L15]
  congr 2
  simp only [L16,L54,L46,List.filter_nil]
 rw [←hV]
 refine k5 (k1 (k2 (k3 (k2 (A3 (A6 (B6 A0 (.pure _ _ _ _) A0 (by omega) hvs) A0 (A6 (B3 A0 A0) A0 (A7 A0 A0 (A5 ?_)))))))));refine k1 (k2 (E7 (by kernel_rfl) (by kernel_rfl) (B7 (E1 A0 A0) A0 A0 (E9 A0 A0 (B7 (O7 (hba) A0 A0) A0 A0 (B7 (O7 (anyG_ok A (A62 s) hA hbl) A0 A0) A0 A0 (E9 A0 A0 (B7 (N2 A0 A0) A0 A0 (B7 (N2 A0 A0) A0 A0 (B7 (H5 A0 A0) A0 A0 (B7 (H5 A0 A0) A0 A0 (Q6 ?_))))))))))));refine k1 (k2 (A3 (A4 A0 A0 (A5 ?_))));refine k1 ?_;refine B1 rfl (fun ht=>?_) (fun ht=>?_)
 ·rw [if_pos ht] at hVn
  skip
  refine A3 (A4 A0 A0 (A4 A0 A0 (C9 (hba) A0 A0 A0 ?_)));rintro _ rfl;refine A6 (D7 (c:=X2) (ys:=[A62 s]) (G6 A0 A0 A0 A0 I0) A0 A0 A0) A0 (D1 (P0 A0 A0 A0 (.pure _ _ _ _) (by (simp only [L04,L09];omega)) A0) A0 (A7 A0 A0 (A5 ?_)));refine k4 (k1 (A3 (E3 A0 A0 A0 (A4 A0 A0 (A5 ?_)))));refine k1 ?_;refine ⟨j+1,by omega,by omega,?_⟩
  (try dsimp only)
  rw [hVn]
  exact Sees.of ⟨le1 rfl,le1 rfl,le1 rfl,le1 rfl,le1 rfl,le1 rfl,le1 rfl,le1 rfl,le1 rfl,le1 rfl,trivial⟩ ⟨rfl,trivial⟩
 ·rw [if_neg (fun h=>by rw [show (E48 A (A62 s) 0).2=true from h] at ht;cases ht),L29] at hVn
  refine k5 (k4 (k1 (A3 (E3 A0 A0 A0 (A4 A0 A0 (A5 ?_))))));refine k1 ?_;refine ⟨j+1,by omega,by omega,?_⟩
  (try dsimp only)
  rw [hVn]
  exact Sees.of ⟨le1 rfl,le1 rfl,le1 rfl,le1 rfl,le1 rfl,le1 rfl,le1 rfl,le1 rfl,le1 rfl,le1 rfl,trivial⟩ ⟨rfl,trivial⟩
theorem H94 (A:AL.Auto) (hA:AG A) (a b:Str) (ha:M8 a=0) (hb:M8 b=0):AL.Met Tryz.prog 15 [H78 (a,b),.one (.eref Unit 2 (D44 A) () 0)] [] [] [] (fun rs ob'=>rs=[C10 (decide (0 < (D73 (B15 A) a b).length))]∧ob'=[]):=by
 refine AL.Met.intro Tryz.func15 (by decide) A0 A0 A0 ?_
 refine k2 (A3 (D1 (s6 2 A0 A0 A0) A0 (A7 A0 A0 (A5 ?_))));refine k1 (k2 (A3 (A6 (E1 A0 A0) A0 (A6 (I5 A0 A0 (by first | omega | decide) (by omega)) A0 (G3 A0 A0 A0 A0 (A6 (I5 A0 A0 (by first | omega | decide) (by omega)) A0 (G3 A0 A0 A0 A0 (C9 (H05 A hA a b ha hb) A0 A0 A0 ?_))))))));rintro _ rfl;refine A4 A0 A0 (E8 A0 A0 A0 (E8 A0 A0 A0 (A7 A0 A0 (A7 A0 A0 (A5 ?_)))));refine k1 (k2 (A3 (A4 A0 A0 (F4 A0 A0 (A6 (O1 A0 A0) A0 (A7 A0 A0 (A5 ?_)))))));refine k1 (k10 ?_);refine G7 (I8 rfl rfl) (by repeat (first | exact A8 | refine A9 rfl ?_ | refine D4 _ ?_)) (ObIn.spec (ob':=[]) trivial) ⟨?_,rfl⟩
 first
  | rfl
  | (congr 1;simp)
set_option maxHeartbeats 1000000
structure GF (B:Nat) (l:List File):Prop where
 len:l.length≤4
 all:∀f∈l,f.Path.length≤3∧f.Blob.length≤B
theorem GF.few {B:Nat} {l:List File} (h:GF B l) (hB:B≤16777216):FewF l :=
 ⟨by have:=h.len;omega,fun f hf=>by have:=(h.all f hf).1;omega,fun f hf=>by have:=(h.all f hf).2;omega⟩
theorem GF.mono {B B':Nat} {l:List File} (h:GF B l) (hB:B≤B'):GF B' l:=⟨h.len,fun f hf=>⟨(h.all f hf).1,by have:=(h.all f hf).2;omega⟩⟩
set_option maxHeartbeats 1000000
structure GG (B:Nat) (g:Graph):Prop where
 len:g.length≤16
 pars:∀c∈g,c.Parents.length≤3∧∀p∈c.Parents,0≤p∧p < (g.length:Int)
 files:∀c∈g,GF B c.Files
theorem GG.few {B:Nat} {g:Graph} (h:GG B g) (hB:B≤16777216):FewT g :=
 ⟨⟨by have:=h.len;omega,fun c hc=>by have:=(h.pars c hc).1;omega⟩,fun c hc=>(h.files c hc).few hB⟩
theorem GG.short {B:Nat} {g:Graph} (h:GG B g):Short g:=fun c=>by
 unfold R4
 by_cases hc:c < g.length
 ·rw [L01 hc]
  have:=(h.files _ (L05 hc)).len
  show g[c].Files.length≤6
  omega
 ·rw [L18 (by omega)];simp
structure GU (L:Nat) (g:Graph):Prop where
 up:∀c p:Nat,(p:Int)∈F3 g c→p < c
 nice:∀c∈g,c.Parents.Nodup∧0≤c.Date∧c.Date≤5
 tree:∀c∈g,GN L c.Files
theorem GU.valid {B L:Nat} {g:Graph} (h:GG B g) (hB:B≤1048576) (hL:L≤2111) (hw:OneWay g) (hn:∀c∈g,c.Parents.Nodup∧0≤c.Date∧c.Date≤5) (ht:∀c∈g,GN L c.Files):GV g where
 len:=h.len
 pars:=fun c hc=>⟨(h.pars c hc).1,(h.pars c hc).2,hn c hc⟩
 way:=hw
 files:=fun c hc=>⟨(ht c hc).mono hL,fun f hf=>by have:=((h.files c hc).all f hf).2;omega⟩
set_option maxHeartbeats 2000000
theorem GG.mono {B B':Nat} {g:Graph} (h:GG B g) (hB:B≤B'):GG B' g:=⟨h.len,h.pars,fun c hc=>(h.files c hc).mono hB⟩
set_option maxHeartbeats 2000000
theorem D92 (a:List Int) (ha:a.length≤1099511627776):FnOk Tryz.prog 10 [K9 a,K9 a] (fun rs=>rs=[H1 true]):=by
 refine FnOk.intro Tryz.func10 (by decide) A0 A0 A0 A0 ?_
 refine k2 (A3 (A7 A0 A0 (A5 ?_)));refine k1 (k2 (k2 (A3 (A4 A0 A0 (F4 A0 A0 (A4 A0 A0 (F4 A0 A0 (A6 (O2 A0 A0) A0 (A5 ?_)))))))));refine k1 ?_;refine B1 rfl (fun ht=>?_) (fun ht=>?_)
 ·exact absurd rfl (A1 ht)
 refine k5 (k1 (k2 (k2 (A3 (A7 A0 A0 (A5 ?_))))));refine k1 (k3 (D2 (X:=Nat) (fun i=>([(0,D6 Int 1 F2 a),(1,D6 Int 1 F2 a),(5,C7 i)],[])) (fun i=>i≤a.length) (fun i=>a.length - i) 0 (Nat.zero_le _) (Sees.of ⟨le1 rfl,le1 rfl,le1 rfl,trivial⟩ trivial) ?_))
 intro i hi
 dsimp only at hi ⊢
 refine k2 (k2 (A3 (A4 A0 A0 (A4 A0 A0 (F4 A0 A0 (F7 A0 A0 A0 (A5 ?_)))))));refine k1 ?_;refine B1 rfl (fun ht=>?_) (fun ht=>?_)
 ·have hlt:i < a.length:=by have:=A1 ht;omega
  have hv:=getI hlt
  refine k5 (k1 (k2 (k3 (k2 (E7 (by kernel_rfl) (by kernel_rfl) (E9 A0 A0 (E9 A0 A0 (B7 (B6 A0 (.pure _ _ _ _) A0 (by omega) hv) A0 A0 (B7 (B3 A0 A0) A0 A0 (E9 A0 A0 (E9 A0 A0 (B7 (B6 A0 (.pure _ _ _ _) A0 (by omega) hv) A0 A0 (B7 (B3 A0 A0) A0 A0 (B7 (O2 A0 A0) A0 A0 (Q6 ?_)))))))))))))));refine k1 ?_;refine B1 rfl (fun ht=>?_) (fun ht=>?_)
  ·exact absurd rfl (A1 ht)
  refine k5 (k4 (k1 (A3 (A4 A0 A0 (E3 A0 A0 A0 (A7 A0 A0 (A5 ?_)))))));refine k1 ?_
  exact ⟨i+1,by omega,by omega,Sees.of ⟨le1 rfl,le1 rfl,le1 rfl,trivial⟩ trivial⟩
 ·refine k6 (k2 (A3 (A7 A0 A0 (A5 ?_))));refine k1 (k10 ?_)
  exact B8 (rs:=[H1 true]) (I1 rfl rfl rfl) rfl
abbrev needles:List Str:=[[97],[98],[97,98],[97,10],[10],[97,97],[122],[97,10,98]]
abbrev g0:Graph:=[⟨[],0,[⟨[120],[97,97]⟩]⟩]
set_option maxHeartbeats 2000000
abbrev rexF (A:AL.Auto) (x:Str × Str):Bool:=decide (0 < (D73 (B15 A) x.1 x.2).length)
theorem E29 {l:List File} (h:F1 l=0) (p:Str):M8 (B00 l p)=0:=by
 unfold B00
 cases hf:L7 l p with
 | none=>decide
 | some x =>
  obtain ⟨y,hy,_,rfl⟩:=A59 hf
  exact (A09 h).2.2.1 y hy
theorem H95:F1 []=0:=by decide
theorem E30 {g:Graph} (h:Valid g) (c:Nat):F1 (R4 g c)=0:=by
 unfold R4
 by_cases hc:c < g.length
 ·rw [L01 hc]
  exact h.tree _ (L05 hc)
 ·rw [L18 (by omega)];exact H95
theorem H96 {g:Graph} (h:Valid g) {c:Nat} {x:Str × Str} (hx:x∈(O4 g c).flatten):M8 x.1=0∧M8 x.2=0:=by
 obtain ⟨l,hl,hxl⟩:=List.mem_flatten.1 hx
 obtain ⟨t,ht,rfl⟩:=List.mem_map.1 hl
 obtain ⟨d,_,rfl⟩:=List.mem_map.1 hxl
 refine ⟨E29 ?_ _,E29 (E30 h c) _⟩
 unfold S3 at ht
 split at ht
 ·rw [List.mem_singleton.1 ht];exact H95
 ·obtain ⟨p,_,rfl⟩:=List.mem_map.1 ht
  exact E30 h _
theorem I94 (g:Graph) (s:Int) (p:Str) (A:AL.Auto) (hA:AG A) (hF:FewT g) (hS:Short g) (hc:FnOk Tryz.prog 14 [H7 p] (fun rs=>rs=[A24 A,E2 0])) :
  FnOk Tryz.prog 7 [K3 g,E2 s,H7 p] (fun rs=>rs=[K9 (Q5 (rexF A) g s).1,E2 (Q5 (rexF A) g s).2]):=by
 have hP:=C16 g s 15 Unit 2 (D44 A) () (rexF A) hF hS (fun hv c _ x hx=>by
  obtain ⟨h1,h2⟩:=H96 hv hx
  exact H94 A hA x.1 x.2 h1 h2)
 obtain ⟨R,hR⟩:∃R,R=Q5 (rexF A) g s:=⟨_,rfl⟩
 rw [←hR] at hP ⊢
 refine FnOk.intro Tryz.func7 (by decide) A0 A0 A0 A0 ?_
 refine k2 (A3 (A6 (H4 _ 1 F2) A0 (A7 A0 A0 (A5 ?_))));refine k1 (k2 (A3 (A4 A0 A0 (C9 (hc) A0 A0 A0 ?_))));rintro _ rfl;refine A4 A0 A0 (E8 A0 A0 A0 (E8 A0 A0 A0 (D1 (J1 8 A0) A0 (G1 (B9 TySz.out A0 A0 A0 A0 A0 A0) (A7 A0 A0 (A5 ?_))))));refine k1 (k2 (k2 (A3 (A4 A0 A0 (A6 (O2 A0 A0) A0 (A5 ?_))))));refine k1 ?_;refine B1 rfl (fun ht=>?_) (fun ht=>?_)
 ·cases ht
 refine k5 (k1 (k2 (D3 (K87 (t:=8) (k:=8) (cs:=[Cell.list AL.State 7 z6 A.States,Cell.v (.int .i64 A.Start)]) A0 A0 A0 A0) ?_)))
 refine A3 (A4 A0 A0 (A4 A0 A0 (A6 (A16 A0) A0 (A33 (hP) A0 A0 A0 A0 ?_))));rintro _ _ ⟨rfl,rfl⟩;refine ⟨rfl,?_⟩;refine E8 A0 A0 A0 (E8 A0 A0 A0 (A7 A0 A0 (A7 A0 A0 (A5 ?_))));refine k1 (k10 ?_)
 exact B8 (rs:=[K9 R.1,E2 R.2]) (a6 rfl rfl rfl rfl rfl) rfl
abbrev autoW:AL.Auto:=⟨[⟨4,⟨0,0,0,0⟩,0,0⟩,⟨3,⟨0,0,0,0⟩,0,0⟩,⟨1,⟨0,0,0,0⟩,3,1⟩,⟨0,⟨0,8589934592,0,0⟩,2,0⟩,⟨0,⟨0,8589934592,0,0⟩,2,0⟩,⟨2,⟨0,0,0,0⟩,4,0⟩],5⟩
abbrev bb:Str:=[97,97]
abbrev g1:Graph:=[⟨[],0,[⟨[120],bb⟩]⟩]
theorem I95:FewT g1:=⟨⟨by decide,by decide⟩,fun c hc=>by rw [List.mem_singleton.1 hc];exact ⟨by decide,by decide,by decide⟩⟩
theorem F34:Short g1:=fun c=>by
 unfold R4
 cases c with
 | zero=>decide
 | succ c=>simp
theorem scr_bb:E52 [] [bb]=[⟨0,0,0,1⟩]:=by
 unfold E52
 rw [show S5 (I9 [[],[bb]]) []=[] by kernel_rfl,show S5 (I9 [[],[bb]]) [bb]=[0] by kernel_rfl]
 unfold F47
 rw [Z7]
 rfl
theorem rex_bb:rexF autoW ([],bb)=true:=by
 show decide (0 < (j9 (B15 autoW) (I6 []) (I6 bb) (E52 (I6 []) (I6 bb))).length)=true
 rw [show I6 []=[] by kernel_rfl,show I6 bb=[bb] by kernel_rfl,scr_bb]
 kernel_rfl
theorem K00:Q5 (rexF autoW) g1 0=([0],0):=by
 have h0:X1 g1 0=([0],0):=by kernel_rfl
 have h1:O4 g1 0=[[([],bb)]]:=by kernel_rfl
 unfold Q5
 rw [h0,if_neg (fun e=>e rfl)]
 simp only [L46,List.filter_nil,n8,Int.toNat_zero,h1,List.any_cons,List.any_nil,rex_bb,Bool.or_false,if_true]
theorem lit1:X9 g1 0 [97]=([0],0):=by kernel_rfl
theorem cnt1:y8 g1 0 [97]=([2],0):=by kernel_rfl
set_option maxHeartbeats 1000000
theorem E31 (p:Str) (L:List AL.Node) (e:Int) (he:e≠0) (hp:FnOk Tryz.prog 26 [H7 p] (fun rs=>rs=[j2 L,E2 e])) :
  FnOk Tryz.prog 14 [H7 p] (fun rs=>rs=[A54,E2 e]):=by
 refine FnOk.intro Tryz.func14 (by decide) A0 A0 A0 A0 ?_
 refine k2 (A3 (D1 (J1 2 A0) A0 (A7 A0 A0 (A5 ?_))));refine k1 (k2 (A3 (A4 A0 A0 (C9 (hp) A0 A0 A0 ?_))));rintro _ rfl;refine A4 A0 A0 (E8 A0 A0 A0 (E8 A0 A0 A0 (A7 A0 A0 (A7 A0 A0 (A5 ?_)))));refine k1 (k2 (k2 (A3 (A4 A0 A0 (A6 (O2 A0 A0) A0 (A5 ?_))))));refine k1 ?_;refine B1 rfl (fun ht=>?_) (fun ht=>?_)
 rotate_left
 ·exact absurd he (A2 ht)
 refine k2 (A3 (A6 (K0 A0) A0 (A4 A0 A0 (G1 (B9 TySz.out A0 A0 A0 A0 A0 A0) (A7 A0 A0 (A5 ?_))))));refine k1 (k10 (k11 ?_))
 exact B8 (rs:=[A54,E2 e]) (E79 rfl rfl rfl rfl rfl rfl rfl) rfl
theorem H97 (p:Str) (L:List AL.Node) (hp:FnOk Tryz.prog 26 [H7 p] (fun rs=>rs=[j2 L,E2 0])) (hb:FnOk Tryz.prog 27 [j2 L] (fun rs=>rs=[A54,E2 1])) :
  FnOk Tryz.prog 14 [H7 p] (fun rs=>rs=[A54,E2 1]):=by
 refine FnOk.intro Tryz.func14 (by decide) A0 A0 A0 A0 ?_
 refine k2 (A3 (D1 (J1 2 A0) A0 (A7 A0 A0 (A5 ?_))));refine k1 (k2 (A3 (A4 A0 A0 (C9 (hp) A0 A0 A0 ?_))));rintro _ rfl;refine A4 A0 A0 (E8 A0 A0 A0 (E8 A0 A0 A0 (A7 A0 A0 (A7 A0 A0 (A5 ?_)))));refine k1 (k2 (k2 (A3 (A4 A0 A0 (A6 (O2 A0 A0) A0 (A5 ?_))))));refine k1 ?_;refine B1 rfl (fun ht=>?_) (fun ht=>?_)
 ·cases ht
 refine k5 (k1 (k2 (A3 (A4 A0 A0 (C9 (hb) A0 A0 A0 ?_)))));rintro _ rfl;refine E8 A0 A0 A0 (E8 A0 A0 A0 (G1 (B9 TySz.out A0 A0 A0 A0 A0 A0) (A7 A0 A0 (A5 ?_))));refine k1 (k10 ?_)
 exact B8 (rs:=[A54,E2 1]) (E79 rfl rfl rfl rfl rfl rfl rfl) rfl
theorem D03 (g:Graph) (s:Int) (p:Str) (e:Int) (he:e≠0) (hc:FnOk Tryz.prog 14 [H7 p] (fun rs=>rs=[A54,E2 e])) :
  FnOk Tryz.prog 7 [K3 g,E2 s,H7 p] (fun rs=>rs=[K9 [],E2 e]):=by
 refine FnOk.intro Tryz.func7 (by decide) A0 A0 A0 A0 ?_
 refine k2 (A3 (A6 (H4 _ 1 F2) A0 (A7 A0 A0 (A5 ?_))));refine k1 (k2 (A3 (A4 A0 A0 (C9 (hc) A0 A0 A0 ?_))));rintro _ rfl;refine A4 A0 A0 (E8 A0 A0 A0 (E8 A0 A0 A0 (D1 (J1 8 A0) A0 (G1 (B9 TySz.out A0 A0 A0 A0 A0 A0) (A7 A0 A0 (A5 ?_))))));refine k1 (k2 (k2 (A3 (A4 A0 A0 (A6 (O2 A0 A0) A0 (A5 ?_))))));refine k1 ?_;refine B1 rfl (fun ht=>?_) (fun ht=>?_)
 rotate_left
 ·exact absurd he (A2 ht)
 refine k2 (A3 (A4 A0 A0 (A6 (H4 _ 1 F2) A0 (A7 A0 A0 (A5 ?_)))));refine k1 (k10 (k11 ?_))
 exact B8 (rs:=[K9 [],E2 e]) (a6 rfl rfl rfl rfl rfl) rfl
theorem D45 (g:Graph) (s:Int) (f:FuncId) (α:Type) (ec:Nat) (cc:α→Nat→Cell) (v:α) (e:Int) (h:FewT g) (he:(X1 g s).2=e) (hn:e≠0) :
  AL.Met Tryz.prog 11 [.one (.p (.list Commit 3 H2 g)),R5 s,.one (.fncE f α ec cc v)] [] [] [] (fun rs ob'=>rs=[isS [],R5 e]∧ob'=[]):=by
 have ho:=G27 g s h
 rw [he] at ho
 refine AL.Met.intro Tryz.func11 (by decide) A0 A0 A0 ?_
 refine k2 (A3 (A7 A0 A0 (A7 A0 A0 (A5 ?_))));refine k1 (k2 (A3 (A4 A0 A0 (A4 A0 A0 (A6 (D7 (c:=F2) (ys:=[s]) (G6 A0 A0 A0 A0 I0) A0 A0 A0) A0 (C9 (ho) A0 A0 A0 ?_))))));rintro _ rfl;refine A4 A0 A0 (E8 A0 A0 A0 (E8 A0 A0 A0 (A7 A0 A0 (A7 A0 A0 (A5 ?_)))));refine k1 (k2 (k2 (A3 (A4 A0 A0 (A6 (O2 A0 A0) A0 (A5 ?_))))));refine k1 ?_;refine B1 rfl (fun ht=>?_) (fun ht=>?_)
 rotate_left
 ·exact absurd hn (A2 ht)
 refine k2 (A3 (A4 A0 A0 (A6 (H4 _ 1 F2) A0 (A7 A0 A0 (A5 ?_)))));refine k1 (k10 (k11 ?_))
 exact G7 (RetOk.s2 (a6 rfl rfl rfl rfl rfl)) (by repeat (first | exact A8 | refine A9 rfl ?_ | refine D4 _ ?_)) (ObIn.spec (ob':=[]) trivial) ⟨rfl,rfl⟩
theorem G35 {g:Graph} (hd:H3 g≠0) (s:Int):(X1 g s).2=H3 g:=by unfold X1;rw [if_pos hd]
theorem K01 {g:Graph} (hd:H3 g≠0) (c:Int):a8 g c=H3 g:=by unfold a8;rw [if_pos hd]
theorem H06 (g:Graph) (s:Int) (nd:Str) (h:FewT g) (h1:nd≠[]) (h2:nd.length≤256) (hd:H3 g≠0):FnOk Tryz.prog 6 [K3 g,E2 s,H7 nd] (fun rs=>rs=[K9 [],E2 (H3 g)]):=by
 obtain ⟨D,hD⟩:∃D,D=H3 g:=⟨_,rfl⟩
 have he:=G35 hd s
 rw [←hD] at he hd ⊢
 refine FnOk.intro Tryz.func6 (by decide) A0 A0 A0 A0 ?_
 refine k2 (A3 (A6 (n_boxE A0 A0) A0 (A6 (H4 _ 1 F2) A0 (A7 A0 A0 (A5 ?_)))));refine k1 (k2 (k3 (k2 (A3 (A6 (B3 A0 A0) A0 (A6 (O5 A0 A0) A0 (A7 A0 A0 (A5 ?_))))))));refine k1 ?_;refine B1 rfl (fun ht=>?_) (fun ht=>?_)
 ·exact absurd (A1 ht) h1
 refine k2 (A3 (A6 (B3 A0 A0) A0 (A6 (J7 A0) A0 (A6 (O1 A0 A0) A0 (A7 A0 A0 (A5 ?_))))));refine k1 ?_;refine B1 rfl (fun ht=>?_) (fun ht=>?_)
 ·have:=A1 ht
  omega
 refine k5 (k2 (A3 (A4 A0 A0 (A4 A0 A0 (A6 (A16 A0) A0 (A33 (D45 g s 12 Unit 1 (cE nd) () D h he hd) A0 A0 A0 A0 ?_))))));rintro _ _ ⟨rfl,rfl⟩;refine ⟨rfl,?_⟩;refine E8 A0 A0 A0 (E8 A0 A0 A0 (A7 A0 A0 (A7 A0 A0 (A5 ?_))));refine k1 (k10 ?_)
 exact B8 (rs:=[K9 [],E2 D]) (a6 rfl rfl rfl rfl rfl) rfl
theorem I96 (g:Graph) (s:Int) (p:Str) (A:AL.Auto) (h:FewT g) (hd:H3 g≠0) (hc:FnOk Tryz.prog 14 [H7 p] (fun rs=>rs=[A24 A,E2 0])) :
  FnOk Tryz.prog 7 [K3 g,E2 s,H7 p] (fun rs=>rs=[K9 [],E2 (H3 g)]):=by
 obtain ⟨D,hD⟩:∃D,D=H3 g:=⟨_,rfl⟩
 have he:=G35 hd s
 rw [←hD] at he hd ⊢
 refine FnOk.intro Tryz.func7 (by decide) A0 A0 A0 A0 ?_
 refine k2 (A3 (A6 (H4 _ 1 F2) A0 (A7 A0 A0 (A5 ?_))));refine k1 (k2 (A3 (A4 A0 A0 (C9 (hc) A0 A0 A0 ?_))));rintro _ rfl;refine A4 A0 A0 (E8 A0 A0 A0 (E8 A0 A0 A0 (D1 (J1 8 A0) A0 (G1 (B9 TySz.out A0 A0 A0 A0 A0 A0) (A7 A0 A0 (A5 ?_))))));refine k1 (k2 (k2 (A3 (A4 A0 A0 (A6 (O2 A0 A0) A0 (A5 ?_))))));refine k1 ?_;refine B1 rfl (fun ht=>?_) (fun ht=>?_)
 ·cases ht
 refine k5 (k1 (k2 (D3 (K87 (t:=8) (k:=8) (cs:=[Cell.list AL.State 7 z6 A.States,Cell.v (.int .i64 A.Start)]) A0 A0 A0 A0) ?_)))
 refine A3 (A4 A0 A0 (A4 A0 A0 (A6 (A16 A0) A0 (A33 (D45 g s 15 Unit 2 (D44 A) () D h he hd) A0 A0 A0 A0 ?_))));rintro _ _ ⟨rfl,rfl⟩;refine ⟨rfl,?_⟩;refine E8 A0 A0 A0 (E8 A0 A0 A0 (A7 A0 A0 (A7 A0 A0 (A5 ?_))));refine k1 (k10 ?_)
 exact B8 (rs:=[K9 [],E2 D]) (a6 rfl rfl rfl rfl rfl) rfl
theorem F35 (g:Graph) (s:Int) (p:Str) (A:AL.Auto) (hF:FewT g) (hS:Short g) (hno:∀c:Nat,c < g.length→(O4 g c).flatten=[]) (hc:FnOk Tryz.prog 14 [H7 p] (fun rs=>rs=[A24 A,E2 0])) :
  FnOk Tryz.prog 7 [K3 g,E2 s,H7 p] (fun rs=>rs=[K9 (Q5 (fun _=>false) g s).1,E2 (Q5 (fun _=>false) g s).2]):=by
 have hP:=C16 g s 15 Unit 2 (D44 A) () (fun _=>false) hF hS (fun _ c hc x hx=>by rw [hno c hc] at hx;cases hx)
 obtain ⟨R,hR⟩:∃R,R=Q5 (fun _=>false) g s:=⟨_,rfl⟩
 rw [←hR] at hP ⊢
 refine FnOk.intro Tryz.func7 (by decide) A0 A0 A0 A0 ?_
 refine k2 (A3 (A6 (H4 _ 1 F2) A0 (A7 A0 A0 (A5 ?_))));refine k1 (k2 (A3 (A4 A0 A0 (C9 (hc) A0 A0 A0 ?_))));rintro _ rfl;refine A4 A0 A0 (E8 A0 A0 A0 (E8 A0 A0 A0 (D1 (J1 8 A0) A0 (G1 (B9 TySz.out A0 A0 A0 A0 A0 A0) (A7 A0 A0 (A5 ?_))))));refine k1 (k2 (k2 (A3 (A4 A0 A0 (A6 (O2 A0 A0) A0 (A5 ?_))))));refine k1 ?_;refine B1 rfl (fun ht=>?_) (fun ht=>?_)
 ·cases ht
 refine k5 (k1 (k2 (D3 (K87 (t:=8) (k:=8) (cs:=[Cell.list AL.State 7 z6 A.States,Cell.v (.int .i64 A.Start)]) A0 A0 A0 A0) ?_)))
 refine A3 (A4 A0 A0 (A4 A0 A0 (A6 (A16 A0) A0 (A33 (hP) A0 A0 A0 A0 ?_))));rintro _ _ ⟨rfl,rfl⟩;refine ⟨rfl,?_⟩;refine E8 A0 A0 A0 (E8 A0 A0 A0 (A7 A0 A0 (A7 A0 A0 (A5 ?_))));refine k1 (k10 ?_)
 exact B8 (rs:=[K9 R.1,E2 R.2]) (a6 rfl rfl rfl rfl rfl) rfl
theorem I97 (g:Graph) (c:Int) (h:FewT g) (e:Int) (he:a8 g c=e) (hn:e≠0):FnOk Tryz.prog 20 [K3 g,E2 c] (fun rs=>rs=[.one (.list (List Delta) 1 c5 []),E2 e]):=by
 have hk:=F13 g c h
 rw [he] at hk
 refine FnOk.intro Tryz.func20 (by decide) A0 A0 A0 A0 ?_
 refine k2 (A3 (A7 A0 A0 (A7 A0 A0 (A5 ?_))));refine k1 (k2 (k2 (A3 (A4 A0 A0 (A4 A0 A0 (C9 (hk) A0 A0 A0 ?_))))));rintro _ rfl;refine A7 A0 A0 (A5 ?_);refine k1 (k2 (A3 (A4 A0 A0 (A6 (O2 A0 A0) A0 (A5 ?_)))));refine k1 ?_;refine B1 rfl (fun ht=>?_) (fun ht=>?_)
 rotate_left
 ·exact absurd hn (A2 ht)
 refine k2 (A3 (A4 A0 A0 (A6 (H4 _ 1 c5) A0 (A7 A0 A0 (A5 ?_)))));refine k1 (k10 (k11 ?_))
 exact B8 (rs:=[.one (.list (List Delta) 1 c5 []),E2 e]) (a6 rfl rfl rfl rfl rfl) rfl
theorem H98 (g:Graph) (c:Int) (nd:Str) (h:FewT g) (hd:H3 g≠0):FnOk Tryz.prog 9 [K3 g,E2 c,H7 nd] (fun rs=>rs=[K9 [],E2 (H3 g)]):=by
 obtain ⟨D,hD⟩:∃D,D=H3 g:=⟨_,rfl⟩
 have he:=K01 hd c
 rw [←hD] at he hd ⊢
 refine FnOk.intro Tryz.func9 (by decide) A0 A0 A0 A0 ?_
 refine k2 (A3 (A7 A0 A0 (A7 A0 A0 (A5 ?_))));refine k1 (k2 (k2 (A3 (A4 A0 A0 (A4 A0 A0 (C9 (I97 g c h D he hd) A0 A0 A0 ?_))))));rintro _ rfl;refine A4 A0 A0 (E8 A0 A0 A0 (E8 A0 A0 A0 (A7 A0 A0 (A7 A0 A0 (A5 ?_)))));refine k1 (k2 (A3 (A4 A0 A0 (A6 (O2 A0 A0) A0 (A5 ?_)))));refine k1 ?_;refine B1 rfl (fun ht=>?_) (fun ht=>?_)
 rotate_left
 ·exact absurd hd (A2 ht)
 refine k2 (A3 (A4 A0 A0 (A6 (H4 _ 1 F2) A0 (A7 A0 A0 (A5 ?_)))));refine k1 (k10 (k11 ?_))
 exact B8 (rs:=[K9 [],E2 D]) (a6 rfl rfl rfl rfl rfl) rfl
def qs (n:Nat):Str:=List.replicate n 113
theorem D04 (n:Nat):(qs n).length=n:=L24
theorem C18 (p:Str) (hp:p.length≤256) (h2:(parsed p).2=0) (hc:B25 (parsed p).1=0) (hk:((parsed p).1.all fun n=>decide (n.Kids.length≤4000))=true) (hw:decide (G88 (parsed p).1≤4000)=true)
  (hb:((U7 (parsed p).1 (Y1 (parsed p).1) 300 (((parsed p).1.length:Int) - 1) 0 [⟨4,⟨0,0,0,0⟩,0,0⟩]).map fun x=>decide (x.1.length≤20000))=some true) :
  ∃A,FnOk Tryz.prog 14 [H7 p] (fun rs=>rs=[A24 A,E2 0]):=by
 have hP:=B34 p (by omega)
 rw [h2] at hP
 obtain ⟨L,hL⟩:∃L,L=(parsed p).1:=⟨_,rfl⟩
 rw [←hL] at hP hc hk hw hb
 cases hx:U7 L (Y1 L) 300 ((L.length:Int) - 1) 0 [⟨4,⟨0,0,0,0⟩,0,0⟩] with
 | none=>rw [hx] at hb;cases hb
 | some x =>
  obtain ⟨st,r⟩:=x
  rw [hx] at hb
  exact ⟨⟨st,r⟩,E28 p L ⟨st,r⟩ hP (F25 L st r 300 hc (fun n hn=>A1 (List.all_eq_true.1 hk n hn)) (A1 hw) hx (A1 (Option.some.inj hb)))⟩
theorem H99 (n:Nat) (h:n=255∨n=256):∃A,FnOk Tryz.prog 14 [H7 (qs n)] (fun rs=>rs=[A24 A,E2 0]):=by
 rcases h with rfl | rfl
 ·exact C18 (qs 255) (by rw [D04];decide) (by kernel_rfl) (by kernel_rfl) (by kernel_rfl) (by kernel_rfl) (by kernel_rfl)
 ·exact C18 (qs 256) (by rw [D04];decide) (by kernel_rfl) (by kernel_rfl) (by kernel_rfl) (by kernel_rfl) (by kernel_rfl)
theorem K58:FnOk Tryz.prog 14 [H7 (qs 257)] (fun rs=>rs=[A54,E2 1]):=by
 have h:=B34 (qs 257) (by rw [D04];decide)
 rw [show parsed (qs 257)=([],1) by unfold parsed D69;rw [if_pos (by rw [D04];decide)]] at h
 exact E31 _ _ 1 (by decide) h
abbrev patB:Str:=[97,123,50,44,49,125]
abbrev patH:Str:=[40,40,97,123,49,48,48,125,41,123,49,48,48,125,41,123,49,48,48,125]
theorem K59:FnOk Tryz.prog 14 [H7 patB] (fun rs=>rs=[A54,E2 40]):=by
 have h:=B34 patB (by decide)
 rw [show parsed patB=([],40) by kernel_rfl] at h
 exact E31 _ _ 40 (by decide) h
abbrev I98:List AL.Node:=[⟨1,set0.with_ 97,0,0,[]⟩,⟨6,set0,100,100,[0]⟩,⟨6,set0,100,100,[1]⟩,⟨6,set0,100,100,[2]⟩]
theorem K60:FnOk Tryz.prog 14 [H7 patH] (fun rs=>rs=[A54,E2 1]):=by
 have h:=B34 patH (by decide)
 rw [show parsed patH=(I98,0) by kernel_rfl] at h
 exact H97 _ _ h (I82 I98 (by kernel_rfl) (by decide) (A1 (show decide (G88 I98 > 4000)=true by kernel_rfl)))
theorem K61:∃A,FnOk Tryz.prog 14 [H7 [97]] (fun rs=>rs=[A24 A,E2 0]) :=
 C18 [97] (by decide) (by kernel_rfl) (by kernel_rfl) (by kernel_rfl) (by kernel_rfl) (by kernel_rfl)
theorem I00:FnOk Tryz.prog 14 [H7 pat4] (fun rs=>rs=[A24 autoW,E2 0]):=by
 have h:=B34 pat4 (by decide)
 rw [show parsed pat4=(G89,0) by kernel_rfl] at h
 exact E28 pat4 G89 autoW h (F25 G89 autoW.States 5 20 (by kernel_rfl) (by decide) (by rw [show G88 G89=5 by kernel_rfl];decide) (by kernel_rfl) (by decide))
theorem D93:FnOk Tryz.prog 4 [] (fun rs=>rs=[H1 true]):=by
 have hL:=C17 g1 0 [97] I95 F34 (by decide)
 have hC:=I76 g1 0 [97] I95 F34 (by decide)
 have hR:=I94 g1 0 pat4 autoW (ag_of (by kernel_rfl)) I95 F34 I00
 rw [lit1] at hL
 rw [cnt1] at hC
 rw [K00] at hR
 refine FnOk.intro Tryz.func4 (by decide) A0 A0 A0 A0 ?_
 refine k2 (A3 (A7 A0 A0 (A5 ?_)));refine k1 (k2 (A3 (A6 (K0 A0) A0 (A6 (D7 (c:=d8) (ys:=[(⟨[120],[97,97]⟩:File)]) (G6 A0 A0 A0 A0 I0) A0 A0 A0) A0 (A6 (K0 A0) A0 (E80 ((K82 Int 1 F2 10 0 A0 A0)) (A6 (D7 (c:=H2) (ys:=g1) (G6 A0 A0 A0 A0 I0) A0 A0 A0) A0 (A7 A0 A0 (A5 ?_)))))))));refine k1 (k2 (A3 (A4 A0 A0 (C9 (hL) A0 A0 A0 ?_))));rintro _ rfl;refine A4 A0 A0 (E8 A0 A0 A0 (E8 A0 A0 A0 (A7 A0 A0 (A7 A0 A0 (A5 ?_)))));refine k1 (k2 (A3 (A4 A0 A0 (C9 (hR) A0 A0 A0 ?_))));rintro _ rfl;refine A4 A0 A0 (E8 A0 A0 A0 (E8 A0 A0 A0 (A7 A0 A0 (A7 A0 A0 (A5 ?_)))));refine k1 (k2 (A3 (A4 A0 A0 (C9 (hC) A0 A0 A0 ?_))));rintro _ rfl;refine A4 A0 A0 (E8 A0 A0 A0 (E8 A0 A0 A0 (A7 A0 A0 (A7 A0 A0 (A5 ?_)))));refine k1 (k2 (A3 (A4 A0 A0 (A6 (H0 A0 A0) A0 (A4 A0 A0 (G9 A0 A0 A0 A0 (A4 A0 A0 (G9 A0 A0 A0 A0 (A6 (H0 A0 A0) A0 (A6 (S9 A0 (rfl) A0) A0 (A4 A0 A0 (G9 A0 A0 A0 A0 (A4 A0 A0 (G9 A0 A0 A0 A0 (A6 (H0 A0 A0) A0 (A6 (S9 A0 (rfl) A0) A0 (A4 A0 A0 (G9 A0 A0 A0 A0 (A4 A0 A0 (G9 A0 A0 A0 A0 (A6 (D7 (c:=F2) (ys:=[(0:Int)]) (G6 A0 A0 A0 A0 I0) A0 A0 A0) A0 (G9 A0 A0 A0 A0 (C9 (D92 [0] (by decide)) A0 A0 A0 ?_)))))))))))))))))))))));rintro _ rfl;refine A6 (S9 A0 (rfl) A0) A0 (A4 A0 A0 (G9 A0 A0 A0 A0 (A4 A0 A0 (G9 A0 A0 A0 A0 (A6 (D7 (c:=F2) (ys:=[(0:Int)]) (G6 A0 A0 A0 A0 I0) A0 A0 A0) A0 (G9 A0 A0 A0 A0 (C9 (D92 [0] (by decide)) A0 A0 A0 ?_)))))));rintro _ rfl;refine A6 (S9 A0 (rfl) A0) A0 (A4 A0 A0 (G9 A0 A0 A0 A0 (A4 A0 A0 (G9 A0 A0 A0 A0 (A6 (D7 (c:=F2) (ys:=[(2:Int)]) (G6 A0 A0 A0 A0 I0) A0 A0 A0) A0 (G9 A0 A0 A0 A0 (C9 (D92 [2] (by decide)) A0 A0 A0 ?_)))))));rintro _ rfl;refine A6 (S9 A0 (rfl) A0) A0 (A7 A0 A0 (A5 ?_));refine k1 (k10 ?_)
 exact B8 (rs:=[H1 true]) (I1 rfl rfl rfl) rfl
set_option maxHeartbeats 1000000
abbrev one1:Graph:=[⟨[],0,[]⟩]
theorem E69:FewT one1:=⟨⟨by decide,by decide⟩,fun c hc=>by rw [List.mem_singleton.1 hc];exact ⟨by decide,(fun _ h=>by cases h),(fun _ h=>by cases h)⟩⟩
theorem C42:Short one1:=fun c=>by
 unfold R4
 cases c with
 | zero=>decide
 | succ c=>simp
theorem G36:∀c:Nat,c < one1.length→(O4 one1 c).flatten=[]:=fun c hc=>by
 have e:c=0:=by simp only [L04,L09] at hc;omega
 have h:(O4 one1 0).flatten=[]:=by kernel_rfl
 rw [e];exact h
theorem D05 (f:Str × Str→Bool):(Q5 f one1 0).2=0:=by
 have h0:X1 one1 0=([0],0):=by kernel_rfl
 unfold Q5
 rw [h0,if_neg (fun e=>e rfl)]
def qz (m i:Nat):Str:=List.replicate i 113++List.replicate (m - i) 0
theorem qz_len {m i:Nat} (h:i≤m):(qz m i).length=m:=by unfold qz;rw [L06,L24,L24];omega
theorem qz_set {m i:Nat} (h:i < m):(qz m i).set i 113=qz m (i+1):=by
 unfold qz
 obtain ⟨k,rfl⟩:∃k,m=i+1+k:=⟨m - i - 1,by omega⟩
 rw [show i+1+k - i=k+1 by omega,show i+1+k - (i+1)=k by omega,List.replicate_succ (n:=k),List.replicate_succ' (n:=i)]
 rw [List.set_append_right _ _ (by rw [L24];exact Nat.le_refl _),L24,L42,List.set_cons_zero,L15]
 rfl
theorem qz_all (m:Nat):qz m m=qs m:=by unfold qz qs;rw [L42,List.replicate_zero,L29]
def limW (m:Nat):Int:=if 256 < m then 1 else 0
theorem I01 (m:Nat) (h:255≤m):(X9 one1 0 (qs m)).2=limW m:=by
 have hl:=D04 m
 unfold X9 limW
 rw [if_neg (fun e=>by rw [e] at hl;simp at hl;omega),hl]
 split
 ·rfl
 ·exact D05 _
theorem K02 (m:Nat) (h:m=255∨m=256∨m=257):∃l,FnOk Tryz.prog 7 [K3 one1,E2 0,H7 (qs m)] (fun rs=>rs=[K9 l,E2 (limW m)]):=by
 rcases h with h | h | h
 ·subst h
  obtain ⟨A,hA⟩:=H99 255 (.inl rfl)
  have:=F35 one1 0 _ A E69 C42 G36 hA
  rw [D05] at this
  exact ⟨_,this⟩
 ·subst h
  obtain ⟨A,hA⟩:=H99 256 (.inr rfl)
  have:=F35 one1 0 _ A E69 C42 G36 hA
  rw [D05] at this
  exact ⟨_,this⟩
 ·subst h
  exact ⟨[],D03 one1 0 _ 1 (by decide) K58⟩
theorem F96 (g:Graph) (start n:Int) (hF:g.length≤5→FewT g):FnOk Tryz.prog 3 [K3 g,E2 start,E2 n] (fun rs=>rs=[H1 true]):=by
 have hkm:=H62 n (n:=3) (by omega)
 have hmod:=mod_ok n 3 (by omega) (by omega)
 obtain ⟨m,hm⟩:∃m:Nat,(255:Int)+G17 n 3=(m:Int):=⟨(255+G17 n 3).toNat,by omega⟩
 have hm3:m=255∨m=256∨m=257:=by omega
 have hL0:=C17 one1 0 [] E69 C42 (by decide)
 rw [show X9 one1 0 []=([],2) from rfl] at hL0
 have hL1:=C17 one1 0 (qs m) E69 C42 (by rw [D04];omega)
 rw [I01 m (by omega)] at hL1
 obtain ⟨rl,hR1⟩:=K02 m hm3
 have hR2:=D03 one1 0 _ 40 (by decide) K59
 have hR3:=D03 one1 0 _ 1 (by decide) K60
 obtain ⟨ll,hll⟩:∃ll,ll=(X9 one1 0 (qs m)).1:=⟨_,rfl⟩
 rw [←hll] at hL1
 obtain ⟨w,hw⟩:∃w,w=limW m:=⟨_,rfl⟩
 rw [←hw] at hL1 hR1
 refine FnOk.intro Tryz.func3 (by decide) A0 A0 A0 A0 ?_
 refine k2 (A3 (A7 A0 A0 (A5 ?_)));refine k1 (k2 (k2 (A3 (A4 A0 A0 (F4 A0 A0 (A6 (O1 A0 A0) A0 (A5 ?_)))))));refine k1 ?_;refine B1 rfl (fun ht=>?_) (fun ht=>?_)
 ·refine k2 (A3 (C9 (D93) A0 A0 A0 ?_));rintro _ rfl;refine A7 A0 A0 (A5 ?_);refine k1 (k10 (k11 ?_))
  exact B8 (rs:=[H1 true]) (I1 rfl rfl rfl) rfl
 have hg:=hF (by have:=A2 ht;omega)
 refine k5 (k1 (k2 (A3 (A4 A0 A0 (C9 (hmod) A0 A0 A0 ?_)))));rintro _ rfl;refine E3 A0 A0 A0 (D1 (A00 28 UInt8 u8C 0 A0 A0 (by omega) (by omega) (fun _=>by first | exact ⟨⟨rfl,rfl⟩,trivial⟩ | exact ⟨I4 _ _ _,trivial⟩ | exact ⟨I4 _ _ _,⟨rfl,rfl⟩,I4 _ _ _,trivial⟩) (by first | rfl | (simp [K4,L0,Ob.free,SV.free,S1.free,TC.free]<;>rfl))) A0 ?_);refine A7 A0 A0 (A5 ?_)
 rw [hm,L03]
 refine k1 (k2 (k2 (A3 (A7 A0 A0 (A5 ?_)))));refine k1 (k3 (D2 (X:=Nat) (fun i=>([(0,D6 Commit 3 H2 g),(1,C7 start),(7,.s (.one (.mut 28))),(8,C7 i)],[(28,.arr UInt8 1 u8C (qz m i))])) (fun i=>i≤m) (fun i=>m - i) 0 (Nat.zero_le _) (by rw [show qz m 0=List.replicate m 0 by unfold qz;rfl];exact (Sees.of ⟨le1 rfl,le1 rfl,le1 rfl,le1 rfl,trivial⟩ ⟨rfl,trivial⟩)) ?_))
 intro i hi
 dsimp only at hi ⊢
 have hql:=qz_len hi
 refine k2 (k2 (A3 (A4 A0 A0 (A4 A0 A0 (A6 (C35 A0 A0) A0 (F7 A0 A0 A0 (A5 ?_)))))));refine k1 ?_;refine B1 rfl (fun ht=>?_) (fun ht=>?_)
 ·have hlt:i < m:=by have h1:=A1 ht;(try dsimp only at h1);omega
  refine k5 (k1 (k2 (k3 ?_)))
  have hv:(qz m i)[((i:Nat):Int).toNat]?=some ((qz m i)[i]'(by rw [hql];exact hlt)):=L01 (by rw [hql];exact hlt)
  refine A3 (A4 A0 A0 (A4 A0 A0 (A6 (F9 A0 A0 A0 (by omega) (by (rw [hql];omega))) A0 ?_)));refine G1 (D23 (y:=(113:UInt8)) TySz.out A0 A0 hv A0 A0 A0 A0 (fun _ _ us h=>by first | exact s8 h | (match us,h with | [_,_,_],h=>exact ⟨h.1.2,h.2.1,h.2.2.1,trivial⟩)) (by intro j h1 h2;rcases j with _ | _ | _ | j<;>first | rfl | omega)) ?_;refine A5 ?_;refine k4 (k1 (A3 (A4 A0 A0 (E3 A0 A0 A0 (A7 A0 A0 (A5 ?_))))));refine k1 ?_;refine ⟨i+1,by omega,by omega,?_⟩
  rw [←qz_set hlt]
  exact (Sees.of ⟨le1 rfl,le1 rfl,le1 rfl,le1 rfl,trivial⟩ ⟨rfl,trivial⟩)
 have hie:i=m:=by have h1:=A2 ht;(try dsimp only at h1);omega
 rw [hie,qz_all]
 have hqm:=D04 m
 refine D3 (Sees.freeze (k:=28) A0) ?_
 refine D3 (fr':=[(0,D6 Commit 3 H2 g),(1,C7 start),(7,D6 UInt8 1 u8C (qs m))]) (ob':=[]) (Sees.of ⟨le1 rfl,le1 rfl,le1 rfl,trivial⟩ trivial) ?_
 refine k6 (k2 (A3 (A6 (K0 A0) A0 (E80 ((Sees.trans (K82 Int 1 F2 38 0 A0 A0) (K82 File 2 d8 38 2 A0 A0))) (A6 (D7 (c:=H2) (ys:=one1) (G6 A0 A0 A0 A0 I0) A0 A0 A0) A0 (A7 A0 A0 (A5 ?_)))))));refine k1 (k2 (A3 (A4 A0 A0 (C9 (hL0) A0 A0 A0 ?_))));rintro _ rfl;refine A4 A0 A0 (E8 A0 A0 A0 (E8 A0 A0 A0 (A7 A0 A0 (A7 A0 A0 (A5 ?_)))));refine k1 (k2 (A3 (A4 A0 A0 (A4 A0 A0 (A6 (B93 TyStr.out A0 (.pure _ _ _ _)) A0 (C9 (hL1) A0 A0 A0 ?_))))));rintro _ rfl;refine A4 A0 A0 (E8 A0 A0 A0 (E8 A0 A0 A0 (A7 A0 A0 (A7 A0 A0 (A5 ?_)))));refine k1 (k2 (A3 (A4 A0 A0 (A4 A0 A0 (A6 (B93 TyStr.out A0 (.pure _ _ _ _)) A0 (C9 (hR1) A0 A0 A0 ?_))))));rintro _ rfl;refine A4 A0 A0 (E8 A0 A0 A0 (E8 A0 A0 A0 (A7 A0 A0 (A7 A0 A0 (A5 ?_)))));refine k1 (k2 (A3 (A4 A0 A0 (C9 (hR2) A0 A0 A0 ?_))));rintro _ rfl;refine A4 A0 A0 (E8 A0 A0 A0 (E8 A0 A0 A0 (A7 A0 A0 (A7 A0 A0 (A5 ?_)))));refine k1 (k2 (A3 (A4 A0 A0 (C9 (hR3) A0 A0 A0 ?_))));rintro _ rfl;refine A4 A0 A0 (E8 A0 A0 A0 (E8 A0 A0 A0 (A7 A0 A0 (A7 A0 A0 (A5 ?_)))));refine k1 (k2 (A3 (A7 A0 A0 (A5 ?_))));refine k1 (k2 (k2 (A3 (A4 A0 A0 (F4 A0 A0 (A6 (O1 A0 A0) A0 (A5 ?_)))))));refine k1 ?_;refine A87 [(0,D6 Commit 3 H2 g),(1,C7 start),(11,C7 2),(13,C7 w),(15,C7 w),(17,C7 40),(19,C7 1),(20,C7 w)] [] ?_ ?_
 ·skip
  refine B1 rfl (fun ht=>?_) (fun ht=>?_)
  ·have hw1:w=1:=by have h1:=A1 ht;(try dsimp only at h1);rw [hw];unfold limW;rw [if_pos (by omega)]
   skip
   refine A3 (A7 A0 A0 (A5 ?_));refine k1 ?_
   rw [hw1]
   exact (Sees.of ⟨le1 rfl,le1 rfl,le1 rfl,le1 rfl,le1 rfl,le1 rfl,le1 rfl,le1 rfl,trivial⟩ trivial)
  ·have hw0:w=0:=by have h1:=A2 ht;(try dsimp only at h1);rw [hw];unfold limW;rw [if_neg (by omega)]
   refine k5 (k1 ?_)
   rw [hw0]
   exact (Sees.of ⟨le1 rfl,le1 rfl,le1 rfl,le1 rfl,le1 rfl,le1 rfl,le1 rfl,le1 rfl,trivial⟩ trivial)
 refine k2 (k2 (A3 (A4 A0 A0 (A6 (O2 A0 A0) A0 (A4 A0 A0 (G9 A0 A0 A0 A0 (A4 A0 A0 (G9 A0 A0 A0 A0 (A4 A0 A0 (G9 A0 A0 A0 A0 (A6 (O2 A0 A0) A0 (A6 (V5 A0 (rfl) A0) A0 (A4 A0 A0 (G9 A0 A0 A0 (decide_eq_false (fun h=>h A0)) (A4 A0 A0 (G9 A0 A0 A0 (decide_eq_false (fun h=>h A0)) (A4 A0 A0 (G9 A0 A0 A0 (decide_eq_false (fun h=>h A0)) (A6 (O2 A0 A0) A0 (A6 (V5 A0 ((decide_eq_false (fun h=>h A0))) A0) A0 (A4 A0 A0 (G9 A0 A0 A0 (decide_eq_false (fun h=>h A0)) (A4 A0 A0 ?_)))))))))))))))))))))));refine G9 A0 A0 A0 (decide_eq_false (fun h=>h A0)) (A6 (O2 A0 A0) A0 (A6 (V5 A0 ((decide_eq_false (fun h=>h A0))) A0) A0 (A4 A0 A0 (G9 A0 A0 A0 A0 (A4 A0 A0 (G9 A0 A0 A0 A0 (A6 (O2 A0 A0) A0 (A6 (V5 A0 (rfl) A0) A0 (A5 ?_)))))))));refine k1 ?_;refine B1 rfl (fun ht=>?_) (fun ht=>?_)
 ·cases ht
 refine k5 (k1 (k2 (k2 (A3 (A4 A0 A0 (C9 (J37 g hg) A0 A0 A0 ?_))))));rintro _ rfl;refine A6 (H0 A0 A0) A0 (A5 ?_);refine k1 ?_;refine B1 rfl (fun ht=>?_) (fun ht=>?_)
 ·refine k2 (A3 (C9 (D93) A0 A0 A0 ?_));rintro _ rfl;refine A7 A0 A0 (A5 ?_);refine k1 (k10 (k11 ?_))
  exact B8 (rs:=[H1 true]) (I1 rfl rfl rfl) rfl
 have hd:H3 g≠0:=A2 ht
 obtain ⟨A,hA⟩:=K61
 have hX1:=H06 g start [97] hg (by decide) (by decide) hd
 have hX2:=I96 g start [97] A hg hd hA
 have hX3:=H98 g start [97] hg hd
 have hX4:=J37 g hg
 obtain ⟨D,hD⟩:∃D,D=H3 g:=⟨_,rfl⟩
 rw [←hD] at hX1 hX2 hX3 hX4
 refine k5 (k1 (k2 (A3 (A4 A0 A0 (A4 A0 A0 (C9 (hX1) A0 A0 A0 ?_))))));rintro _ rfl;refine A4 A0 A0 (E8 A0 A0 A0 (E8 A0 A0 A0 (A7 A0 A0 (A5 ?_))));refine k1 (k2 (A3 (A4 A0 A0 (A4 A0 A0 (C9 (hX2) A0 A0 A0 ?_)))));rintro _ rfl;refine A4 A0 A0 (E8 A0 A0 A0 (E8 A0 A0 A0 (A7 A0 A0 (A5 ?_))));refine k1 (k2 (A3 (A4 A0 A0 (A4 A0 A0 (C9 (hX3) A0 A0 A0 ?_)))));rintro _ rfl;refine A4 A0 A0 (E8 A0 A0 A0 (E8 A0 A0 A0 (A7 A0 A0 (A5 ?_))));refine k1 (k2 (A3 (A4 A0 A0 (A4 A0 A0 (C9 (hX4) A0 A0 A0 ?_)))));rintro _ rfl;refine A6 (H0 A0 A0) A0 (A4 A0 A0 (G9 A0 A0 A0 (decide_eq_true A0) (A4 A0 A0 (G9 A0 A0 A0 (decide_eq_true A0) (A4 A0 A0 (G9 A0 A0 A0 (decide_eq_true A0) (A6 (H0 A0 A0) A0 (A6 (S9 A0 ((decide_eq_true A0)) A0) A0 (A4 A0 A0 (G9 A0 A0 A0 (decide_eq_true A0) (A4 A0 A0 (G9 A0 A0 A0 (decide_eq_true A0) (A4 A0 A0 (G9 A0 A0 A0 (decide_eq_true A0) (A6 (H0 A0 A0) A0 (A6 (S9 A0 ((decide_eq_true A0)) A0) A0 (A4 A0 A0 (G9 A0 A0 A0 (decide_eq_true A0) (C9 (D93) A0 A0 A0 ?_)))))))))))))))))));rintro _ rfl;refine A6 (S9 A0 ((decide_eq_true A0)) A0) A0 (A7 A0 A0 (A5 ?_));refine k1 (k10 ?_)
 exact B8 (rs:=[H1 true]) (I1 rfl rfl rfl) rfl
end Go.Proofs.YtjmoigcpoopjhaaGreatDoor
