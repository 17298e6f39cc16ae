/- Walks of the program's functions. -/
import Derived.Test.YtbiadkkamhpdnaaGreatDoorFc
import Derived.Test.YtbiadkkamhpdnaaGreatDoorFs
import Derived.Test.YtbiadkkamhpdnaaGreatDoorFb
import Derived.Test.YtbiadkkamhpdnaaGreatDoorFa
set_option linter.unusedSimpArgs false
namespace Go.Proofs.YtbiadkkamhpdnaaGreatDoor
open Go Go.AL
set_option maxRecDepth 100000
theorem B30 {gf:Fr} {ob:Obs} (l:List PatchLine) (k:UInt8) (ts:List Str) (hk:D4 ob 701=some (.spare l.length 2 36)) (hlen:l.length+ts.length≤1073741824) :
  AL.Met Tryz.prog 196 [.one (.buf 701 PatchLine 2 plineC l),.one (.p (.v (.int .u8 k.toNat))),.one (.p (.list Str 1 I0 ts))] gf ob [701]
   (fun rs ob'=>rs=[.one (.buf 701 PatchLine 2 plineC (l++P0 k ts))]∧ob'=(701,.spare (l++P0 k ts).length 2 36)::Obs.forget 701 ob):=by
 refine AL.Met.introH Tryz.func196 (by decide) rfl rfl rfl (fun hH=>?_)
 refine k2 (A2 (A7 Z Z (A4 ?_)));refine k1 (k2 (k2 (A2 (A3 Z Z (D9 Z Z (A3 Z Z (A4 ?_)))))));refine k1 (k3 ?_);refine D1 (X:=Nat) (fun i=>([(0,.s (.one (.buf 701 PatchLine 2 plineC (l++P0 k (ts.take i))))),(1,.s (pByte k).s1),(9,C4 Str 1 I0 ts),(10,B8 ts.length),(11,B8 i)]++Fr.forget 701 gf,(701,.spare (l++P0 k (ts.take i)).length 2 36)::Obs.forget 701 ob)) (fun i=>i≤ts.length) (fun i=>ts.length - i) 0 (Nat.zero_le _) ?_ ?_
 ·have e:l++P0 k (ts.take 0)=l:=by simp [P0]
  rw [e]
  exact J77 701 ⟨le1 rfl,le1 rfl,le1 rfl,le1 rfl,le1 rfl,trivial⟩ hH (by repeat (first | exact H2 | refine G8 rfl ?_)) hk
 intro i hi
 dsimp only at hi ⊢
 have hpl:=A14 k (ts.take i)
 rw [K03] at hpl
 refine k2 (A2 (E1 Z Z Z (A4 ?_)));refine k1 (k2 ?_);refine B3 rfl (fun ht=>?_) (fun ht=>?_)
 ·have hlt:i < ts.length:=by have:=A0 ht;omega
  have hv:ts[i]?=some ts[i]:=by simp [hlt]
  have hsucc:=E83 k ts i hlt
  refine k5 (k1 (k2 (k3 (k2 (A2 (A6 (A8 Z (.pure _ _ _ _) Z (by omega) hv) Z (A6 (B1 Z Z) Z (A7 Z Z (A4 ?_)))))))));refine k1 (A2 (A3 Z Z (A3 Z Z (A3 Z Z (A6 (E6 Z) Z (A6 (C9 (c:=plineC) (ys:=[⟨k,ts[i]⟩]) (D8 Z Z Z Z F1) Z Z Z) Z (C0 (F8 Z Z Z (.pure _ _ _ _) (by (simp only [J86,J87,J89];omega)) Z) Z (A7 Z Z (A4 ?_)))))))));refine k4 (k1 (A2 (C7 Z Z Z (A3 Z Z (A4 ?_)))));refine k1 ?_;refine ⟨i+1,hlt,by omega,?_⟩
  rw [hsucc,←K01]
  exact J63 ⟨le1 rfl,le1 rfl,le1 rfl,le1 rfl,le1 rfl,trivial⟩ (W6 hH) (by repeat (first | exact H2 | refine G8 rfl ?_ | refine R9 _ ?_)) G54
 ·have hi':i=ts.length:=by have:=A1 ht;omega
  subst hi'
  rw [J98]
  refine k6 (k2 (A2 (A3 Z Z (A7 Z Z (A4 ?_)))));refine k1 (k10 ?_)
  exact S7 (A64 rfl rfl) (by repeat (first | exact H2 | refine G8 rfl ?_ | refine J4 _ ?_)) (fun _ _ h=>h) ⟨rfl,rfl⟩
theorem I57 (l:List Change) (x y:List Str) (q:Hunk) (hsc:ScOk 0 0 l x.length y.length) (hq:H77 l x.length l.length q) (hxl:x.length≤4096) (hyl:y.length≤4096) (hll:l.length≤4097) :
  FnOk Tryz.prog 133 [pHunk q,pChanges l,Z9 x,Z9 y] (fun rs=>rs=[pPhunk (K1 l x y q)]):=by
 obtain ⟨a,b,q1,q2,q3,q4,q5,q6,q7,q8,q9,q10⟩:=hq
 have hgb:=hsc.get b q4
 obtain ⟨ds,hds⟩:∃ds,ds=(l.drop a).take (b+1 - a):=⟨_,rfl⟩
 have hdl:ds.length=b+1 - a:=by rw [hds,K03,K08];omega
 have hdv:∀t,a+t≤b→ds[t]?=some (cAt l (a+t)):=by
  intro t ht
  rw [hds,K05 (by omega),K12]
  exact X9 (by omega)
 have hslice:(l.drop q.First.toNat).take (q.Last.toNat - q.First.toNat)=ds:=by
  rw [hds,q1,q2,show ((b:Int)+1).toNat=b+1 by omega,show ((a:Nat):Int).toNat=a by omega]
 refine FnOk.intro Tryz.func133 (by decide) Z Z Z Z ?_
 refine k2 (A2 (C0 (M2 4 Z Z Z) Z (C0 (F4 8 Z) Z (A4 ?_))));refine k1 (k2 (A2 (A6 (A5 Z) Z (A6 (A5 Z) Z (D3 Z Z Z Z (A6 (A5 Z) Z (A6 (A5 Z) Z (D3 Z Z Z Z (A6 (E6 Z) Z (C0 (F4 9 Z) Z (E2 (B6 TySz.out Z Z Z Z Z Z) (A4 ?_))))))))))));refine k1 (k2 (G4 (J61 701 PatchLine 2 plineC 36 (kb:=9) (o:=2) Z Z Z) ?_))
 refine A2 (A6 (A5 Z) Z (A6 (A5 Z) Z (D3 Z Z Z Z (A7 Z Z (A4 ?_)))));refine k1 (k2 (k2 (A2 (A3 Z Z (A6 (A5 Z) Z (D3 Z Z Z Z (A6 (A5 Z) Z (D3 Z Z Z Z (A6 (T6 Z (.pure _ _ _ _) Z Z (by (first | (rw [q1];omega) | (rw [q1,q2];omega) | (rw [q2];omega))) (by (first | (rw [q1];omega) | (rw [q1,q2];omega) | (rw [q2];omega))) (by (first | (rw [q1];omega) | (rw [q1,q2];omega) | (rw [q2];omega)))) Z ?_)))))))));refine D9 Z Z (A3 Z Z (A4 ?_))
 rw [hslice]
 refine k1 (k3 ?_);refine D1 (X:=Nat) (fun t=>([(2,C4 Str 1 I0 x),(3,C4 Str 1 I0 y),(4,.s (.one (.ref 4 0))),(8,.s (.one (.ref 8 0))),(9,.s (.one (.ref 9 0))),(10,B8 (W9 l q.Old.From a t)),(28,C4 Change 4 changeC ds),(29,B8 ds.length),(30,B8 t)],[(4,.box (pHunk q).s1.cells),(8,.box [.p (.v (.int .i64 0)),.p (.v (.int .i64 0)),.p (.v (.slice none 0 0))]),(9,.box [.p (.v (.int .i64 q.Old.From)),.p (.v (.int .i64 q.New.From)),.buf 701 PatchLine 2 plineC (R5 l x y q.Old.From a t)]),(701,.spare (R5 l x y q.Old.From a t).length 2 36)])) (fun t=>a+t≤b+1) (fun t=>b+1 - t) 0 (by omega) ?_ ?_
 ·have e1:W9 l q.Old.From a 0=q.Old.From:=if_pos rfl
  rw [e1]
  exact J58 ⟨le1 rfl,le1 rfl,le1 rfl,le1 rfl,le1 rfl,le1 rfl,le1 rfl,le1 rfl,le1 rfl,trivial⟩ ⟨rfl,rfl,rfl,rfl,trivial⟩
 intro t hat
 dsimp only at hat ⊢
 have hml:=E84 l x y q.Old.From a t
 have hml2:(R5 l x y q.Old.From a t).length≤4097*12288:=Nat.le_trans hml (Nat.mul_le_mul (by omega) (by omega))
 refine k2 (A2 (E1 Z Z Z (A4 ?_)));refine k1 (k2 ?_);refine B3 rfl (fun ht=>?_) (fun ht=>?_)
 ·have hlt2:a+t≤b:=by have:((t:Nat):Int) < ds.length:=A0 ht;omega
  obtain ⟨c,hc⟩:∃c,c=cAt l (a+t):=⟨_,rfl⟩
  have hcv:=hdv t hlt2
  rw [←hc] at hcv
  have hgc:=hsc.get (a+t) (by omega)
  rw [←hc] at hgc
  obtain ⟨⟨g1,g2⟩,⟨g3,g4⟩,⟨g5,g6⟩,⟨g7,g8⟩,g9,g10⟩:=hgc
  obtain ⟨i0,hi0⟩:∃i0,i0=W9 l q.Old.From a t:=⟨_,rfl⟩
  have hpos:0≤i0∧i0≤c.Old:=by
   rw [hi0,hc];unfold W9 Z5
   split
   ·rename_i h0;subst h0;exact ⟨q5,q6⟩
   ·have h4:=hsc.next (a+t - 1) (by omega)
    have h5:=hsc.get (a+t - 1) (by omega)
    rw [show a+t - 1+1=a+t by omega] at h4
    unfold H7 at h5;omega
  obtain ⟨ls,hls⟩:∃ls,ls=R5 l x y q.Old.From a t:=⟨_,rfl⟩
  obtain ⟨p1,hp1⟩:∃p1,p1=P0 32 (sub x i0 c.Old):=⟨_,rfl⟩
  obtain ⟨p2,hp2⟩:∃p2,p2=P0 45 (sub x c.Old (Z5 c)):=⟨_,rfl⟩
  obtain ⟨p3,hp3⟩:∃p3,p3=P0 43 (sub y c.New (c.New+c.NewLen)):=⟨_,rfl⟩
  have hsucc:R5 l x y q.Old.From a (t+1)=ls++p1++p2++p3:=by rw [hls,hp1,hp2,hp3,hi0,hc];rfl
  have hps:W9 l q.Old.From a (t+1)=Z5 c:=by rw [C75,hc]
  have l1:=y7 x i0 c.Old
  have l2:=y7 x c.Old (Z5 c)
  have l3:=y7 y c.New (c.New+c.NewLen)
  have m1:p1.length=(sub x i0 c.Old).length:=by rw [hp1,A14]
  have m2:p2.length=(sub x c.Old (Z5 c)).length:=by rw [hp2,A14]
  have hend:Z5 c=c.Old+c.OldLen:=rfl
  rw [←hls] at hml2 ⊢
  rw [←hi0]
  refine k5 (k1 (k2 (k3 (k2 (A2 (A6 (A8 Z (.pure _ _ _ _) Z (by omega) hcv) Z (A6 (C8 Z Z) Z (C0 (F4 12 Z) Z (E2 (B6 TySz.out Z Z Z Z Z Z) (A4 ?_))))))))));refine k1 (k2 (M3 7 (by kernel_rfl) (by kernel_rfl) Z (A9 (A5 Z) Z Z (A9 (B2 Z Z Z) Z Z (C3 Z Z (C3 Z Z (A9 (A5 Z) Z Z (A9 (B2 Z Z Z) Z Z (A9 (T6 Z (.pure _ _ _ _) Z Z (by omega) (by omega) (by omega)) Z Z (G5 ?_))))))))));refine j9 (B30 ls 32 (sub x i0 c.Old) Z (by omega)) Z Z Z ?_;rintro _ _ ⟨rfl,rfl⟩;refine ⟨_,rfl,?_⟩;refine A9 (A5 Z) Z Z (o6 (B6 TySz.out Z Z Z Z Z Z) Z (G5 ?_))
  rw [←hp1]
  refine k1 (k2 (A2 (A6 (A5 Z) Z (D3 Z Z Z Z (A6 (A5 Z) Z (D3 Z Z Z Z (C7 Z Z Z (A7 Z Z (A4 ?_)))))))))
  rw [show c.Old+c.OldLen=Z5 c from rfl]
  refine k1 (k2 (M3 7 (by kernel_rfl) (by kernel_rfl) Z (A9 (A5 Z) Z Z (A9 (B2 Z Z Z) Z Z (C3 Z Z (A9 (A5 Z) Z Z (A9 (B2 Z Z Z) Z Z (C3 Z Z (A9 (T6 Z (.pure _ _ _ _) Z Z (by omega) (by omega) (by omega)) Z Z (G5 ?_))))))))));refine j9 (B30 (ls++p1) 45 (sub x c.Old (Z5 c)) Z (by simp only [J86];omega)) Z Z Z ?_;rintro _ _ ⟨rfl,rfl⟩;refine ⟨_,rfl,?_⟩;refine A9 (A5 Z) Z Z (o6 (B6 TySz.out Z Z Z Z Z Z) Z (G5 ?_))
  rw [←hp2]
  refine k1 (M3 11 (by kernel_rfl) (by kernel_rfl) Z (A9 (A5 Z) Z Z (A9 (B2 Z Z Z) Z Z (C3 Z Z (A9 (A5 Z) Z Z (A9 (B2 Z Z Z) Z Z (A9 (A5 Z) Z Z (A9 (B2 Z Z Z) Z Z (A9 (A5 Z) Z Z (A9 (B2 Z Z Z) Z Z (A9 (L4 Z Z (by omega)) Z Z (A9 (T6 Z (.pure _ _ _ _) Z Z (by omega) (by omega) (by omega)) Z Z (G5 ?_)))))))))))));refine j9 (B30 (ls++p1++p2) 43 (sub y c.New (c.New+c.NewLen)) Z (by simp only [J86];omega)) Z Z Z ?_;rintro _ _ ⟨rfl,rfl⟩;refine ⟨_,rfl,?_⟩;refine A9 (A5 Z) Z Z (o6 (B6 TySz.out Z Z Z Z Z Z) Z (G5 ?_))
  rw [←hp3]
  refine k4 (k1 (A2 (C7 Z Z Z (A3 Z Z (A4 ?_)))));refine k1 ?_;refine ⟨t+1,by omega,by omega,?_⟩
  rw [hsucc,hps]
  exact J58 ⟨le1 rfl,le1 rfl,le1 rfl,le1 rfl,le1 rfl,le1 rfl,le1 rfl,le1 rfl,le1 rfl,trivial⟩ ⟨rfl,rfl,rfl,rfl,trivial⟩
 ·have htb:a+t=b+1:=by
   have h0:¬((t:Nat):Int) < ds.length:=A1 ht
   omega
  obtain ⟨i0,hi0⟩:∃i0,i0=W9 l q.Old.From a t:=⟨_,rfl⟩
  have hib:i0=(cAt l b).Old+(cAt l b).OldLen:=by
   rw [hi0];unfold W9 Z5
   rw [if_neg (by omega),show a+t - 1=b by omega]
  unfold H7 at hgb
  obtain ⟨ls,hls⟩:∃ls,ls=R5 l x y q.Old.From a t:=⟨_,rfl⟩
  have hG:K1 l x y q=⟨q.Old.From,q.New.From,ls++P0 32 (sub x i0 q.Old.To)⟩:=by
   rw [K1,q1,q2,show ((a:Nat):Int).toNat=a by omega,show ((b:Int)+1).toNat - a=t by omega,←hls,←hi0]
  have l1:=y7 x i0 q.Old.To
  rw [←hls] at hml2 ⊢
  rw [←hi0]
  refine k6 (k2 (M3 8 (by kernel_rfl) (by kernel_rfl) Z (A9 (A5 Z) Z Z (A9 (B2 Z Z Z) Z Z (C3 Z Z (C3 Z Z (A9 (A5 Z) Z Z (A9 (A5 Z) Z Z (A9 (B2 Z Z Z) Z Z (A9 (T6 Z (.pure _ _ _ _) Z Z (by omega) (by omega) (by omega)) Z Z (G5 ?_)))))))))));refine j9 (B30 ls 32 (sub x i0 q.Old.To) Z (by omega)) Z Z Z ?_;rintro _ _ ⟨rfl,rfl⟩;refine ⟨_,rfl,?_⟩;refine A9 (A5 Z) Z Z (o6 (B6 TySz.out Z Z Z Z Z Z) Z (G5 ?_));refine k1 (k2 (A2 (A6 (C6 Z Z Z) Z (E2 (B6 TySz.out Z Z Z Z Z Z) (A4 ?_)))));refine k1 (k10 ?_)
  exact B4 (rs:=[pPhunk (K1 l x y q)]) (by rw [hG];exact retc rfl rfl rfl rfl rfl) rfl
set_option maxHeartbeats 1000000
theorem tid_old {gf:Fr} {ob:Obs} (names:List Str) (s:Str) (hs:s∈names) (h0:D4 ob 710=some (.box [.mut 711,.buf 712 Str 1 I0 names])) (h1:D4 ob 711=some (.map Str B66 (A55 names 0))) :
  AL.Met Tryz.prog 218 [.one (.ref 710 0),.one (.p (.v (.string ⟨s.toArray⟩)))] gf ob [] (fun rs ob'=>rs=[.one (.p (.v (.int .i64 (J6 names s 0))))]∧ob'=ob):=by
 have hg:=F84 s names 0 hs
 refine AL.Met.intro Tryz.func218 (by decide) Z Z Z ?_
 refine k2 (A2 (A7 Z Z (A4 ?_)));refine k1 (k2 (A2 (A3 Z Z (A6 (E8 Z) Z (A6 (A5 Z) Z (A6 (B2 Z h0 Z) Z (A3 Z Z (A6 (G62 (s) (r:=some (.v (.int .i64 (J6 names s 0)))) Z h1 Z E49 E50 (hg)) Z (A3 Z Z (F5 Z Z Z (F5 Z Z Z (A7 Z Z (A7 Z Z (A4 ?_))))))))))))));refine k1 (k2 (k2 (A2 (A3 Z Z (L7 Z Z (A4 ?_))))));refine k1 ?_;refine B3 rfl (fun ht=>?_) (fun ht=>?_)
 ·cases ht
 refine k5 (k1 (k2 (A2 (A3 Z Z (A7 Z Z (A4 ?_))))));refine k1 (k10 ?_)
 exact S7 (A64 rfl rfl) (by repeat (first | exact H2 | refine G8 rfl ?_ | refine J4 _ ?_)) (fun _ _ h=>h) ⟨rfl,rfl⟩
theorem tid_new {gf:Fr} {ob:Obs} (names:List Str) (s:Str) (hs:s∉names) (hl:names.length≤1073741823) (h0:D4 ob 710=some (.box [.mut 711,.buf 712 Str 1 I0 names])) (h1:D4 ob 711=some (.map Str B66 (A55 names 0)))
  (h2:D4 ob 712=some (.spare names.length 1 9)) :
  AL.Met Tryz.prog 218 [.one (.ref 710 0),.one (.p (.v (.string ⟨s.toArray⟩)))] gf ob [712] (fun rs ob'=>rs=[.one (.p (.v (.int .i64 names.length)))]∧ob'=(710,.box [.mut 711,.buf 712 Str 1 I0 (names++[s])])::(712,.spare (names++[s]).length 1 9)::Obs.forget 712 ((711,.map Str B66 (A55 names 0++[(s,.v (.int .i64 names.length))]))::ob)):=by
 have hg:=E97 s names 0 hs
 refine AL.Met.intro Tryz.func218 (by decide) Z Z Z ?_
 refine k2 (A2 (A7 Z Z (A4 ?_)));refine k1 (k2 (A2 (A3 Z Z (A6 (E8 Z) Z (A6 (A5 Z) Z (A6 (B2 Z h0 Z) Z (A3 Z Z (A6 (G62 (s) (r:=none) Z h1 Z E49 E50 (hg)) Z (A3 Z Z (F5 Z Z Z (F5 Z Z Z (A7 Z Z (A7 Z Z (A4 ?_))))))))))))));refine k1 (k2 (k2 (A2 (A3 Z Z (L7 Z Z (A4 ?_))))));refine k1 ?_;refine B3 rfl (fun ht=>?_) (fun ht=>?_)
 ·refine k2 (A2 (A3 Z Z (A6 (E8 Z) Z (A6 (A5 Z) Z (A6 (B2 Z h0 Z) Z (A6 (O8 Z (.buf _ _ _ _ _)) Z (A7 Z Z (A4 ?_))))))));refine k1 (k2 (A2 (A3 Z Z (A6 (E8 Z) Z (A6 (A5 Z) Z (A6 (B2 Z h0 Z) Z (A3 Z Z (A3 Z Z (E2 (J15 (s) Z h1 Z Z Z E49 E50 (hg)) (A4 ?_))))))))));refine k1 ?_
  have h0':D4 ((711,Ob.map Str B66 (A55 names 0++[(s,.v (.int .i64 names.length))]))::ob) 710=some (.box [.mut 711,.buf 712 Str 1 I0 names]):=by rw [B7 (by decide)];exact h0
  have h2':D4 ((711,Ob.map Str B66 (A55 names 0++[(s,.v (.int .i64 names.length))]))::ob) 712=some (.spare names.length 1 9):=by rw [B7 (by decide)];exact h2
  have h0'':D4 ((712,Ob.spare (names++[s]).length 1 9)::Obs.forget 712 ((711,Ob.map Str B66 (A55 names 0++[(s,.v (.int .i64 names.length))]))::ob)) 710=some (.box [.mut 711,.p (.list Str 1 I0 names)]):=by
   rw [B7 (by decide),Q0,h0'];rfl
  refine A2 (A3 Z Z (A3 Z Z (A6 (E8 Z) Z (A6 (A5 Z) Z (A6 (B2 Z h0' Z) Z (A3 Z Z (A6 (C9 (c:=I0) (ys:=[s]) (D8 Z Z Z Z F1) Z Z Z) Z (C0 (F8 Z h2' Z (.pure _ _ _ _) (by (simp only [J87,J89];omega)) Z) Z (A6 (E8 Z) Z (A6 (A5 Z) Z (E2 (B6 TySz.out Z h0'' Z Z Z Z) (A4 ?_))))))))))));refine k1 (k2 (A2 (A3 Z Z (A7 Z Z (A4 ?_)))));refine k1 (k10 ?_)
  exact S7 (A64 rfl rfl) (by repeat (first | exact H2 | refine G8 rfl ?_ | refine J4 _ ?_)) (fun _ _ h=>h) ⟨rfl,rfl⟩
 ·cases ht
theorem H57 (files:List (List Str)) (i m:Nat):(Q4 files i).all (TC.free m)=true:=by
 rw [List.all_eq_true]
 intro t ht
 unfold Q4 at ht
 obtain ⟨r,_,rfl⟩:=List.mem_map.1 ht
 split<;>rfl
theorem I58 {files:List (List Str)} {i:Nat} (b x:TC) (m:Nat):(((Q4 files i).set i b).map (TC.forget m)).set i x=(Q4 files i).set i x:=by
 have e1:(Q4 files i).map (TC.forget m)=Q4 files i:=by
  unfold Q4
  rw [K27]
  apply List.map_congr_left
  intro r _
  simp only [Function.comp]
  split<;>rfl
 rw [List.map_set,e1,List.set_set]
theorem H58 {files:List (List Str)} {i:Nat} (b x:TC) (m m':Nat):((((Q4 files i).set i b).map (TC.forget m)).map (TC.forget m')).set i x=(Q4 files i).set i x:=by
 have e1:∀m,(Q4 files i).map (TC.forget m)=Q4 files i:=by
  intro m
  unfold Q4
  rw [K27]
  apply List.map_congr_left
  intro r _
  simp only [Function.comp]
  split<;>rfl
 rw [List.map_set,e1,List.map_set,e1,List.set_set]
theorem I59 (files:List (List Str)) (hn:files.length≤1048576) (hl:files.flatten.length≤536870911):FnOk Tryz.prog 175 [pStrss files] (fun rs=>rs=[pIntss (files.map (F0 (D2 files))),Z9 (D2 files)]):=by
 refine FnOk.intro Tryz.func175 (by decide) Z Z Z Z ?_
 refine k2 (A2 (A7 Z Z (A7 Z Z (A4 ?_))));refine k1 (k2 (A2 (C0 (I45 711 Str B66 Z) Z (A6 (E6 Z) Z (C0 (M2 710 Z Z Z) Z (A7 Z Z (A4 ?_)))))));refine k1 (k2 (G4 (J61 712 Str 1 I0 9 (kb:=710) (o:=1) Z Z Z) ?_))
 refine A2 (A3 Z Z (D9 Z Z (C0 (p7 20 Unit (fun _ _=>.v (.slice none 0 0)) () Z Z (by omega) (by omega) (fun _=>by first | exact ⟨⟨rfl,rfl⟩,trivial⟩ | exact ⟨Q5 _ _ _,trivial⟩) (by first | rfl | (simp [I1,J8,Ob.free,SV.free,S1.free,TC.free]<;>rfl))) Z ?_)));refine A7 Z Z (A4 ?_);refine k1 (k2 (k2 (G4 (J74 20 Z) ?_)))
 have hz:((List.replicate ((files.length:Nat):Int).toNat ()).map fun x=>TC.p ((fun (_:Unit) (_:Nat)=>Cell.v (.slice none 0 0)) x 0))=Q4 files 0:=by
  rw [J97,←H81];simp
 have hz2:(List.replicate ((files.length:Nat):Int).toNat ()).length=files.length:=by simp
 rw [hz,hz2]
 refine A2 (A3 Z Z (D9 Z Z (A3 Z Z (A4 ?_))));refine k1 (k3 ?_);refine D1 (X:=Nat) (fun i=>([(4,.s (.one (.ref 710 0))),(5,.s (.one (.mut 20))),(16,C4 (List Str) 1 strsC files),(17,B8 files.length),(18,B8 i)],[(710,.box [.mut 711,.buf 712 Str 1 I0 (O6 files i 0)]),(711,.map Str B66 (A55 (O6 files i 0) 0)),(712,.spare (O6 files i 0).length 1 9),(20,.tarr files.length 1 (Q4 files i))])) (fun i=>i≤files.length) (fun i=>files.length - i) 0 (Nat.zero_le _) ?_ ?_
 ·rw [show O6 files 0 0=[] from rfl]
  exact J58 ⟨le1 rfl,le1 rfl,le1 rfl,le1 rfl,le1 rfl,trivial⟩ ⟨rfl,rfl,rfl,rfl,trivial⟩
 intro i hi
 dsimp only at hi ⊢
 refine k2 (A2 (E1 Z Z Z (A4 ?_)));refine k1 (k2 ?_);refine B3 rfl (fun ht=>?_) (fun ht=>?_)
 ·have hlt:i < files.length:=by have:=A0 ht;omega
  obtain ⟨f,hf⟩:∃f,f=files.getD i []:=⟨_,rfl⟩
  have hv:files[i]?=some f:=by rw [hf];simp [hlt]
  have hfl:f.length≤files.flatten.length:=by
   have h1:f∈files:=K02 hv
   have:∀(fs:List (List Str)),f∈fs→f.length≤fs.flatten.length:=by
    intro fs
    induction fs with
    | nil=>intro h;simp at h
    | cons x r ih =>
     intro h
     simp only [J99,J86]
     rcases List.mem_cons.1 h with rfl | h
     ·omega
     ·have:=ih h;omega
   exact this files h1
  have hrl:(Q4 files i).length=files.length:=by simp [Q4]
  refine k5 (k1 (k2 (k3 (k2 (A2 (A3 Z Z (A6 (A8 Z (.pure _ _ _ _) Z (by omega) hv) Z (A6 (B1 Z Z) Z (A7 Z Z (A7 Z Z (A4 ?_)))))))))));refine k1 (k2 (A2 (A3 Z Z (D9 Z Z (A3 Z Z (A4 ?_))))));refine k1 (k3 (G4 (J85 713 Int 1 H4 3 (kb:=20) (o:=i) Z (J01 hlt) (by simp [I1,J8,Ob.free,SV.free,S1.free,TC.free,H57];repeat' (first | rfl | constructor))) ?_))
  refine D1 (X:=Nat) (fun j=>([(4,.s (.one (.ref 710 0))),(5,.s (.one (.mut 20))),(6,B8 i),(16,C4 (List Str) 1 strsC files),(17,B8 files.length),(18,B8 i),(23,C4 Str 1 I0 f),(24,B8 f.length),(25,B8 j)],[(20,.tarr files.length 1 ((Q4 files i).set i (.buf 713 Int 1 H4 (F0 (D2 files) (f.take j))))),(710,.box [.mut 711,.buf 712 Str 1 I0 (O6 files i j)]),(711,.map Str B66 (A55 (O6 files i j) 0)),(712,.spare (O6 files i j).length 1 9),(713,.spare (F0 (D2 files) (f.take j)).length 1 3)])) (fun j=>j≤f.length) (fun j=>f.length - j) 0 (Nat.zero_le _) ?_ ?_
  ·exact J58 ⟨le1 rfl,le1 rfl,le1 rfl,le1 rfl,le1 rfl,le1 rfl,le1 rfl,le1 rfl,le1 rfl,trivial⟩ ⟨rfl,rfl,rfl,rfl,rfl,trivial⟩
  intro j hj
  dsimp only at hj ⊢
  refine k2 (A2 (E1 Z Z Z (A4 ?_)));refine k1 (k2 ?_);refine B3 rfl (fun ht=>?_) (fun ht=>?_)
  ·have hlt2:j < f.length:=by have:=A0 ht;omega
   obtain ⟨s,hs⟩:∃s,s=f[j]:=⟨_,rfl⟩
   have hvs:f[j]?=some s:=by rw [hs];simp [hlt2]
   have hstep:=G33 files i j s (by rw [←hf];exact hvs)
   obtain ⟨names,hnm⟩:∃names,names=O6 files i j:=⟨_,rfl⟩
   have hnl:=E98 files i j
   obtain ⟨rest,hrest⟩:=D99 files i (j+1)
   obtain ⟨ids,hids⟩:∃ids,ids=F0 (D2 files) (f.take j):=⟨_,rfl⟩
   have hil:ids.length=j:=by rw [hids];simp [F0];omega
   have hnext:F0 (D2 files) (f.take (j+1))=ids++[J6 (D2 files) s 0]:=by
    rw [hids,J93 hlt2,←hs];unfold F0;rw [K00];rfl
   rw [hstep] at hrest
   rw [←hnm] at hstep hnl hrest ⊢
   rw [←hids]
   have hTi:((Q4 files i).set i (.buf 713 Int 1 H4 ids))[((i:Nat):Int).toNat]?=some (.buf 713 Int 1 H4 ids):=by
    rw [J97,K29 (by rw [hrl];omega)]
   have hTi2:(((Q4 files i).set i (.buf 713 Int 1 H4 ids)).map (TC.forget 712))[((i:Nat):Int).toNat]?=some (.buf 713 Int 1 H4 ids):=by
    rw [K15,hTi];rfl
   refine k5 (k1 (k2 (k3 (k2 (A2 (A6 (A8 Z (.pure _ _ _ _) Z (by omega) hvs) Z (A6 (B1 Z Z) Z (A7 Z Z (A4 ?_)))))))))
   by_cases hmem:s∈names
   ·have hns:I4 names s=names:=by unfold I4;rw [if_pos hmem]
    rw [hns] at hstep hrest
    have hpl:J6 (D2 files) s 0=J6 names s 0:=by rw [hrest];exact C03 s rest names 0 hmem
    refine J3 ?_
    refine O9 ((9,U3 s)::[(4,.s (.one (.ref 710 0))),(5,.s (.one (.mut 20))),(6,B8 i),(16,C4 (List Str) 1 strsC files),(17,B8 files.length),(18,B8 i),(23,C4 Str 1 I0 f),(24,B8 f.length),(25,B8 j)]) [(20,.tarr files.length 1 ((Q4 files i).set i (.buf 713 Int 1 H4 ids))),(710,.box [.mut 711,.buf 712 Str 1 I0 names]),(711,.map Str B66 (A55 names 0)),(712,.spare names.length 1 9),(713,.spare ids.length 1 3)] (J58 ⟨le1 rfl,le1 rfl,le1 rfl,le1 rfl,le1 rfl,le1 rfl,le1 rfl,le1 rfl,le1 rfl,le1 rfl,trivial⟩ ⟨rfl,rfl,rfl,rfl,rfl,trivial⟩) ?_
    refine x6 [12,10,8] [[],[8],[10,8],[12,10,8]] [(8,([],[])),(10,([713],[34])),(12,([],[]))] [(0,[]),(1,[]),(2,[]),(3,[]),(4,[]),(5,[]),(6,[]),(7,[]),(8,[]),(9,[8]),(10,[8]),(11,[10,8]),(12,[10,8])] [(0,[8]),(0,[10,8]),(1,[8]),(1,[10,8]),(2,[8]),(3,[8]),(4,[8]),(5,[8])] (by kernel_rfl) (by kernel_rfl) (L1 Z Z (by kernel_rfl) Z Z (B5 Z Z) (L1 Z Z (by kernel_rfl) Z Z (B5 Z Z) (L1 Z Z (by kernel_rfl) Z Z (B5 Z Z) (L1 Z Z (by kernel_rfl) Z Z (B5 Z Z) (L1 Z Z (by kernel_rfl) Z Z (H6 Z Z Z (by omega) (by omega)) (L1 Z Z (by kernel_rfl) Z Z (N4 Z Z (by first | exact hTi | exact hTi2)) ?_))))));refine L1 Z Z (by kernel_rfl) Z Z (B5 Z Z) (L1 Z Z (by kernel_rfl) Z Z (B5 Z Z) (B83 Z Z (by kernel_rfl) Z Z (I13 (fun gf=>tid_old names s hmem Z Z) Z Z) Z (L1 Z Z (by kernel_rfl) Z Z (C9 (c:=H4) (ys:=[J6 names s 0]) (D8 Z Z Z Z F1) Z Z Z) (B83 Z Z (by kernel_rfl) Z Z (r_turn (fun frc hU=>F8 (C57 hU Z) Z (C57 hU Z) (.pure _ _ _ _) (by (simp only [J87,J89];omega)) Z)) Z (L1 Z Z (by kernel_rfl) Z Z (H6 Z Z Z (by omega) (by omega)) (B83 Z Z (by kernel_rfl) Z Z (r_eff (fun frc hU=>w9 TySz.out (C57 hU Z) Z (by (simp;omega)) (C57 hU Z) Z)) Z ?_))))));refine G64 (by kernel_rfl) rfl ?_ ?_
    ·refine N6 Z Z (by kernel_rfl) Z Z (B5 Z Z) (N6 Z Z (by kernel_rfl) Z Z (B5 Z Z) (N6 Z Z (by kernel_rfl) Z Z (B5 Z Z) (N6 Z Z (by kernel_rfl) Z Z (B5 Z Z) (N6 Z Z (by kernel_rfl) Z Z (B5 Z Z) (N6 Z Z (by kernel_rfl) Z Z (B5 Z Z) (N6 Z Z (by kernel_rfl) Z Z (H6 Z Z Z (by omega) (by omega)) (N6 Z Z (by kernel_rfl) Z Z (N4 Z Z (by first | exact hTi | exact hTi2)) ?_)))))));exact G65
    refine O9 [(4,.s (.one (.ref 710 0))),(5,.s (.one (.mut 20))),(6,B8 i),(16,C4 (List Str) 1 strsC files),(17,B8 files.length),(18,B8 i),(23,C4 Str 1 I0 f),(24,B8 f.length),(25,B8 j)] [(20,.tarr files.length 1 ((Q4 files i).set i (.buf 713 Int 1 H4 (ids++[J6 names s 0])))),(710,.box [.mut 711,.buf 712 Str 1 I0 (names)]),(711,.map Str B66 (A55 (names) 0)),(712,.spare (names).length 1 9),(713,.spare (ids++[J6 names s 0]).length 1 3)] (by rw [J97 i,I58];exact J58 ⟨le1 rfl,le1 rfl,le1 rfl,le1 rfl,le1 rfl,le1 rfl,le1 rfl,le1 rfl,le1 rfl,trivial⟩ ⟨rfl,rfl,rfl,rfl,rfl,trivial⟩) ?_
    refine A2 (C7 Z Z Z (A3 Z Z (A4 ?_)));refine k1 ?_
    exact ⟨j+1,hlt2,by omega,by rw [hstep,hnext,hpl];exact J58 ⟨le1 rfl,le1 rfl,le1 rfl,le1 rfl,le1 rfl,le1 rfl,le1 rfl,le1 rfl,le1 rfl,trivial⟩ ⟨rfl,rfl,rfl,rfl,rfl,trivial⟩⟩
   ·refine J3 ?_
    have hns:I4 names s=names++[s]:=by unfold I4;rw [if_neg hmem]
    rw [hns] at hstep hrest
    have hkv:A55 (names++[s]) 0=A55 names 0++[(s,.v (.int .i64 (names.length:Int)))]:=by rw [F83];simp only [Int.zero_add]
    have hpl:J6 (D2 files) s 0=names.length:=by
     rw [hrest,C03 s rest (names++[s]) 0 (by simp),D98 s names 0 hmem];omega
    refine O9 ((9,U3 s)::[(4,.s (.one (.ref 710 0))),(5,.s (.one (.mut 20))),(6,B8 i),(16,C4 (List Str) 1 strsC files),(17,B8 files.length),(18,B8 i),(23,C4 Str 1 I0 f),(24,B8 f.length),(25,B8 j)]) [(20,.tarr files.length 1 ((Q4 files i).set i (.buf 713 Int 1 H4 (ids)))),(710,.box [.mut 711,.buf 712 Str 1 I0 (names)]),(711,.map Str B66 (A55 (names) 0)),(712,.spare (names).length 1 9),(713,.spare (ids).length 1 3)] (J58 ⟨le1 rfl,le1 rfl,le1 rfl,le1 rfl,le1 rfl,le1 rfl,le1 rfl,le1 rfl,le1 rfl,le1 rfl,trivial⟩ ⟨rfl,rfl,rfl,rfl,rfl,trivial⟩) ?_
    refine x6 [12,10,8] [[],[8],[10,8],[12,10,8]] [(8,([712],[])),(10,([713],[34])),(12,([],[]))] [(0,[]),(1,[]),(2,[]),(3,[]),(4,[]),(5,[]),(6,[]),(7,[]),(8,[]),(9,[8]),(10,[8]),(11,[10,8]),(12,[10,8])] [(0,[8]),(0,[10,8]),(1,[8]),(1,[10,8]),(2,[8]),(3,[8]),(4,[8]),(5,[8])] (by kernel_rfl) (by kernel_rfl) (L1 Z Z (by kernel_rfl) Z Z (B5 Z Z) (L1 Z Z (by kernel_rfl) Z Z (B5 Z Z) (L1 Z Z (by kernel_rfl) Z Z (B5 Z Z) (L1 Z Z (by kernel_rfl) Z Z (B5 Z Z) (L1 Z Z (by kernel_rfl) Z Z (H6 Z Z Z (by omega) (by omega)) (L1 Z Z (by kernel_rfl) Z Z (N4 Z Z (by first | exact hTi | exact hTi2)) ?_))))));refine L1 Z Z (by kernel_rfl) Z Z (B5 Z Z) (L1 Z Z (by kernel_rfl) Z Z (B5 Z Z) (B83 Z Z (by kernel_rfl) Z Z (I13 (fun gf=>tid_new names s hmem (by omega) Z Z Z) Z Z) Z (L1 Z Z (by kernel_rfl) Z Z (C9 (c:=H4) (ys:=[(names.length:Int)]) (D8 Z Z Z Z F1) Z Z Z) (B83 Z Z (by kernel_rfl) Z Z (r_turn (fun frc hU=>F8 (C57 hU Z) Z (C57 hU Z) (.pure _ _ _ _) (by (simp only [J87,J89];omega)) Z)) Z (L1 Z Z (by kernel_rfl) Z Z (H6 Z Z Z (by omega) (by omega)) (B83 Z Z (by kernel_rfl) Z Z (r_eff (fun frc hU=>w9 TySz.out (C57 hU Z) Z (by (simp;omega)) (C57 hU Z) Z)) Z ?_))))));refine G64 (by kernel_rfl) rfl ?_ ?_
    ·refine N6 Z Z (by kernel_rfl) Z Z (B5 Z Z) (N6 Z Z (by kernel_rfl) Z Z (B5 Z Z) (N6 Z Z (by kernel_rfl) Z Z (B5 Z Z) (N6 Z Z (by kernel_rfl) Z Z (B5 Z Z) (N6 Z Z (by kernel_rfl) Z Z (B5 Z Z) (N6 Z Z (by kernel_rfl) Z Z (B5 Z Z) (N6 Z Z (by kernel_rfl) Z Z (H6 Z Z Z (by omega) (by omega)) (N6 Z Z (by kernel_rfl) Z Z (N4 Z Z (by first | exact hTi | exact hTi2)) ?_)))))));exact G65
    refine O9 [(4,.s (.one (.ref 710 0))),(5,.s (.one (.mut 20))),(6,B8 i),(16,C4 (List Str) 1 strsC files),(17,B8 files.length),(18,B8 i),(23,C4 Str 1 I0 f),(24,B8 f.length),(25,B8 j)] [(20,.tarr files.length 1 ((Q4 files i).set i (.buf 713 Int 1 H4 (ids++[(names.length:Int)])))),(710,.box [.mut 711,.buf 712 Str 1 I0 (names++[s])]),(711,.map Str B66 (A55 (names++[s]) 0)),(712,.spare (names++[s]).length 1 9),(713,.spare (ids++[(names.length:Int)]).length 1 3)] (by rw [J97 i,H58,hkv];exact J58 ⟨le1 rfl,le1 rfl,le1 rfl,le1 rfl,le1 rfl,le1 rfl,le1 rfl,le1 rfl,le1 rfl,trivial⟩ ⟨rfl,rfl,rfl,rfl,rfl,trivial⟩) ?_
    refine A2 (C7 Z Z Z (A3 Z Z (A4 ?_)));refine k1 ?_
    exact ⟨j+1,hlt2,by omega,by rw [hstep,hnext,hpl];exact J58 ⟨le1 rfl,le1 rfl,le1 rfl,le1 rfl,le1 rfl,le1 rfl,le1 rfl,le1 rfl,le1 rfl,trivial⟩ ⟨rfl,rfl,rfl,rfl,rfl,trivial⟩⟩
  ·have hj2:j=f.length:=by have:=A1 ht;omega
   subst hj2
   rw [J98]
   refine k6 (k7 (k7 (k8 Z (k4 (k1 (G4 (Sees.forget 713) ?_))))))
   have hfr:((Q4 files i).set i (.buf 713 Int 1 H4 (F0 (D2 files) f))).map (TC.forget 713)=Q4 files (i+1):=by rw [hf];exact G34 files i 713 hlt
   have hnr:O6 files (i+1) 0=O6 files i f.length:=by rw [hf];exact H21 files i
   refine O9 [(4,.s (.one (.ref 710 0))),(5,.s (.one (.mut 20))),(16,C4 (List Str) 1 strsC files),(17,B8 files.length),(18,B8 i)] [(710,.box [.mut 711,.buf 712 Str 1 I0 (O6 files (i+1) 0)]),(711,.map Str B66 (A55 (O6 files (i+1) 0) 0)),(712,.spare (O6 files (i+1) 0).length 1 9),(20,.tarr files.length 1 (Q4 files (i+1)))] (by rw [hnr,←hfr];exact J58 ⟨le1 rfl,le1 rfl,le1 rfl,le1 rfl,le1 rfl,trivial⟩ ⟨rfl,rfl,rfl,rfl,trivial⟩) ?_
   refine A2 (C7 Z Z Z (A3 Z Z (A4 ?_)));refine k1 ?_
   exact ⟨i+1,hlt,by omega,J58 ⟨le1 rfl,le1 rfl,le1 rfl,le1 rfl,le1 rfl,trivial⟩ ⟨rfl,rfl,rfl,rfl,trivial⟩⟩
 ·have hi2:i=files.length:=by have:=A1 ht;omega
  rw [hi2,H22]
  refine G4 (J75 20 (c:=intsC) (files.map (F0 (D2 files))) Z (by simp) (H82 files)) ?_
  refine G4 (Sees.freeze (k:=20) Z) ?_
  refine G4 (Sees.forget 712) ?_
  refine k6 (k2 (C5 (by kernel_rfl) (by kernel_rfl) (C3 Z Z (C3 Z Z (A9 (E8 Z) Z Z (A9 (A5 Z) Z Z (A9 (B2 Z Z Z) Z Z (A9 (E0 Z Z) Z Z (A9 (E0 Z Z) Z Z (G5 ?_))))))))));refine k1 (k10 ?_)
  exact B4 (U7 rfl rfl rfl rfl rfl) rfl
theorem G11 (files:List (List Str)) (hn:files.length≤1048576) (hl:files.flatten.length≤536870911):FnOk Tryz.prog 108 [pStrss files] (fun rs=>rs=[pIntss (files.map (F0 (D2 files)))]):=by
 refine FnOk.intro Tryz.func108 (by decide) Z Z Z Z ?_
 refine k2 (A2 (A7 Z Z (A4 ?_)));refine k1 (k2 (A2 (A3 Z Z (C2 (I59 files hn hl) Z Z Z ?_))));rintro _ rfl;refine A3 Z Z (F5 Z Z Z (F5 Z Z Z (A7 Z Z (A7 Z Z (A4 ?_)))));refine k1 (k2 (A2 (A3 Z Z (A7 Z Z (A4 ?_)))));refine k1 (k10 ?_)
 exact B4 (F3 rfl rfl rfl) rfl
set_option maxHeartbeats 1000000
set_option maxHeartbeats 1000000
set_option maxHeartbeats 1000000
set_option maxHeartbeats 2000000
set_option maxHeartbeats 1000000
end Go.Proofs.YtbiadkkamhpdnaaGreatDoor
