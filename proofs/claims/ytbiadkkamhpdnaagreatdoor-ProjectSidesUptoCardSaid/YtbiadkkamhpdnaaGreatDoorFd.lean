/- Walks of the program's functions. -/
import Derived.Test.YtbiadkkamhpdnaaGreatDoorFc
import Derived.Test.YtbiadkkamhpdnaaGreatDoorFs
import Derived.Test.YtbiadkkamhpdnaaGreatDoorFb
import Derived.Test.YtbiadkkamhpdnaaGreatDoorFa
set_option linter.unusedSimpArgs false
namespace Go.Proofs.YtbiadkkamhpdnaaGreatDoor
open Go Go.AL
set_option maxRecDepth 100000
theorem B17 {gf:Fr} {ob:Obs} (l:List PatchLine) (k:UInt8) (ts:List Str) (hk:C3 ob 701=some (.spare l.length 2 36)) (hlen:l.length+ts.length≤1073741824) :
  AL.Met Tryz.prog 196 [.one (.buf 701 PatchLine 2 plineC l),.one (.p (.v (.int .u8 k.toNat))),.one (.p (.list Str 1 K6 ts))] gf ob [701]
   (fun rs ob'=>rs=[.one (.buf 701 PatchLine 2 plineC (l++T7 k ts))]∧ob'=(701,.spare (l++T7 k ts).length 2 36)::Obs.forget 701 ob):=by
 refine AL.Met.introH Tryz.func196 (by decide) rfl rfl rfl (fun hH=>?_)
 refine k2 ?_
 refine A4 (A3 (A6 Z Z) Z (A7 ?_))
 refine k1 (k2 (k2 ?_))
 refine A4 (A3 (A5 Z Z) Z (A3 (E3 Z (.pure _ _ _ _)) Z (A3 (A5 Z Z) Z (A7 ?_))))
 refine k1 (k3 ?_)
 refine E2 (X:=Nat) (fun i=>([(0,.s (.one (.buf 701 PatchLine 2 plineC (l++T7 k (ts.take i))))),(1,.s (pByte k).s1),(9,C7 Str 1 K6 ts),(10,C0 ts.length),(11,C0 i)]++Fr.forget 701 gf,(701,.spare (l++T7 k (ts.take i)).length 2 36)::Obs.forget 701 ob)) (fun i=>i≤ts.length) (fun i=>ts.length - i) 0 (Nat.zero_le _) ?_ ?_
 ·have e:l++T7 k (ts.take 0)=l:=by simp [T7]
  rw [e]
  exact K00 701 ⟨le1 rfl,le1 rfl,le1 rfl,le1 rfl,le1 rfl,trivial⟩ hH (by repeat (first | exact D5 | refine D4 rfl ?_)) hk
 intro i hi
 dsimp only at hi ⊢
 have hpl:=C06 k (ts.take i)
 rw [K22] at hpl
 refine k2 ?_
 refine A4 (A3 (F0 Z Z) Z (A7 ?_))
 refine k1 (k2 ?_)
 refine B6 rfl (fun ht=>?_) (fun ht=>?_)
 ·have hlt:i < ts.length:=by have:=A0 ht;omega
  have hv:ts[i]?=some ts[i]:=by simp [hlt]
  have hsucc:=H92 k ts i hlt
  refine k5 (k1 (k2 (k3 (k2 ?_))))
  refine A4 (A3 (B4 Z (.pure _ _ _ _) Z (by omega) hv) Z (A3 (C8 Z Z) Z (A3 (A6 Z Z) Z (A7 ?_))))
  refine k1 ?_
  refine A4 (A3 (A5 Z Z) Z (A3 (A5 Z Z) Z (A3 (A5 Z Z) Z (A3 (F9 Z) Z (A3 (E6 (c:=plineC) (ys:=[⟨k,ts[i]⟩]) (F3 Z Z Z Z I6) Z Z Z) Z (C5 (I9 Z Z Z (.pure _ _ _ _) (by (simp only [K05,K07,K10];omega)) Z) Z (A3 (A6 Z Z) Z (A7 ?_))))))))
  refine k4 (k1 ?_)
  refine A4 (A3 (C6 Z Z (by omega)) Z (A3 (A5 Z Z) Z (A7 ?_)))
  refine k1 ?_
  refine ⟨i+1,hlt,by omega,?_⟩
  rw [hsucc,←K23]
  exact J71 ⟨le1 rfl,le1 rfl,le1 rfl,le1 rfl,le1 rfl,trivial⟩ (R2 hH) (by repeat (first | exact D5 | refine D4 rfl ?_ | refine K5 _ ?_)) J23
 ·have hi':i=ts.length:=by have:=A1 ht;omega
  subst hi'
  rw [K28]
  refine k6 (k2 ?_)
  refine A4 (A3 (A5 Z Z) Z (A3 (A6 Z Z) Z (A7 ?_)))
  refine k1 (k10 ?_)
  exact K8 (Y6 rfl rfl) (by repeat (first | exact D5 | refine D4 rfl ?_ | refine F4 _ ?_)) (fun _ _ h=>h) ⟨rfl,rfl⟩
theorem I70 (l:List Change) (x y:List Str) (q:Hunk) (hsc:ScOk 0 0 l x.length y.length) (hq:H90 l x.length l.length q) (hxl:x.length≤4096) (hyl:y.length≤4096) (hll:l.length≤4097) :
  FnOk Tryz.prog 133 [pHunk q,pChanges l,d6 x,d6 y] (fun rs=>rs=[pPhunk (L6 l x y q)]):=by
 obtain ⟨a,b,q1,q2,q3,q4,q5,q6,q7,q8,q9,q10⟩:=hq
 have hgb:=hsc.get b q4
 obtain ⟨ds,hds⟩:∃ds,ds=(l.drop a).take (b+1 - a):=⟨_,rfl⟩
 have hdl:ds.length=b+1 - a:=by rw [hds,K22,K24];omega
 have hdv:∀t,a+t≤b→ds[t]?=some (cAt l (a+t)):=by
  intro t ht
  rw [hds,K33 (by omega),K42]
  exact A32 (by omega)
 have hslice:(l.drop q.First.toNat).take (q.Last.toNat - q.First.toNat)=ds:=by
  rw [hds,q1,q2,show ((b:Int)+1).toNat=b+1 by omega,show ((a:Nat):Int).toNat=a by omega]
 refine FnOk.intro Tryz.func133 (by decide) Z Z Z Z ?_
 refine k2 ?_
 refine A4 (C5 (Q1 4 Z Z Z) Z (C5 (E8 8 Z) Z (A7 ?_)))
 refine k1 (k2 ?_)
 refine A4 (A3 (A8 Z) Z (A3 (A8 Z) Z (A3 (A9 Z Z Z) Z (A3 (A8 Z) Z (A3 (A8 Z) Z (A3 (A9 Z Z Z) Z (A3 (F9 Z) Z (C5 (E8 9 Z) Z (E7 (B2 TySz.out Z Z Z Z Z Z) (A7 ?_))))))))))
 refine k1 (k2 ?_)
 refine G6 (J75 701 PatchLine 2 plineC 36 (kb:=9) (o:=2) Z Z Z) ?_
 refine A4 (A3 (A8 Z) Z (A3 (A8 Z) Z (A3 (A9 Z Z Z) Z (A3 (A6 Z Z) Z (A7 ?_)))))
 refine k1 (k2 (k2 ?_))
 refine A4 (A3 (A5 Z Z) Z (A3 (A8 Z) Z (A3 (A9 Z Z Z) Z (A3 (A8 Z) Z (A3 (A9 Z Z Z) Z (A3 (O8 Z (.pure _ _ _ _) Z Z (by (first | (rw [q1];omega) | (rw [q1,q2];omega) | (rw [q2];omega))) (by (first | (rw [q1];omega) | (rw [q1,q2];omega) | (rw [q2];omega))) (by (first | (rw [q1];omega) | (rw [q1,q2];omega) | (rw [q2];omega)))) Z ?_))))));refine A3 (E3 Z (.pure _ _ _ _)) Z (A3 (A5 Z Z) Z (A7 ?_))
 rw [hslice]
 refine k1 (k3 ?_)
 refine E2 (X:=Nat) (fun t=>([(2,C7 Str 1 K6 x),(3,C7 Str 1 K6 y),(4,.s (.one (.ref 4 0))),(8,.s (.one (.ref 8 0))),(9,.s (.one (.ref 9 0))),(10,C0 (d7 l q.Old.From a t)),(28,C7 Change 4 changeC ds),(29,C0 ds.length),(30,C0 t)],[(4,.box (pHunk q).s1.cells),(8,.box [.p (.v (.int .i64 0)),.p (.v (.int .i64 0)),.p (.v (.slice none 0 0))]),(9,.box [.p (.v (.int .i64 q.Old.From)),.p (.v (.int .i64 q.New.From)),.buf 701 PatchLine 2 plineC (U5 l x y q.Old.From a t)]),(701,.spare (U5 l x y q.Old.From a t).length 2 36)])) (fun t=>a+t≤b+1) (fun t=>b+1 - t) 0 (by omega) ?_ ?_
 ·have e1:d7 l q.Old.From a 0=q.Old.From:=if_pos rfl
  rw [e1]
  exact J70 ⟨le1 rfl,le1 rfl,le1 rfl,le1 rfl,le1 rfl,le1 rfl,le1 rfl,le1 rfl,le1 rfl,trivial⟩ ⟨rfl,rfl,rfl,rfl,trivial⟩
 intro t hat
 dsimp only at hat ⊢
 have hml:=H93 l x y q.Old.From a t
 have hml2:(U5 l x y q.Old.From a t).length≤4097*12288:=Nat.le_trans hml (Nat.mul_le_mul (by omega) (by omega))
 refine k2 ?_
 refine A4 (A3 (F0 Z Z) Z (A7 ?_))
 refine k1 (k2 ?_)
 refine B6 rfl (fun ht=>?_) (fun ht=>?_)
 ·have hlt2:a+t≤b:=by have:((t:Nat):Int) < ds.length:=A0 ht;omega
  obtain ⟨c,hc⟩:∃c,c=cAt l (a+t):=⟨_,rfl⟩
  have hcv:=hdv t hlt2
  rw [←hc] at hcv
  have hgc:=hsc.get (a+t) (by omega)
  rw [←hc] at hgc
  obtain ⟨⟨g1,g2⟩,⟨g3,g4⟩,⟨g5,g6⟩,⟨g7,g8⟩,g9,g10⟩:=hgc
  obtain ⟨i0,hi0⟩:∃i0,i0=d7 l q.Old.From a t:=⟨_,rfl⟩
  have hpos:0≤i0∧i0≤c.Old:=by
   rw [hi0,hc];unfold d7 r7
   split
   ·rename_i h0;subst h0;exact ⟨q5,q6⟩
   ·have h4:=hsc.next (a+t - 1) (by omega)
    have h5:=hsc.get (a+t - 1) (by omega)
    rw [show a+t - 1+1=a+t by omega] at h4
    unfold H5 at h5;omega
  obtain ⟨ls,hls⟩:∃ls,ls=U5 l x y q.Old.From a t:=⟨_,rfl⟩
  obtain ⟨p1,hp1⟩:∃p1,p1=T7 32 (sub x i0 c.Old):=⟨_,rfl⟩
  obtain ⟨p2,hp2⟩:∃p2,p2=T7 45 (sub x c.Old (r7 c)):=⟨_,rfl⟩
  obtain ⟨p3,hp3⟩:∃p3,p3=T7 43 (sub y c.New (c.New+c.NewLen)):=⟨_,rfl⟩
  have hsucc:U5 l x y q.Old.From a (t+1)=ls++p1++p2++p3:=by rw [hls,hp1,hp2,hp3,hi0,hc];rfl
  have hps:d7 l q.Old.From a (t+1)=r7 c:=by rw [E69,hc]
  have l1:=A70 x i0 c.Old
  have l2:=A70 x c.Old (r7 c)
  have l3:=A70 y c.New (c.New+c.NewLen)
  have m1:p1.length=(sub x i0 c.Old).length:=by rw [hp1,C06]
  have m2:p2.length=(sub x c.Old (r7 c)).length:=by rw [hp2,C06]
  have hend:r7 c=c.Old+c.OldLen:=rfl
  rw [←hls] at hml2 ⊢
  rw [←hi0]
  refine k5 (k1 (k2 (k3 (k2 ?_))))
  refine A4 (A3 (B4 Z (.pure _ _ _ _) Z (by omega) hcv) Z (A3 (D6 Z Z) Z (C5 (E8 12 Z) Z (E7 (B2 TySz.out Z Z Z Z Z Z) (A7 ?_)))))
  refine k1 (k2 ?_)
  refine U1 7 (by kernel_rfl) (by kernel_rfl) Z (B0 (A8 Z) Z Z (B0 (A9 Z Z Z) Z Z (B0 (A5 Z Z) Z Z (B0 (A5 Z Z) Z Z (B0 (A8 Z) Z Z (B0 (A9 Z Z Z) Z Z (B0 (O8 Z (.pure _ _ _ _) Z Z (by omega) (by omega) (by omega)) Z Z (L4 (A41 (B17 ls 32 (sub x i0 c.Old) Z (by omega)) Z Z Z ?_)))))))));rintro _ _ ⟨rfl,rfl⟩;refine ⟨_,rfl,?_⟩;refine B0 (A8 Z) Z Z (B39 (B2 TySz.out Z Z Z Z Z Z) Z (L4 ?_))
  rw [←hp1]
  refine k1 (k2 ?_)
  refine A4 (A3 (A8 Z) Z (A3 (A9 Z Z Z) Z (A3 (A8 Z) Z (A3 (A9 Z Z Z) Z (A3 (C6 Z Z (by omega)) Z (A3 (A6 Z Z) Z (A7 ?_)))))))
  rw [show c.Old+c.OldLen=r7 c from rfl]
  refine k1 (k2 ?_)
  refine U1 7 (by kernel_rfl) (by kernel_rfl) Z (B0 (A8 Z) Z Z (B0 (A9 Z Z Z) Z Z (B0 (A5 Z Z) Z Z (B0 (A8 Z) Z Z (B0 (A9 Z Z Z) Z Z (B0 (A5 Z Z) Z Z (B0 (O8 Z (.pure _ _ _ _) Z Z (by omega) (by omega) (by omega)) Z Z (L4 (A41 (B17 (ls++p1) 45 (sub x c.Old (r7 c)) Z (by simp only [K05];omega)) Z Z Z ?_)))))))));rintro _ _ ⟨rfl,rfl⟩;refine ⟨_,rfl,?_⟩;refine B0 (A8 Z) Z Z (B39 (B2 TySz.out Z Z Z Z Z Z) Z (L4 ?_))
  rw [←hp2]
  refine k1 ?_
  refine U1 11 (by kernel_rfl) (by kernel_rfl) Z (B0 (A8 Z) Z Z (B0 (A9 Z Z Z) Z Z (B0 (A5 Z Z) Z Z (B0 (A8 Z) Z Z (B0 (A9 Z Z Z) Z Z (B0 (A8 Z) Z Z (B0 (A9 Z Z Z) Z Z (B0 (A8 Z) Z Z (B0 (A9 Z Z Z) Z Z (B0 (C6 Z Z (by omega)) Z Z (B0 (O8 Z (.pure _ _ _ _) Z Z (by omega) (by omega) (by omega)) Z Z (L4 (A41 (B17 (ls++p1++p2) 43 (sub y c.New (c.New+c.NewLen)) Z (by simp only [K05];omega)) Z Z Z ?_)))))))))))));rintro _ _ ⟨rfl,rfl⟩;refine ⟨_,rfl,?_⟩;refine B0 (A8 Z) Z Z (B39 (B2 TySz.out Z Z Z Z Z Z) Z (L4 ?_))
  rw [←hp3]
  refine k4 (k1 ?_)
  refine A4 (A3 (C6 Z Z (by omega)) Z (A3 (A5 Z Z) Z (A7 ?_)))
  refine k1 ?_
  refine ⟨t+1,by omega,by omega,?_⟩
  rw [hsucc,hps]
  exact J70 ⟨le1 rfl,le1 rfl,le1 rfl,le1 rfl,le1 rfl,le1 rfl,le1 rfl,le1 rfl,le1 rfl,trivial⟩ ⟨rfl,rfl,rfl,rfl,trivial⟩
 ·have htb:a+t=b+1:=by
   have h0:¬((t:Nat):Int) < ds.length:=A1 ht
   omega
  obtain ⟨i0,hi0⟩:∃i0,i0=d7 l q.Old.From a t:=⟨_,rfl⟩
  have hib:i0=(cAt l b).Old+(cAt l b).OldLen:=by
   rw [hi0];unfold d7 r7
   rw [if_neg (by omega),show a+t - 1=b by omega]
  unfold H5 at hgb
  obtain ⟨ls,hls⟩:∃ls,ls=U5 l x y q.Old.From a t:=⟨_,rfl⟩
  have hG:L6 l x y q=⟨q.Old.From,q.New.From,ls++T7 32 (sub x i0 q.Old.To)⟩:=by
   rw [L6,q1,q2,show ((a:Nat):Int).toNat=a by omega,show ((b:Int)+1).toNat - a=t by omega,←hls,←hi0]
  have l1:=A70 x i0 q.Old.To
  rw [←hls] at hml2 ⊢
  rw [←hi0]
  refine k6 (k2 ?_)
  refine U1 8 (by kernel_rfl) (by kernel_rfl) Z (B0 (A8 Z) Z Z (B0 (A9 Z Z Z) Z Z (B0 (A5 Z Z) Z Z (B0 (A5 Z Z) Z Z (B0 (A8 Z) Z Z (B0 (A8 Z) Z Z (B0 (A9 Z Z Z) Z Z (B0 (O8 Z (.pure _ _ _ _) Z Z (by omega) (by omega) (by omega)) Z Z (L4 (A41 (B17 ls 32 (sub x i0 q.Old.To) Z (by omega)) Z Z Z ?_))))))))));rintro _ _ ⟨rfl,rfl⟩;refine ⟨_,rfl,?_⟩;refine B0 (A8 Z) Z Z (B39 (B2 TySz.out Z Z Z Z Z Z) Z (L4 ?_))
  refine k1 (k2 ?_)
  refine A4 (A3 (D1 Z Z Z) Z (E7 (B2 TySz.out Z Z Z Z Z Z) (A7 ?_)))
  refine k1 (k10 ?_)
  exact B7 (rs:=[pPhunk (L6 l x y q)]) (by rw [hG];exact retc rfl rfl rfl rfl rfl) rfl
set_option maxHeartbeats 1000000
theorem tid_old {gf:Fr} {ob:Obs} (names:List Str) (s:Str) (hs:s∈names) (h0:C3 ob 710=some (.box [.mut 711,.buf 712 Str 1 K6 names])) (h1:C3 ob 711=some (.map Str B46 (A33 names 0))) :
  AL.Met Tryz.prog 218 [.one (.ref 710 0),.one (.p (.v (.string ⟨s.toArray⟩)))] gf ob [] (fun rs ob'=>rs=[.one (.p (.v (.int .i64 (H1 names s 0))))]∧ob'=ob):=by
 have hg:=F79 s names 0 hs
 refine AL.Met.intro Tryz.func218 (by decide) Z Z Z ?_
 refine k2 ?_
 refine A4 (A3 (A6 Z Z) Z (A7 ?_))
 refine k1 (k2 ?_)
 refine A4 (A3 (A5 Z Z) Z (A3 (B9 Z) Z (A3 (A8 Z) Z (A3 (A9 Z h0 Z) Z (A3 (A5 Z Z) Z (A3 (G64 (s) (r:=some (.v (.int .i64 (H1 names s 0)))) Z h1 Z E30 E31 (hg)) Z (A3 (A5 Z Z) Z (A3 (C1 Z Z) Z (A3 (C1 Z Z) Z (A3 (A6 Z Z) Z (A3 (A6 Z Z) Z (A7 ?_))))))))))))
 refine k1 (k2 (k2 ?_))
 refine A4 (A3 (A5 Z Z) Z (A3 (I7 Z) Z (A7 ?_)))
 refine k1 ?_
 refine B6 rfl (fun ht=>?_) (fun ht=>?_)
 ·cases ht
 refine k5 (k1 (k2 ?_))
 refine A4 (A3 (A5 Z Z) Z (A3 (A6 Z Z) Z (A7 ?_)))
 refine k1 (k10 ?_)
 exact K8 (Y6 rfl rfl) (by repeat (first | exact D5 | refine D4 rfl ?_ | refine F4 _ ?_)) (fun _ _ h=>h) ⟨rfl,rfl⟩
theorem tid_new {gf:Fr} {ob:Obs} (names:List Str) (s:Str) (hs:s∉names) (hl:names.length≤1073741823) (h0:C3 ob 710=some (.box [.mut 711,.buf 712 Str 1 K6 names])) (h1:C3 ob 711=some (.map Str B46 (A33 names 0)))
  (h2:C3 ob 712=some (.spare names.length 1 9)) :
  AL.Met Tryz.prog 218 [.one (.ref 710 0),.one (.p (.v (.string ⟨s.toArray⟩)))] gf ob [712] (fun rs ob'=>rs=[.one (.p (.v (.int .i64 names.length)))]∧ob'=(710,.box [.mut 711,.buf 712 Str 1 K6 (names++[s])])::(712,.spare (names++[s]).length 1 9)::Obs.forget 712 ((711,.map Str B46 (A33 names 0++[(s,.v (.int .i64 names.length))]))::ob)):=by
 have hg:=E85 s names 0 hs
 refine AL.Met.intro Tryz.func218 (by decide) Z Z Z ?_
 refine k2 ?_
 refine A4 (A3 (A6 Z Z) Z (A7 ?_))
 refine k1 (k2 ?_)
 refine A4 (A3 (A5 Z Z) Z (A3 (B9 Z) Z (A3 (A8 Z) Z (A3 (A9 Z h0 Z) Z (A3 (A5 Z Z) Z (A3 (G64 (s) (r:=none) Z h1 Z E30 E31 (hg)) Z (A3 (A5 Z Z) Z (A3 (C1 Z Z) Z (A3 (C1 Z Z) Z (A3 (A6 Z Z) Z (A3 (A6 Z Z) Z (A7 ?_))))))))))))
 refine k1 (k2 (k2 ?_))
 refine A4 (A3 (A5 Z Z) Z (A3 (I7 Z) Z (A7 ?_)))
 refine k1 ?_
 refine B6 rfl (fun ht=>?_) (fun ht=>?_)
 ·refine k2 ?_
  refine A4 (A3 (A5 Z Z) Z (A3 (B9 Z) Z (A3 (A8 Z) Z (A3 (A9 Z h0 Z) Z (A3 (E3 Z (.buf _ _ _ _ _)) Z (A3 (A6 Z Z) Z (A7 ?_)))))))
  refine k1 (k2 ?_)
  refine A4 (A3 (A5 Z Z) Z (A3 (B9 Z) Z (A3 (A8 Z) Z (A3 (A9 Z h0 Z) Z (A3 (A5 Z Z) Z (A3 (A5 Z Z) Z (E7 (J24 (s) Z h1 Z Z Z E30 E31 (hg)) (A7 ?_))))))))
  refine k1 ?_
  have h0':C3 ((711,Ob.map Str B46 (A33 names 0++[(s,.v (.int .i64 names.length))]))::ob) 710=some (.box [.mut 711,.buf 712 Str 1 K6 names]):=by rw [B3 (by decide)];exact h0
  have h2':C3 ((711,Ob.map Str B46 (A33 names 0++[(s,.v (.int .i64 names.length))]))::ob) 712=some (.spare names.length 1 9):=by rw [B3 (by decide)];exact h2
  have h0'':C3 ((712,Ob.spare (names++[s]).length 1 9)::Obs.forget 712 ((711,Ob.map Str B46 (A33 names 0++[(s,.v (.int .i64 names.length))]))::ob)) 710=some (.box [.mut 711,.p (.list Str 1 K6 names)]):=by
   rw [B3 (by decide),O2,h0'];rfl
  refine A4 (A3 (A5 Z Z) Z (A3 (A5 Z Z) Z (A3 (B9 Z) Z (A3 (A8 Z) Z (A3 (A9 Z h0' Z) Z (A3 (A5 Z Z) Z (A3 (E6 (c:=K6) (ys:=[s]) (F3 Z Z Z Z I6) Z Z Z) Z (C5 (I9 Z h2' Z (.pure _ _ _ _) (by (simp only [K07,K10];omega)) Z) Z (A3 (B9 Z) Z (A3 (A8 Z) Z (E7 (B2 TySz.out Z h0'' Z Z Z Z) (A7 ?_))))))))))))
  refine k1 (k2 ?_)
  refine A4 (A3 (A5 Z Z) Z (A3 (A6 Z Z) Z (A7 ?_)))
  refine k1 (k10 ?_)
  exact K8 (Y6 rfl rfl) (by repeat (first | exact D5 | refine D4 rfl ?_ | refine F4 _ ?_)) (fun _ _ h=>h) ⟨rfl,rfl⟩
 ·cases ht
theorem H68 (files:List (List Str)) (i m:Nat):(O5 files i).all (TC.free m)=true:=by
 rw [List.all_eq_true]
 intro t ht
 unfold O5 at ht
 obtain ⟨r,_,rfl⟩:=List.mem_map.1 ht
 split<;>rfl
theorem I71 {files:List (List Str)} {i:Nat} (b x:TC) (m:Nat):(((O5 files i).set i b).map (TC.forget m)).set i x=(O5 files i).set i x:=by
 have e1:(O5 files i).map (TC.forget m)=O5 files i:=by
  unfold O5
  rw [K41]
  apply List.map_congr_left
  intro r _
  simp only [Function.comp]
  split<;>rfl
 rw [List.map_set,e1,List.set_set]
theorem H69 {files:List (List Str)} {i:Nat} (b x:TC) (m m':Nat):((((O5 files i).set i b).map (TC.forget m)).map (TC.forget m')).set i x=(O5 files i).set i x:=by
 have e1:∀m,(O5 files i).map (TC.forget m)=O5 files i:=by
  intro m
  unfold O5
  rw [K41]
  apply List.map_congr_left
  intro r _
  simp only [Function.comp]
  split<;>rfl
 rw [List.map_set,e1,List.map_set,e1,List.set_set]
theorem F65 (files:List (List Str)) (hn:files.length≤1048576) (hl:files.flatten.length≤536870911):FnOk Tryz.prog 175 [pStrss files] (fun rs=>rs=[pIntss (files.map (F5 (E0 files))),d6 (E0 files)]):=by
 refine FnOk.intro Tryz.func175 (by decide) Z Z Z Z ?_
 refine k2 ?_
 refine A4 (A3 (A6 Z Z) Z (A3 (A6 Z Z) Z (A7 ?_)))
 refine k1 (k2 ?_)
 refine A4 (C5 (I56 711 Str B46 Z) Z (A3 (F9 Z) Z (C5 (Q1 710 Z Z Z) Z (A3 (A6 Z Z) Z (A7 ?_)))))
 refine k1 (k2 ?_)
 refine G6 (J75 712 Str 1 K6 9 (kb:=710) (o:=1) Z Z Z) ?_
 refine A4 (A3 (A5 Z Z) Z (A3 (E3 Z (.pure _ _ _ _)) Z (C5 (A59 20 Unit (fun _ _=>.v (.slice none 0 0)) () Z Z (by omega) (by omega) (fun _=>by first | exact ⟨⟨rfl,rfl⟩,trivial⟩ | exact ⟨S2 _ _ _,trivial⟩) (by first | rfl | (simp [G4,J6,Ob.free,SV.free,S1.free,TC.free]<;>rfl))) Z ?_)));refine A3 (A6 Z Z) Z (A7 ?_)
 refine k1 (k2 (k2 ?_))
 refine G6 (K01 20 Z) ?_
 have hz:((List.replicate ((files.length:Nat):Int).toNat ()).map fun x=>TC.p ((fun (_:Unit) (_:Nat)=>Cell.v (.slice none 0 0)) x 0))=O5 files 0:=by
  rw [K12,←H96];simp
 have hz2:(List.replicate ((files.length:Nat):Int).toNat ()).length=files.length:=by simp
 rw [hz,hz2]
 refine A4 (A3 (A5 Z Z) Z (A3 (E3 Z (.pure _ _ _ _)) Z (A3 (A5 Z Z) Z (A7 ?_))))
 refine k1 (k3 ?_)
 refine E2 (X:=Nat) (fun i=>([(4,.s (.one (.ref 710 0))),(5,.s (.one (.mut 20))),(16,C7 (List Str) 1 strsC files),(17,C0 files.length),(18,C0 i)],[(710,.box [.mut 711,.buf 712 Str 1 K6 (N2 files i 0)]),(711,.map Str B46 (A33 (N2 files i 0) 0)),(712,.spare (N2 files i 0).length 1 9),(20,.tarr files.length 1 (O5 files i))])) (fun i=>i≤files.length) (fun i=>files.length - i) 0 (Nat.zero_le _) ?_ ?_
 ·rw [show N2 files 0 0=[] from rfl]
  exact J70 ⟨le1 rfl,le1 rfl,le1 rfl,le1 rfl,le1 rfl,trivial⟩ ⟨rfl,rfl,rfl,rfl,trivial⟩
 intro i hi
 dsimp only at hi ⊢
 refine k2 ?_
 refine A4 (A3 (F0 Z Z) Z (A7 ?_))
 refine k1 (k2 ?_)
 refine B6 rfl (fun ht=>?_) (fun ht=>?_)
 ·have hlt:i < files.length:=by have:=A0 ht;omega
  obtain ⟨f,hf⟩:∃f,f=files.getD i []:=⟨_,rfl⟩
  have hv:files[i]?=some f:=by rw [hf];simp [hlt]
  have hfl:f.length≤files.flatten.length:=by
   have h1:f∈files:=K16 hv
   have:∀(fs:List (List Str)),f∈fs→f.length≤fs.flatten.length:=by
    intro fs
    induction fs with
    | nil=>intro h;simp at h
    | cons x r ih =>
     intro h
     simp only [K18,K05]
     rcases List.mem_cons.1 h with rfl | h
     ·omega
     ·have:=ih h;omega
   exact this files h1
  have hrl:(O5 files i).length=files.length:=by simp [O5]
  refine k5 (k1 (k2 (k3 (k2 ?_))))
  refine A4 (A3 (A5 Z Z) Z (A3 (B4 Z (.pure _ _ _ _) Z (by omega) hv) Z (A3 (C8 Z Z) Z (A3 (A6 Z Z) Z (A3 (A6 Z Z) Z (A7 ?_))))))
  refine k1 (k2 ?_)
  refine A4 (A3 (A5 Z Z) Z (A3 (E3 Z (.pure _ _ _ _)) Z (A3 (A5 Z Z) Z (A7 ?_))))
  refine k1 (k3 ?_)
  refine G6 (J97 713 Int 1 G7 3 (kb:=20) (o:=i) Z (J02 hlt) (by simp [G4,J6,Ob.free,SV.free,S1.free,TC.free,H68];repeat' (first | rfl | constructor))) ?_
  refine E2 (X:=Nat) (fun j=>([(4,.s (.one (.ref 710 0))),(5,.s (.one (.mut 20))),(6,C0 i),(16,C7 (List Str) 1 strsC files),(17,C0 files.length),(18,C0 i),(23,C7 Str 1 K6 f),(24,C0 f.length),(25,C0 j)],[(20,.tarr files.length 1 ((O5 files i).set i (.buf 713 Int 1 G7 (F5 (E0 files) (f.take j))))),(710,.box [.mut 711,.buf 712 Str 1 K6 (N2 files i j)]),(711,.map Str B46 (A33 (N2 files i j) 0)),(712,.spare (N2 files i j).length 1 9),(713,.spare (F5 (E0 files) (f.take j)).length 1 3)])) (fun j=>j≤f.length) (fun j=>f.length - j) 0 (Nat.zero_le _) ?_ ?_
  ·exact J70 ⟨le1 rfl,le1 rfl,le1 rfl,le1 rfl,le1 rfl,le1 rfl,le1 rfl,le1 rfl,le1 rfl,trivial⟩ ⟨rfl,rfl,rfl,rfl,rfl,trivial⟩
  intro j hj
  dsimp only at hj ⊢
  refine k2 ?_
  refine A4 (A3 (F0 Z Z) Z (A7 ?_))
  refine k1 (k2 ?_)
  refine B6 rfl (fun ht=>?_) (fun ht=>?_)
  ·have hlt2:j < f.length:=by have:=A0 ht;omega
   obtain ⟨s,hs⟩:∃s,s=f[j]:=⟨_,rfl⟩
   have hvs:f[j]?=some s:=by rw [hs];simp [hlt2]
   have hstep:=G32 files i j s (by rw [←hf];exact hvs)
   obtain ⟨names,hnm⟩:∃names,names=N2 files i j:=⟨_,rfl⟩
   have hnl:=E86 files i j
   obtain ⟨rest,hrest⟩:=D77 files i (j+1)
   obtain ⟨ids,hids⟩:∃ids,ids=F5 (E0 files) (f.take j):=⟨_,rfl⟩
   have hil:ids.length=j:=by rw [hids];simp [F5];omega
   have hnext:F5 (E0 files) (f.take (j+1))=ids++[H1 (E0 files) s 0]:=by
    rw [hids,K14 hlt2,←hs];unfold F5;rw [K19];rfl
   rw [hstep] at hrest
   rw [←hnm] at hstep hnl hrest ⊢
   rw [←hids]
   have hTi:((O5 files i).set i (.buf 713 Int 1 G7 ids))[((i:Nat):Int).toNat]?=some (.buf 713 Int 1 G7 ids):=by
    rw [K12,List.getElem?_set_self (by rw [hrl];omega)]
   have hTi2:(((O5 files i).set i (.buf 713 Int 1 G7 ids)).map (TC.forget 712))[((i:Nat):Int).toNat]?=some (.buf 713 Int 1 G7 ids):=by
    rw [K31,hTi];rfl
   refine k5 (k1 (k2 (k3 (k2 ?_))))
   refine A4 (A3 (B4 Z (.pure _ _ _ _) Z (by omega) hvs) Z (A3 (C8 Z Z) Z (A3 (A6 Z Z) Z (A7 ?_))))
   by_cases hmem:s∈names
   ·have hns:K7 names s=names:=by unfold K7;rw [if_pos hmem]
    rw [hns] at hstep hrest
    have hpl:H1 (E0 files) s 0=H1 names s 0:=by rw [hrest];exact B81 s rest names 0 hmem
    refine L1 ?_
    refine M7 ((9,Y3 s)::[(4,.s (.one (.ref 710 0))),(5,.s (.one (.mut 20))),(6,C0 i),(16,C7 (List Str) 1 strsC files),(17,C0 files.length),(18,C0 i),(23,C7 Str 1 K6 f),(24,C0 f.length),(25,C0 j)]) [(20,.tarr files.length 1 ((O5 files i).set i (.buf 713 Int 1 G7 ids))),(710,.box [.mut 711,.buf 712 Str 1 K6 names]),(711,.map Str B46 (A33 names 0)),(712,.spare names.length 1 9),(713,.spare ids.length 1 3)] (J70 ⟨le1 rfl,le1 rfl,le1 rfl,le1 rfl,le1 rfl,le1 rfl,le1 rfl,le1 rfl,le1 rfl,le1 rfl,trivial⟩ ⟨rfl,rfl,rfl,rfl,rfl,trivial⟩) ?_
    refine Q4 [12,10,8] [[],[8],[10,8],[12,10,8]] [(8,([],[])),(10,([713],[34])),(12,([],[]))] [(0,[]),(1,[]),(2,[]),(3,[]),(4,[]),(5,[]),(6,[]),(7,[]),(8,[]),(9,[8]),(10,[8]),(11,[10,8]),(12,[10,8])] [(0,[8]),(0,[10,8]),(1,[8]),(1,[10,8]),(2,[8]),(3,[8]),(4,[8]),(5,[8])] (by kernel_rfl) (by kernel_rfl) (D9 Z Z (by kernel_rfl) Z Z (A5 Z Z) (D9 Z Z (by kernel_rfl) Z Z (A5 Z Z) (D9 Z Z (by kernel_rfl) Z Z (A5 Z Z) (D9 Z Z (by kernel_rfl) Z Z (A5 Z Z) (D9 Z Z (by kernel_rfl) Z Z (R3 Z Z Z (by omega) (by omega)) (D9 Z Z (by kernel_rfl) Z Z (A03 Z Z (by first | exact hTi | exact hTi2)) ?_))))));refine D9 Z Z (by kernel_rfl) Z Z (A5 Z Z) (D9 Z Z (by kernel_rfl) Z Z (A5 Z Z) (i7 Z Z (by kernel_rfl) Z Z (G65 (fun gf=>tid_old names s hmem Z Z) Z Z) Z (D9 Z Z (by kernel_rfl) Z Z (E6 (c:=G7) (ys:=[H1 names s 0]) (F3 Z Z Z Z I6) Z Z Z) (i7 Z Z (by kernel_rfl) Z Z (D21 (fun frc hU=>I9 (m9 hU Z) Z (m9 hU Z) (.pure _ _ _ _) (by (simp only [K07,K10];omega)) Z)) Z (D9 Z Z (by kernel_rfl) Z Z (R3 Z Z Z (by omega) (by omega)) (i7 Z Z (by kernel_rfl) Z Z (F55 (fun frc hU=>B52 TySz.out (m9 hU Z) Z (by (simp;omega)) (m9 hU Z) Z)) Z ?_))))));refine D52 (by kernel_rfl) rfl ?_ ?_
    ·refine J0 Z Z (by kernel_rfl) Z Z (A5 Z Z) (J0 Z Z (by kernel_rfl) Z Z (A5 Z Z) (J0 Z Z (by kernel_rfl) Z Z (A5 Z Z) (J0 Z Z (by kernel_rfl) Z Z (A5 Z Z) (J0 Z Z (by kernel_rfl) Z Z (A5 Z Z) (J0 Z Z (by kernel_rfl) Z Z (A5 Z Z) (J0 Z Z (by kernel_rfl) Z Z (R3 Z Z Z (by omega) (by omega)) (J0 Z Z (by kernel_rfl) Z Z (A03 Z Z (by first | exact hTi | exact hTi2)) ?_)))))));exact C71
    refine M7 [(4,.s (.one (.ref 710 0))),(5,.s (.one (.mut 20))),(6,C0 i),(16,C7 (List Str) 1 strsC files),(17,C0 files.length),(18,C0 i),(23,C7 Str 1 K6 f),(24,C0 f.length),(25,C0 j)] [(20,.tarr files.length 1 ((O5 files i).set i (.buf 713 Int 1 G7 (ids++[H1 names s 0])))),(710,.box [.mut 711,.buf 712 Str 1 K6 (names)]),(711,.map Str B46 (A33 (names) 0)),(712,.spare (names).length 1 9),(713,.spare (ids++[H1 names s 0]).length 1 3)] (by rw [K12 i,I71];exact J70 ⟨le1 rfl,le1 rfl,le1 rfl,le1 rfl,le1 rfl,le1 rfl,le1 rfl,le1 rfl,le1 rfl,trivial⟩ ⟨rfl,rfl,rfl,rfl,rfl,trivial⟩) ?_
    refine A4 (A3 (C6 Z Z (by omega)) Z (A3 (A5 Z Z) Z (A7 ?_)))
    refine k1 ?_
    exact ⟨j+1,hlt2,by omega,by rw [hstep,hnext,hpl];exact J70 ⟨le1 rfl,le1 rfl,le1 rfl,le1 rfl,le1 rfl,le1 rfl,le1 rfl,le1 rfl,le1 rfl,trivial⟩ ⟨rfl,rfl,rfl,rfl,rfl,trivial⟩⟩
   ·refine L1 ?_
    have hns:K7 names s=names++[s]:=by unfold K7;rw [if_neg hmem]
    rw [hns] at hstep hrest
    have hkv:A33 (names++[s]) 0=A33 names 0++[(s,.v (.int .i64 (names.length:Int)))]:=by rw [F78];simp only [Int.zero_add]
    have hpl:H1 (E0 files) s 0=names.length:=by
     rw [hrest,B81 s rest (names++[s]) 0 (by simp),D76 s names 0 hmem];omega
    refine M7 ((9,Y3 s)::[(4,.s (.one (.ref 710 0))),(5,.s (.one (.mut 20))),(6,C0 i),(16,C7 (List Str) 1 strsC files),(17,C0 files.length),(18,C0 i),(23,C7 Str 1 K6 f),(24,C0 f.length),(25,C0 j)]) [(20,.tarr files.length 1 ((O5 files i).set i (.buf 713 Int 1 G7 (ids)))),(710,.box [.mut 711,.buf 712 Str 1 K6 (names)]),(711,.map Str B46 (A33 (names) 0)),(712,.spare (names).length 1 9),(713,.spare (ids).length 1 3)] (J70 ⟨le1 rfl,le1 rfl,le1 rfl,le1 rfl,le1 rfl,le1 rfl,le1 rfl,le1 rfl,le1 rfl,le1 rfl,trivial⟩ ⟨rfl,rfl,rfl,rfl,rfl,trivial⟩) ?_
    refine Q4 [12,10,8] [[],[8],[10,8],[12,10,8]] [(8,([712],[])),(10,([713],[34])),(12,([],[]))] [(0,[]),(1,[]),(2,[]),(3,[]),(4,[]),(5,[]),(6,[]),(7,[]),(8,[]),(9,[8]),(10,[8]),(11,[10,8]),(12,[10,8])] [(0,[8]),(0,[10,8]),(1,[8]),(1,[10,8]),(2,[8]),(3,[8]),(4,[8]),(5,[8])] (by kernel_rfl) (by kernel_rfl) (D9 Z Z (by kernel_rfl) Z Z (A5 Z Z) (D9 Z Z (by kernel_rfl) Z Z (A5 Z Z) (D9 Z Z (by kernel_rfl) Z Z (A5 Z Z) (D9 Z Z (by kernel_rfl) Z Z (A5 Z Z) (D9 Z Z (by kernel_rfl) Z Z (R3 Z Z Z (by omega) (by omega)) (D9 Z Z (by kernel_rfl) Z Z (A03 Z Z (by first | exact hTi | exact hTi2)) ?_))))));refine D9 Z Z (by kernel_rfl) Z Z (A5 Z Z) (D9 Z Z (by kernel_rfl) Z Z (A5 Z Z) (i7 Z Z (by kernel_rfl) Z Z (G65 (fun gf=>tid_new names s hmem (by omega) Z Z Z) Z Z) Z (D9 Z Z (by kernel_rfl) Z Z (E6 (c:=G7) (ys:=[(names.length:Int)]) (F3 Z Z Z Z I6) Z Z Z) (i7 Z Z (by kernel_rfl) Z Z (D21 (fun frc hU=>I9 (m9 hU Z) Z (m9 hU Z) (.pure _ _ _ _) (by (simp only [K07,K10];omega)) Z)) Z (D9 Z Z (by kernel_rfl) Z Z (R3 Z Z Z (by omega) (by omega)) (i7 Z Z (by kernel_rfl) Z Z (F55 (fun frc hU=>B52 TySz.out (m9 hU Z) Z (by (simp;omega)) (m9 hU Z) Z)) Z ?_))))));refine D52 (by kernel_rfl) rfl ?_ ?_
    ·refine J0 Z Z (by kernel_rfl) Z Z (A5 Z Z) (J0 Z Z (by kernel_rfl) Z Z (A5 Z Z) (J0 Z Z (by kernel_rfl) Z Z (A5 Z Z) (J0 Z Z (by kernel_rfl) Z Z (A5 Z Z) (J0 Z Z (by kernel_rfl) Z Z (A5 Z Z) (J0 Z Z (by kernel_rfl) Z Z (A5 Z Z) (J0 Z Z (by kernel_rfl) Z Z (R3 Z Z Z (by omega) (by omega)) (J0 Z Z (by kernel_rfl) Z Z (A03 Z Z (by first | exact hTi | exact hTi2)) ?_)))))));exact C71
    refine M7 [(4,.s (.one (.ref 710 0))),(5,.s (.one (.mut 20))),(6,C0 i),(16,C7 (List Str) 1 strsC files),(17,C0 files.length),(18,C0 i),(23,C7 Str 1 K6 f),(24,C0 f.length),(25,C0 j)] [(20,.tarr files.length 1 ((O5 files i).set i (.buf 713 Int 1 G7 (ids++[(names.length:Int)])))),(710,.box [.mut 711,.buf 712 Str 1 K6 (names++[s])]),(711,.map Str B46 (A33 (names++[s]) 0)),(712,.spare (names++[s]).length 1 9),(713,.spare (ids++[(names.length:Int)]).length 1 3)] (by rw [K12 i,H69,hkv];exact J70 ⟨le1 rfl,le1 rfl,le1 rfl,le1 rfl,le1 rfl,le1 rfl,le1 rfl,le1 rfl,le1 rfl,trivial⟩ ⟨rfl,rfl,rfl,rfl,rfl,trivial⟩) ?_
    refine A4 (A3 (C6 Z Z (by omega)) Z (A3 (A5 Z Z) Z (A7 ?_)))
    refine k1 ?_
    exact ⟨j+1,hlt2,by omega,by rw [hstep,hnext,hpl];exact J70 ⟨le1 rfl,le1 rfl,le1 rfl,le1 rfl,le1 rfl,le1 rfl,le1 rfl,le1 rfl,le1 rfl,trivial⟩ ⟨rfl,rfl,rfl,rfl,rfl,trivial⟩⟩
  ·have hj2:j=f.length:=by have:=A1 ht;omega
   subst hj2
   rw [K28]
   refine k6 (k7 (k7 (k8 Z (k4 (k1 ?_)))))
   refine G6 (Sees.forget 713) ?_
   have hfr:((O5 files i).set i (.buf 713 Int 1 G7 (F5 (E0 files) f))).map (TC.forget 713)=O5 files (i+1):=by rw [hf];exact G33 files i 713 hlt
   have hnr:N2 files (i+1) 0=N2 files i f.length:=by rw [hf];exact H24 files i
   refine M7 [(4,.s (.one (.ref 710 0))),(5,.s (.one (.mut 20))),(16,C7 (List Str) 1 strsC files),(17,C0 files.length),(18,C0 i)] [(710,.box [.mut 711,.buf 712 Str 1 K6 (N2 files (i+1) 0)]),(711,.map Str B46 (A33 (N2 files (i+1) 0) 0)),(712,.spare (N2 files (i+1) 0).length 1 9),(20,.tarr files.length 1 (O5 files (i+1)))] (by rw [hnr,←hfr];exact J70 ⟨le1 rfl,le1 rfl,le1 rfl,le1 rfl,le1 rfl,trivial⟩ ⟨rfl,rfl,rfl,rfl,trivial⟩) ?_
   refine A4 (A3 (C6 Z Z (by omega)) Z (A3 (A5 Z Z) Z (A7 ?_)))
   refine k1 ?_
   exact ⟨i+1,hlt,by omega,J70 ⟨le1 rfl,le1 rfl,le1 rfl,le1 rfl,le1 rfl,trivial⟩ ⟨rfl,rfl,rfl,rfl,trivial⟩⟩
 ·have hi2:i=files.length:=by have:=A1 ht;omega
  rw [hi2,H25]
  refine G6 (K02 20 (c:=intsC) (files.map (F5 (E0 files))) Z (by simp) (H97 files)) ?_
  refine G6 (Sees.freeze (k:=20) Z) ?_
  refine G6 (Sees.forget 712) ?_
  refine k6 (k2 ?_)
  refine E1 (by kernel_rfl) (by kernel_rfl) (B0 (A5 Z Z) Z Z (B0 (A5 Z Z) Z Z (B0 (B9 Z) Z Z (B0 (A8 Z) Z Z (B0 (A9 Z Z Z) Z Z (B0 (A6 Z Z) Z Z (B0 (A6 Z Z) Z Z (L4 ?_))))))))
  refine k1 (k10 ?_)
  exact B7 (p9 rfl rfl rfl rfl rfl) rfl
theorem C78 (files:List (List Str)) (hn:files.length≤1048576) (hl:files.flatten.length≤536870911):FnOk Tryz.prog 108 [pStrss files] (fun rs=>rs=[pIntss (files.map (F5 (E0 files)))]):=by
 refine FnOk.intro Tryz.func108 (by decide) Z Z Z Z ?_
 refine k2 ?_
 refine A4 (A3 (A6 Z Z) Z (A7 ?_))
 refine k1 (k2 ?_)
 refine A4 (A3 (A5 Z Z) Z (C9 (F65 files hn hl) Z Z Z ?_));rintro _ rfl;refine A3 (A5 Z Z) Z (A3 (C1 Z Z) Z (A3 (C1 Z Z) Z (A3 (A6 Z Z) Z (A3 (A6 Z Z) Z (A7 ?_)))))
 refine k1 (k2 ?_)
 refine A4 (A3 (A5 Z Z) Z (A3 (A6 Z Z) Z (A7 ?_)))
 refine k1 (k10 ?_)
 exact B7 (H6 rfl rfl rfl) rfl
theorem B41:∀(ls:List (List Int)) (acc:List Merged) (p B:Nat),(∀x∈ls,x.length≤B)→acc.length+ls.length*B≤4096→(I2 acc p ls).2=0
 | [],acc,p,B,_,_=>rfl
 | x::r,acc,p,B,h,hb=>by
  have hx:=h x (by simp)
  rw [K07,K26,Nat.one_mul] at hb
  have hj:=A65 acc x p
  unfold I2
  rw [if_neg (by omega)]
  exact B41 r _ _ B (fun y hy=>h y (by simp [hy])) (by omega)
theorem F66 (p:Nat) (h:p≤32):IntKind.u32.wrap (1*2 ^ (min (p:Int).toNat IntKind.u32.bits))=J3 p:=by
 unfold J3;rw [H88 (n:=(p:Int)) (by omega)]
set_option maxHeartbeats 1000000
theorem G15 (ls:List (List Int)) (B:Nat) (hpos:0 < ls.length) (hn:ls.length≤32) (hB:∀x∈ls,x.length≤B) (hb:ls.length*B≤4096):FnOk Tryz.prog 176 [pIntss ls] (fun rs=>rs=[pMerged (H4 ls).1,G5 0]):=by
 obtain ⟨W,hW⟩:∃W,W=(H4 ls).1:=⟨_,rfl⟩
 have hW2:W=(I2 [] 0 ls).1:=by rw [hW];unfold H4;rw [if_neg (by omega)]
 rw [←hW]
 have h0:∀x,ls[(0:Int).toNat]?=some x→x.length≤4096:=fun x hx=>by
  have h1:=hB x (K16 hx)
  have h2:0 < ls.length:=List.length_pos_of_mem (K16 hx)
  have h3:1*B≤ls.length*B:=K20 _ h2
  omega
 have hx0:0 < ls.length→∃x,ls[(0:Int).toNat]?=some x∧x.length≤4096:=fun h=>⟨ls[0],K06 h,h0 _ (K06 h)⟩
 refine FnOk.intro Tryz.func176 (by decide) Z Z Z Z ?_
 refine k2 ?_
 refine A4 (A3 (A6 Z Z) Z (A3 (A6 Z Z) Z (A7 ?_)))
 refine k1 (k2 (k2 ?_))
 obtain ⟨x0,hv0,hxl⟩:=hx0 hpos
 refine A4 (A3 (A5 Z Z) Z (A3 (E3 Z (.pure _ _ _ _)) Z (A3 (R5 Z Z) Z (A3 (A5 Z Z) Z (B1 Z Z Z Z (fun hg=>by rw [hg];exact A5 Z Z) ?_)))));refine B1 Z Z Z Z (fun hg=>by rw [hg];exact E3 Z (.pure _ _ _ _)) ?_;refine B1 Z Z Z Z (fun hg=>by rw [hg];exact R5 Z Z) ?_;refine B1 Z Z Z Z (fun hg=>by rw [hg];exact A5 Z Z) ?_;refine J2 Z Z Z (.gd (.val _)) Z (fun hg=>by obtain ⟨hg1,hg2⟩:=R6 hg;(try rw [hg1]);(try rw [hg2]);exact A5 Z Z) ?_;refine J2 Z Z Z (.gd (.val _)) Z (fun hg=>by have hq:=hg;(try simp at hq);obtain ⟨hg1,hg2⟩:=R6 hg;(try rw [hg1]);(try rw [hg2]);exact B4 Z (.pure _ _ _ _) Z (by omega) hv0) ?_;refine J2 Z Z Z (.gd (.val _)) Z (fun hg=>by obtain ⟨hg1,hg2⟩:=R6 hg;(try rw [hg1]);(try rw [hg2]);exact C8 Z Z) ?_;refine J2 Z Z Z (.gd (.val _)) Z (fun hg=>by obtain ⟨hg1,hg2⟩:=R6 hg;(try rw [hg1]);(try rw [hg2]);exact E3 Z (.pure _ _ _ _)) ?_;refine J2 Z Z Z (.gd (.val _)) Z (fun hg=>by obtain ⟨hg1,hg2⟩:=R6 hg;(try rw [hg1]);(try rw [hg2]);exact R5 Z Z) ?_;refine B1 Z Z Z Z (fun hg=>by rw [hg];exact B5 Z (fun h=>by first | rfl | (rw [h];rfl)) (fun h=>by first | rfl | (rw [h];rfl))) ?_;refine A3 (B5 Z (fun h=>by first | rfl | (rw [h];rfl)) (fun h=>by first | rfl | (rw [h];rfl))) Z ?_;refine A7 ?_
 refine k1 ?_
 refine B6 rfl (fun ht=>?_) (fun ht=>?_)
 ·exfalso
  have q1:¬((ls.length:Int) > 32):=by omega
  have q2:¬((x0.length:Int) > 4096):=by omega
  simp [q1,q2] at ht
 refine M7 [(0,C7 (List Int) 1 intsC ls)] [] (J70 ⟨le1 rfl,trivial⟩ trivial) ?_
 refine k5 (k1 (k2 ?_))
 refine A4 (A3 (T0 _ 2 mergedC) Z (A7 ?_))
 refine k1 (k2 (k2 ?_))
 refine A4 (A3 (A5 Z Z) Z (A3 (E3 Z (.pure _ _ _ _)) Z (A3 (A5 Z Z) Z (A7 ?_))))
 refine k1 (k3 ?_)
 refine E2 (X:=Nat × List Merged) (fun x=>([(4,C7 Merged 2 mergedC x.2),(23,C7 (List Int) 1 intsC ls),(24,C0 ls.length),(25,C0 x.1)],[])) (fun x=>x.1≤ls.length∧x.2.length≤x.1*B∧W=(I2 x.2 x.1 (ls.drop x.1)).1) (fun x=>ls.length - x.1) (0,[]) ⟨Nat.zero_le _,(by simp),hW2⟩ (J70 ⟨le1 rfl,le1 rfl,le1 rfl,le1 rfl,trivial⟩ trivial) ?_
 rintro ⟨p,acc⟩ ⟨hp,hal,hw⟩
 dsimp only at hp hal hw ⊢
 have hpB:p*B≤ls.length*B:=K20 _ hp
 refine k2 ?_
 refine A4 (A3 (F0 Z Z) Z (A7 ?_))
 refine k1 (k2 ?_)
 refine B6 rfl (fun ht=>?_) (fun ht=>?_)
 rotate_left
 ·have hpl:p=ls.length:=by have:=A1 ht;omega
  rw [hpl,K15 (Nat.le_refl _)] at hw
  have hw:W=acc:=hw
  refine k6 (k2 ?_)
  refine A4 (A3 (A5 Z Z) Z (A3 (A6 Z Z) Z (A3 (A6 Z Z) Z (A7 ?_))))
  refine k1 (k10 ?_)
  exact B7 (p9 rfl rfl rfl rfl rfl) (by rw [hw])
 have hlt:p < ls.length:=by have:=A0 ht;omega
 have hv:ls[p]?=some ls[p]:=by simp [hlt]
 have hx:=hB _ (K17 hlt)
 rw [K11 hlt,I2] at hw
 obtain ⟨x,hxd⟩:∃x,x=ls[p]:=⟨_,rfl⟩
 rw [←hxd] at hv hx hw
 have h1B:1*B≤ls.length*B:=K20 _ hpos
 rw [if_neg (by omega)] at hw
 have hjs:=A65 acc x p
 have hM:=I68 acc x (J3 p) (by omega) (by omega)
 have hres:D24 acc x (J3 p)=Z2 acc x p:=rfl
 rw [hres] at hM
 refine k5 (k1 (k2 (k3 (k2 ?_))))
 refine A4 (A3 (A5 Z Z) Z (A3 (B4 Z (.pure _ _ _ _) Z (by omega) hv) Z (A3 (C8 Z Z) Z (A3 (A6 Z Z) Z (A3 (A6 Z Z) Z (A7 ?_))))))
 refine k1 (k2 ?_)
 refine A4 (A3 (A6 Z Z) Z (A7 ?_))
 refine k1 (k2 ?_)
 refine A4 (A3 (A5 Z Z) Z (A3 (A5 Z Z) Z (A3 (A5 Z Z) Z (A3 (n_shl Z Z (by (show (0:Int)≤(p:Int);omega))) Z ?_))));rw [F66 p (by omega)];refine C9 hM Z Z Z ?_;rintro _ rfl;refine A3 (A5 Z Z) Z (A3 (C1 Z Z) Z (A3 (C1 Z Z) Z (A3 (A6 Z Z) Z (A3 (A6 Z Z) Z (A7 ?_)))))
 refine k1 (k2 ?_)
 refine A4 (A3 (A5 Z Z) Z (A3 (K2 Z Z) Z (A7 ?_)))
 refine k1 ?_
 refine B6 rfl (fun ht=>?_) (fun ht=>?_)
 ·cases ht
 refine k5 (k4 (k1 ?_))
 refine A4 (A3 (C6 Z Z (by omega)) Z (A3 (A5 Z Z) Z (A7 ?_)))
 refine k1 ?_
 exact ⟨(p+1,Z2 acc x p),⟨by dsimp only;omega,by dsimp only;rw [K26];omega,hw⟩,by dsimp only;omega,J70 ⟨le1 rfl,le1 rfl,le1 rfl,le1 rfl,trivial⟩ trivial⟩
theorem E45 (files:List (List Str)) (hn:files.length≤1048576) (hl:files.flatten.length≤536870911):FnOk Tryz.prog 109 [pStrss files] (fun rs=>rs=[d6 (E0 files)]):=by
 refine FnOk.intro Tryz.func109 (by decide) Z Z Z Z ?_
 refine k2 ?_
 refine A4 (A3 (A6 Z Z) Z (A7 ?_))
 refine k1 (k2 ?_)
 refine A4 (A3 (A5 Z Z) Z (C9 (F65 files hn hl) Z Z Z ?_));rintro _ rfl;refine A3 (A5 Z Z) Z (A3 (C1 Z Z) Z (A3 (C1 Z Z) Z (A3 (A6 Z Z) Z (A3 (A6 Z Z) Z (A7 ?_)))))
 refine k1 (k2 ?_)
 refine A4 (A3 (A5 Z Z) Z (A3 (A6 Z Z) Z (A7 ?_)))
 refine k1 (k10 ?_)
 exact B7 (H6 rfl rfl rfl) rfl
abbrev S5 (m:Nat):List TC:=P2 intsC m 0 (fun _=>([]:List (List Int)))
abbrev l6 (names:List Str) (lines:List Int) (n:Nat):Ob:=.box [.p (.list Str 1 K6 names),.p (.list Int 1 G7 lines),.mut 731,.mut 732,.p (.v (.int .i64 n)),.p (.v (.slice none 0 0))]
abbrev A13:Ob:=.box [.p (.v (.int .i64 0)),.p (.v (.slice none 0 0))]
abbrev B65 (names:List Str) (lines ms:List Int) (g:Nat→List (List Int)) (n m:Nat):Obs :=
 (4,A13)::(730,l6 names lines n)::(731,.arr Int 1 C63 ms)::(732,.growT 138 m 1 (S5 m))::M1 intsC g (List.range m)
theorem B66 {m k:Nat} (hk:k < 1000):(S5 m).all (TC.free k)=true:=by
 rw [List.all_eq_true]
 intro t ht
 obtain ⟨r,_,rfl⟩:=List.mem_map.1 ht
 rw [if_neg (by omega)]
 simp [TC.free,I8 (show r+1000≠k by omega)]
theorem H70 {names:List Str} {lines ms:List Int} {g:Nat→List (List Int)} {n m:Nat}:J6 708 (B65 names lines ms g n m)=true:=by
 have h1:=C34 (k:=708) (by omega) (List.range m) (fun r _=>by omega) (c:=intsC) (g:=g)
 have h2:=B66 (m:=m) (k:=708) (by omega)
 simp only [J6,Ob.free,h1,h2]
 rfl
theorem obs_top {i:Nat} {x y:Ob} {rest:Obs}:∀k o,C3 ((i,x)::rest) k=some o→C3 ((i,x)::(i,y)::rest) k=some o:=by
 intro k o h
 by_cases hk:i=k
 ·subst hk;rw [D2] at h ⊢;exact h
 ·rw [B3 hk] at h;rw [B3 hk,B3 hk];exact h
abbrev chBox (a b c d:Int):Ob:=.box [.p (.v (.int .i64 a)),.p (.v (.int .i64 b)),.p (.v (.int .i64 c)),.p (.v (.int .i64 d))]
set_option maxHeartbeats 1000000
theorem J35 {gf:Fr} (names:List Str) (lines file ms:List Int) (g:Nat→List (List Int)) (n p:Nat) (hl:lines.length≤4096) (hf:file.length≤4096) (hms:ms.length=lines.length) (hp:p < 32) (hpn:p < n) (hg:∀k,(g k).length=n) :
  AL.Met Tryz.prog 110 [.one (.ref 730 0),.one (.p (.v (.int .i64 p))),.one (.p (.list Int 1 G7 file))] gf (B65 names lines ms g n (lines.length+1)) [708]
   (fun rs ob'=>rs=[.one (.p (.v (.int .i64 0)))]∧ob'=B65 names lines ((M5 file lines).foldl (O0 p) ms) ((M5 file lines).foldl (P5 p file) g) n (lines.length+1)):=by
 have hS:=C44 file lines hf hl
 have hwb:=G21 file lines
 have hml:=A82 (G9 0 0 file lines) 0 0 file.length lines.length
 have hwl:=A04 0 0 file lines
 obtain ⟨cs,hcs⟩:∃cs,cs=M5 file lines:=⟨_,rfl⟩
 have hcsl:cs.length≤4097:=by rw [hcs];unfold M5 A23;omega
 rw [←hcs] at hS hwb ⊢
 refine AL.Met.introH Tryz.func110 (by decide) rfl rfl rfl (fun hH=>?_)
 refine k2 ?_
 refine A4 (A3 (A6 Z Z) Z (A7 ?_))
 refine k1 (k2 ?_)
 refine A4 (A3 (A5 Z Z) Z (A3 (A5 Z Z) Z (A3 (B9 Z) Z (A3 (A8 Z) Z (A3 (A9 Z Z Z) Z (C9 (hS) Z Z Z ?_))))));rintro _ rfl;refine A3 (A5 Z Z) Z (A3 (C1 Z Z) Z (A3 (C1 Z Z) Z (A3 (A6 Z Z) Z (A3 (A6 Z Z) Z (A7 ?_)))))
 refine k1 (k2 (k2 ?_))
 refine A4 (A3 (A5 Z Z) Z (A3 (K2 Z Z) Z (A7 ?_)))
 refine k1 ?_
 refine B6 rfl (fun ht=>?_) (fun ht=>?_)
 ·cases ht
 refine k5 (k1 (k2 (k2 ?_)))
 refine A4 (A3 (A5 Z Z) Z (A3 (E3 Z (.pure _ _ _ _)) Z (A3 (A5 Z Z) Z (A7 ?_))))
 refine k1 (k3 ?_)
 refine G6 (J88 [708] (l:=[(0,.s (.one (.ref 730 0))),(1,C0 p),(2,C7 Int 1 G7 file),(24,C7 Change 4 changeC cs),(25,C0 cs.length),(26,C0 0)]) (ob':=B65 names lines ms g n (lines.length+1)) ⟨le1 rfl,le1 rfl,le1 rfl,le1 rfl,le1 rfl,le1 rfl,trivial⟩ hH (by repeat (first | exact D5 | refine D4 rfl ?_)) (fun _ _ h=>h)) ?_
 refine E2 (X:=Nat) (fun i=>([(0,.s (.one (.ref 730 0))),(1,C0 p),(2,C7 Int 1 G7 file),(24,C7 Change 4 changeC cs),(25,C0 cs.length),(26,C0 i)]++E4 [708] gf,B65 names lines ((cs.take i).foldl (O0 p) ms) ((cs.take i).foldl (P5 p file) g) n (lines.length+1))) (fun i=>i≤cs.length) (fun i=>cs.length - i) 0 (Nat.zero_le _) (J87 fun _ _ h=>h) ?_
 intro i hi
 dsimp only at hi ⊢
 refine k2 ?_
 refine A4 (A3 (F0 Z Z) Z (A7 ?_))
 refine k1 (k2 ?_)
 refine B6 rfl (fun ht=>?_) (fun ht=>?_)
 rotate_left
 ·have hil:i=cs.length:=by have:=A1 ht;omega
  rw [hil,K28]
  refine k6 (k2 ?_)
  refine A4 (A3 (A6 Z Z) Z (A7 ?_))
  refine k1 (k10 ?_)
  exact K8 (Y6 rfl rfl) (by repeat (first | exact D5 | refine D4 rfl ?_)) (fun _ _ h=>h) ⟨rfl,rfl⟩
 have hlt:i < cs.length:=by have:=A0 ht;omega
 have hv:cs[i]?=some cs[i]:=by simp [hlt]
 have hcb:=hwb _ (K17 hlt)
 have hst1:(cs.take (i+1)).foldl (O0 p) ms=O0 p ((cs.take i).foldl (O0 p) ms) cs[i]:=by rw [K14 hlt,K51];rfl
 have hst2:(cs.take (i+1)).foldl (P5 p file) g=P5 p file ((cs.take i).foldl (P5 p file) g) cs[i]:=by rw [K14 hlt,K51];rfl
 have hmi:((cs.take i).foldl (O0 p) ms).length=lines.length:=by
  have key:∀(q:List Change) (ms:List Int),(q.foldl (O0 p) ms).length=ms.length:=by
   intro q
   induction q with
   | nil=>intro ms;rfl
   | cons c r ih=>intro ms;rw [K35,ih,A07]
  rw [key,hms]
 have hgi:∀k,((cs.take i).foldl (P5 p file) g k).length=n:=by
  have key:∀(q:List Change) (g:Nat→List (List Int)),(∀k,(g k).length=n)→∀k,(q.foldl (P5 p file) g k).length=n:=by
   intro q
   induction q with
   | nil=>intro g h;exact h
   | cons c r ih =>
    intro g h
    refine ih _ (fun k=>?_)
    unfold P5
    split
    ·rw [K54];exact h k
    ·exact h k
  exact key _ _ hg
 obtain ⟨m1,hm1⟩:∃m1,m1=(cs.take i).foldl (O0 p) ms:=⟨_,rfl⟩
 obtain ⟨g1,hg1⟩:∃g1,g1=(cs.take i).foldl (P5 p file) g:=⟨_,rfl⟩
 obtain ⟨c,hc⟩:∃c,c=cs[i]:=⟨_,rfl⟩
 rw [←hm1] at hst1 hmi ⊢
 rw [←hg1] at hst2 hgi ⊢
 rw [←hc] at hv hcb hst1 hst2
 obtain ⟨co,col,cn,cnl⟩:=c
 dsimp only at hcb
 obtain ⟨A,rfl⟩:∃A:Nat,co=A:=⟨co.toNat,by omega⟩
 obtain ⟨B,rfl⟩:∃B:Nat,col=B:=⟨col.toNat,by omega⟩
 obtain ⟨C,rfl⟩:∃C:Nat,cn=C:=⟨cn.toNat,by omega⟩
 obtain ⟨D,rfl⟩:∃D:Nat,cnl=D:=⟨cnl.toNat,by omega⟩
 have hfree:∀ms',J6 708 (B65 names lines ms' g1 n (lines.length+1))=true:=fun ms'=>H70
 obtain ⟨hf1,hf2,_⟩:=U6 (hfree m1)
 refine k5 (k1 (k2 (k3 (k2 ?_))))
 refine A4 (A3 (B4 Z (.pure _ _ _ _) Z (by omega) hv) Z (A3 (D6 Z Z) Z (C5 (D94 708 hf2 (by decide)) Z (E7 (B2 TySz.out Z Z Z Z Z Z) (A7 ?_)))))
 rw [hf1]
 refine M7 ([(0,.s (.one (.ref 730 0))),(1,C0 p),(2,C7 Int 1 G7 file),(10,.s (.one (.ref 708 0))),(24,C7 Change 4 changeC cs),(25,C0 cs.length),(26,C0 i)]++E4 [708] gf) ((708,chBox A B C D)::B65 names lines m1 g1 n (lines.length+1)) (J71 ⟨le1 rfl,le1 rfl,le1 rfl,le1 rfl,le1 rfl,le1 rfl,le1 rfl,trivial⟩ (N7 hH) (by repeat (first | exact D5 | refine D4 rfl ?_ | refine B13 _ rfl ?_)) obs_top) ?_
 refine k2 (k2 ?_)
 refine A4 (A3 (A8 Z) Z (A3 (A9 Z Z Z) Z (A3 (A6 Z Z) Z (A7 ?_))))
 refine k1 (k3 ?_)
 refine E2 (X:=Nat) (fun t=>([(0,.s (.one (.ref 730 0))),(1,C0 p),(2,C7 Int 1 G7 file),(10,.s (.one (.ref 708 0))),(11,C0 ((C+t:Nat):Int)),(24,C7 Change 4 changeC cs),(25,C0 cs.length),(26,C0 i)]++E4 [708] gf,(708,chBox A B C D)::B65 names lines (O0 p m1 ⟨A,B,C,t⟩) g1 n (lines.length+1))) (fun t=>t≤D) (fun t=>D - t) 0 (Nat.zero_le _) ?_ ?_
 ·dsimp only
  rw [show ((0:Nat):Int)=0 from rfl,H22]
  exact J71 ⟨le1 rfl,le1 rfl,le1 rfl,le1 rfl,le1 rfl,le1 rfl,le1 rfl,le1 rfl,trivial⟩ (N7 hH) (by repeat (first | exact D5 | refine D4 rfl ?_)) (fun _ _ h=>h)
 intro t ht1
 dsimp only at ht1 ⊢
 have hsl:=A07 p m1 ⟨A,B,C,t⟩
 refine k2 (k2 ?_)
 refine A4 (A3 (A5 Z Z) Z (A3 (A8 Z) Z (A3 (A9 Z Z Z) Z (A3 (A8 Z) Z (A3 (A9 Z Z Z) Z (A3 (C6 Z Z (by omega)) Z (A3 (F0 Z Z) Z (A7 ?_))))))))
 refine k1 ?_
 refine B6 rfl (fun ht=>?_) (fun ht=>?_)
 ·have hltD:t < D:=by have:=A0 ht;omega
  obtain ⟨q1,q2⟩:=H23 p m1 A B C t (by omega)
  have hv2:(O0 p m1 ⟨A,B,C,t⟩)[((C+t:Nat):Int).toNat]?=some (m1.getD (C+t) 0):=by rw [K12];exact q1
  refine k5 (k1 (k2 (k3 ?_)))
  refine E1 (by kernel_rfl) (by kernel_rfl) (B0 (A5 Z Z) Z Z (B0 (B9 Z) Z Z (B0 (A8 Z) Z Z (B0 (A9 Z Z Z) Z Z (B0 (A5 Z Z) Z Z (B0 (H9 Z Z Z (by omega) (by (rw [hsl];omega))) Z Z ?_))))));refine B0 (V2 Z Z hv2 Z) Z Z (B0 (A5 Z Z) Z Z (B0 (n_shl Z Z (by (show (0:Int)≤(p:Int);omega))) Z Z ?_));refine B0 (A75 Z Z Z (fun _=>rfl)) Z Z (B0 (H9 Z Z Z (by omega) (by (rw [hsl];omega))) Z Z ?_);refine B39 (L2 TySz.out Z Z (by (rw [hsl];omega)) Z Z) Z ?_;refine L4 ?_
  rw [F66 p (by omega)]
  refine k4 (k1 ?_)
  refine A4 (A3 (A5 Z Z) Z (A3 (C6 Z Z (by omega)) Z (A3 (A6 Z Z) Z (A7 ?_))))
  refine k1 ?_
  refine ⟨t+1,by omega,by omega,?_⟩
  rw [←q2]
  refine J71 ⟨le1 rfl,le1 rfl,le1 rfl,le1 rfl,leE rfl (by rw [show ((C+(t+1):Nat):Int)=((C+t:Nat):Int)+1 by omega]),le1 rfl,le1 rfl,le1 rfl,trivial⟩ (N7 hH) (by repeat (first | exact D5 | refine tail_drop rfl ?_ | refine D4 rfl ?_ | refine B13 _ rfl ?_)) ?_
  exact B12 (L:=[(708,_),(4,_),(730,_),(731,_),(732,_)]) ⟨rfl,rfl,rfl,rfl,rfl,trivial⟩ (by repeat (first | exact A94 | refine A95 rfl ?_))
 have htD:t=D:=by have:=A1 ht;omega
 subst htD
 rw [←hst1]
 have hC:C < lines.length+1:=by omega
 have hrow:(S5 (lines.length+1))[C]?=some (.mut (C+1000)):=G56 hC (Nat.zero_le _)
 have hgl:(S5 (lines.length+1)).length=lines.length+1:=E16
 obtain ⟨m2,hm2⟩:∃m2,m2=(cs.take (i+1)).foldl (O0 p) ms:=⟨_,rfl⟩
 rw [←hm2]
 have hob:C3 ((708,chBox A B C t)::B65 names lines m2 g1 n (lines.length+1)) (C+1000)=some (.arr (List Int) 1 intsC (g1 C)):=by
  rw [B3 (by omega),B3 (by omega),B3 (by omega),B3 (by omega),B3 (by omega)]
  exact B97 (List.mem_range.2 hC)
 have hgC:=hgi C
 have eAB:((A:Int)+B).toNat - (A:Int).toNat=B:=by omega
 have hnew:(g1 C).set p ((file.drop A).take B)=(cs.take (i+1)).foldl (P5 p file) g C:=by
  rw [hst2,P5,if_pos (by simp)]
  dsimp only
  rw [eAB,K12]
 have hsame:∀q,q≠C→(cs.take (i+1)).foldl (P5 p file) g q=g1 q:=by
  intro q hq
  rw [hst2,P5,if_neg (by simpa using hq)]
 refine k6 (k7 (k7 (k8 Z (k1 ?_))))
 refine E1 (by kernel_rfl) (by kernel_rfl) (B0 (A5 Z Z) Z Z (B0 (B9 Z) Z Z (B0 (A8 Z) Z Z (B0 (A9 Z Z Z) Z Z (B0 (A8 Z) Z Z (B0 (A9 Z Z Z) Z Z (B0 (E39 Z Z Z (by omega) (by (first | omega | (rw [K12];omega)))) Z Z (B0 (I58 Z Z (by simpa using hrow)) Z Z (B0 (A5 Z Z) Z Z (B0 (A5 Z Z) Z Z (B0 (A8 Z) Z Z (B0 (A9 Z Z Z) Z Z (B0 (A8 Z) Z Z (B0 (A9 Z Z Z) Z Z (B0 (A8 Z) Z Z (B0 (A9 Z Z Z) Z Z (B0 (C6 Z Z (by omega)) Z Z (B0 (O8 Z (.pure _ _ _ _) Z Z (by omega) (by omega) (by omega)) Z Z (B0 (H9 Z hob Z (by omega) (by (first | omega | (rw [hgC];omega)))) Z Z (B39 (L2 TySz.out Z hob (by (first | omega | (rw [K12,hgC];omega))) Z Z) Z (L4 ?_)))))))))))))))))))))
 rw [eAB,K12,K12,hnew]
 refine k4 (k1 ?_)
 refine A4 (A3 (C6 Z Z (by omega)) Z (A3 (A5 Z Z) Z (A7 ?_)))
 refine k1 ?_
 refine ⟨i+1,by omega,by omega,?_⟩
 refine J71 ⟨le1 rfl,le1 rfl,le1 rfl,le1 rfl,le1 rfl,le1 rfl,trivial⟩ (N7 hH) (by repeat (first | exact D5 | refine tail_drop rfl ?_ | refine D4 rfl ?_ | refine B13 _ rfl ?_)) ?_
 rw [←hm2]
 obtain ⟨g2,hg2⟩:∃g2,g2=(cs.take (i+1)).foldl (P5 p file) g:=⟨_,rfl⟩
 rw [←hg2] at hsame ⊢
 intro k o hk
 have h1:=J22 (c:=intsC) (g:=g1) (g':=g2) (pre:=[(4,A13),(730,l6 names lines n),(731,.arr Int 1 C63 m2),(732,.growT 138 (lines.length+1) 1 (S5 (lines.length+1)))]) rfl (List.mem_range.2 hC) hsame k o hk
 by_cases hkC:C+1000=k
 ·subst hkC;rw [D2] at h1 ⊢;exact h1
 ·rw [B3 hkC] at h1 ⊢
  by_cases h7:708=k
  ·subst h7
   have:C3 ([(4,A13),(730,l6 names lines n),(731,.arr Int 1 C63 m2),(732,.growT 138 (lines.length+1) 1 (S5 (lines.length+1)))]++M1 intsC g1 (List.range (lines.length+1))) 708=none:=by
    rw [P1 rfl];exact J21 (by omega)
   rw [this] at h1;cases h1
  ·rw [B3 h7];exact h1
abbrev A46 (names:List Str) (lines ms:List Int) (gs:List (List (List Int))) (n:Nat) (rows:List Row):Obs :=
 [(4,A13),(730,.box [.p (.list Str 1 K6 names),.p (.list Int 1 G7 lines),.p (.list Int 1 C63 ms),.p (.list (List (List Int)) 1 intssC gs),.p (.v (.int .i64 n)),.buf 733 Row 3 rowC rows]),(733,.spare rows.length 3 69)]
set_option maxHeartbeats 1000000
theorem H71 {gf:Fr} (names file:List Str) (lines ms:List Int) (g:Nat→List (List Int)) (n B:Nat) (hl:file.length≤4096) (hll:lines.length=file.length) (hms:ms.length=file.length) (hn:1≤n∧n≤32) (hB:n*B≤4096)
  (hg:∀k,(g k).length=n∧∀x∈g k,x.length≤B∧∀v∈x,0≤v∧v < (names.length:Int)) (hnm:∀k,k < file.length→0≤lines.getD k 0∧names[(lines.getD k 0).toNat]?=some (file.getD k [])) :
  AL.Met Tryz.prog 111 [.one (.ref 730 0)] gf (A46 names lines ms ((List.range (file.length+1)).map g) n []) [708,733]
   (fun rs ob'=>rs=[.one (.p (.v (.int .i64 0)))]∧ob'=A46 names lines ms ((List.range (file.length+1)).map g) n (X4 names file (ms,g) (file.length+1))):=by
 obtain ⟨gs,hgs⟩:∃gs,gs=(List.range (file.length+1)).map g:=⟨_,rfl⟩
 have hgl:gs.length=file.length+1:=by rw [hgs];simp
 obtain ⟨R,hR⟩:∃R:Nat→List Row,R=fun k=>X4 names file (ms,g) k:=⟨_,rfl⟩
 obtain ⟨F,hF⟩:∃F:Merged→Row,F=fun m=>⟨true,m.Parents,names.getD m.Line.toNat []⟩:=⟨_,rfl⟩
 have hcs:∀k,(H4 (g k)).1.length≤4096∧∀m∈(H4 (g k)).1,(0≤m.Parents∧m.Parents < 4294967296)∧0≤m.Line∧m.Line < (names.length:Int):=fun k=>by
  have h3:=A83 (fun v=>0≤v∧v < (names.length:Int)) B (g k) (hg k).2
  rw [(hg k).1] at h3
  exact ⟨by omega,h3.2⟩
 have hR1:∀k,R (k+1)=R k++((H4 (g k)).1.map F++(if k < file.length then [⟨false,ms.getD k 0,file.getD k []⟩] else [])):=fun k=>by
  rw [hR];dsimp only;rw [D68,S8,hF]
 have hRl:∀k,(R k).length≤k*4097:=fun k=>by
  induction k with
  | zero=>rw [hR];simp [X4]
  | succ k ih=>rw [hR1];have:=(hcs k).1;simp only [K05,K29];split<;>simp<;>omega
 have hRn:X4 names file (ms,g) (file.length+1)=R (file.length+1):=by rw [hR]
 rw [hRn,←hgs]
 have hR0:R 0=[]:=by rw [hR];rfl
 refine AL.Met.introH Tryz.func111 (by decide) rfl rfl rfl (fun hH=>?_)
 refine k2 ?_
 refine A4 (A3 (A6 Z Z) Z (A7 ?_))
 refine k1 (k2 (k2 ?_))
 refine A4 (A3 (A5 Z Z) Z (A3 (B9 Z) Z (A3 (A8 Z) Z (A3 (A9 Z Z Z) Z (A3 (E3 Z (.pure _ _ _ _)) Z (A3 (A5 Z Z) Z (A7 ?_)))))))
 refine k1 (k3 ?_)
 refine G6 (J88 [708,733] (l:=[(0,.s (.one (.ref 730 0))),(12,C7 (List (List Int)) 1 intssC gs),(13,C0 gs.length),(14,C0 0)]) (ob':=A46 names lines ms gs n []) ⟨le1 rfl,le1 rfl,le1 rfl,le1 rfl,trivial⟩ hH (by repeat (first | exact D5 | refine D4 rfl ?_)) (fun _ _ h=>h)) ?_
 refine E2 (X:=Nat) (fun k=>([(0,.s (.one (.ref 730 0))),(12,C7 (List (List Int)) 1 intssC gs),(13,C0 gs.length),(14,C0 k)]++E4 [708,733] gf,A46 names lines ms gs n (R k))) (fun k=>k≤file.length+1) (fun k=>file.length+1 - k) 0 (Nat.zero_le _) (by rw [hR0];exact J87 fun _ _ h=>h) ?_
 intro k hk
 dsimp only at hk ⊢
 have hRk:=hRl k
 refine k2 ?_
 refine A4 (A3 (F0 Z Z) Z (A7 ?_))
 refine k1 (k2 ?_)
 refine B6 rfl (fun ht=>?_) (fun ht=>?_)
 rotate_left
 ·have hkl:k=file.length+1:=by have:=A1 ht;omega
  rw [hkl]
  refine k6 (k2 ?_)
  refine A4 (A3 (A6 Z Z) Z (A7 ?_))
  refine k1 (k10 ?_)
  exact K8 (Y6 rfl rfl) (by repeat (first | exact D5 | refine D4 rfl ?_)) (fun _ _ h=>h) ⟨rfl,rfl⟩
 have hlt:k < file.length+1:=by have:=A0 ht;omega
 have hgv:gs[k]?=some (g k):=by rw [hgs,K31,K44 hlt];rfl
 have hck:=hcs k
 have hgk:=hg k
 have hC:=G15 (g k) B (by omega) (by omega) (fun x hx=>(hgk.2 x hx).1) (by rw [hgk.1];exact hB)
 have hRs:=hR1 k
 obtain ⟨l,hld⟩:∃l,l=(H4 (g k)).1:=⟨_,rfl⟩
 rw [←hld] at hck hC hRs
 refine k5 (k1 (k2 (k3 (k2 ?_))))
 refine A4 (A3 (A5 Z Z) Z (A3 (B4 Z (.pure _ _ _ _) Z (by omega) hgv) Z (A3 (C8 Z Z) Z (A3 (A6 Z Z) Z (A3 (A6 Z Z) Z (A7 ?_))))))
 refine k1 (k2 ?_)
 refine A4 (A3 (A5 Z Z) Z (C9 (hC) Z Z Z ?_));rintro _ rfl;refine A3 (A5 Z Z) Z (A3 (C1 Z Z) Z (A3 (C1 Z Z) Z (A3 (A6 Z Z) Z (A3 (A6 Z Z) Z (A7 ?_)))))
 refine k1 (k2 (k2 ?_))
 refine A4 (A3 (A5 Z Z) Z (A3 (K2 Z Z) Z (A7 ?_)))
 refine k1 ?_
 refine B6 rfl (fun ht=>?_) (fun ht=>?_)
 ·cases ht
 refine k5 (k1 (k2 (k2 ?_)))
 refine A4 (A3 (A5 Z Z) Z (A3 (E3 Z (.pure _ _ _ _)) Z (A3 (A5 Z Z) Z (A7 ?_))))
 refine k1 (k3 ?_)
 refine E2 (X:=Nat) (fun i=>([(0,.s (.one (.ref 730 0))),(3,C0 k),(12,C7 (List (List Int)) 1 intssC gs),(13,C0 gs.length),(14,C0 k),(27,C7 Merged 2 mergedC l),(28,C0 l.length),(29,C0 i)]++E4 [708,733] gf,A46 names lines ms gs n (R k++(l.take i).map F))) (fun i=>i≤l.length) (fun i=>l.length - i) 0 (Nat.zero_le _) ?_ ?_
 ·dsimp only
  rw [List.take_zero,K46,K27]
  exact J71 ⟨le1 rfl,le1 rfl,le1 rfl,le1 rfl,le1 rfl,le1 rfl,le1 rfl,le1 rfl,trivial⟩ (N7 hH) (by repeat (first | exact D5 | refine D4 rfl ?_)) (fun _ _ h=>h)
 intro i hi
 dsimp only at hi ⊢
 have hil:(R k++(l.take i).map F).length≤k*4097+4096:=by simp only [K05,K29,K22];omega
 refine k2 ?_
 refine A4 (A3 (F0 Z Z) Z (A7 ?_))
 refine k1 (k2 ?_)
 refine B6 rfl (fun ht=>?_) (fun ht=>?_)
 ·have hli:i < l.length:=by have:=A0 ht;omega
  have hlv:l[i]?=some l[i]:=by simp [hli]
  have hlb:=hck.2 l[i] (K17 hli)
  have hst:(l.take (i+1)).map F=(l.take i).map F++[F l[i]]:=by rw [K14 hli];simp only [K19,K13,K46]
  obtain ⟨m,hm⟩:∃m,m=l[i]:=⟨_,rfl⟩
  rw [←hm] at hlv hlb hst
  have hnv:names[m.Line.toNat]?=some (names.getD m.Line.toNat []):=by rw [K09,K06 (by omega)];rfl
  have hFi:F m=⟨true,m.Parents,names.getD m.Line.toNat []⟩:=by rw [hF]
  obtain ⟨Q,hQ⟩:∃Q,Q=R k++(l.take i).map F:=⟨_,rfl⟩
  rw [←hQ] at hil ⊢
  refine k5 (k1 (k2 (k3 (k2 ?_))))
  refine A4 (A3 (B4 Z (.pure _ _ _ _) Z (by omega) hlv) Z (A3 (D6 Z Z) Z (C5 (D94 708 Z (by decide)) Z (E7 (B2 TySz.out Z Z Z Z Z Z) (A7 ?_)))))
  refine k1 ?_
  refine M7 ([(0,.s (.one (.ref 730 0))),(3,C0 k),(8,.s (.one (.ref 708 0))),(12,C7 (List (List Int)) 1 intssC gs),(13,C0 gs.length),(14,C0 k),(27,C7 Merged 2 mergedC l),(28,C0 l.length),(29,C0 i)]++E4 [708,733] gf) ((708,.box [.p (.v (.int .i64 m.Line)),.p (.v (.int .u32 m.Parents))])::A46 names lines ms gs n Q) (J71 ⟨le1 rfl,le1 rfl,le1 rfl,le1 rfl,le1 rfl,le1 rfl,le1 rfl,le1 rfl,le1 rfl,trivial⟩ (N7 hH) (by repeat (first | exact D5 | refine D4 rfl ?_ | refine B13 _ rfl ?_)) (ObIn.spec (ob':=(708,.box [.p (.v (.int .i64 m.Line)),.p (.v (.int .u32 m.Parents))])::A46 names lines ms gs n Q) ⟨rfl,rfl,rfl,rfl,trivial⟩)) ?_
  refine Q4 [22,18] [[],[18],[22,18]] [(18,([733],[38])),(22,([],[]))] [(0,[]),(1,[]),(2,[]),(3,[]),(4,[]),(5,[]),(6,[]),(7,[]),(8,[]),(9,[]),(10,[]),(11,[]),(12,[]),(13,[]),(14,[]),(15,[]),(16,[]),(17,[]),(18,[]),(19,[18]),(20,[18]),(21,[18]),(22,[18])] [(0,[18])] (by kernel_rfl) (by kernel_rfl) (D9 Z Z (by kernel_rfl) Z Z (A5 Z Z) (D9 Z Z (by kernel_rfl) Z Z (A5 Z Z) (D9 Z Z (by kernel_rfl) Z Z (B9 Z) (D9 Z Z (by kernel_rfl) Z Z (A8 Z) (D9 Z Z (by kernel_rfl) Z Z (A8 Z) (D9 Z Z (by kernel_rfl) Z Z (A9 Z Z Z) (D9 Z Z (by kernel_rfl) Z Z (A8 Z) (D9 Z Z (by kernel_rfl) Z Z (A9 Z Z Z) (D9 Z Z (by kernel_rfl) Z Z (A5 Z Z) (D9 Z Z (by kernel_rfl) Z Z (B9 Z) (D9 Z Z (by kernel_rfl) Z Z (A8 Z) (D9 Z Z (by kernel_rfl) Z Z (A9 Z Z Z) (D9 Z Z (by kernel_rfl) Z Z (A8 Z) (D9 Z Z (by kernel_rfl) Z Z (A9 Z Z Z) (D9 Z Z (by kernel_rfl) Z Z (B4 Z (.pure _ _ _ _) Z (by omega) hnv) (D9 Z Z (by kernel_rfl) Z Z (C8 Z Z) (D9 Z Z (by kernel_rfl) Z Z (F9 Z) (D9 Z Z (by kernel_rfl) Z Z (E6 (c:=rowC) (ys:=[⟨true,m.Parents,names.getD m.Line.toNat []⟩]) (F3 Z Z Z Z I6) Z Z Z) (i7 Z Z (by kernel_rfl) Z Z (D21 (fun frc hU=>I9 (m9 hU Z) Z (m9 hU Z) (.pure _ _ _ _) (by (simp only [K07,K10];omega)) Z)) Z (D9 Z Z (by kernel_rfl) Z Z (B9 Z) (D9 Z Z (by kernel_rfl) Z Z (A8 Z) (D9 Z Z (by kernel_rfl) Z Z (A8 Z) (i7 Z Z (by kernel_rfl) Z Z (F55 (fun frc hU=>B2 TySz.out (m9 hU Z) Z (m9 hU Z) Z Z Z)) Z ?_)))))))))))))))))))))));refine w_nilG rfl (by kernel_rfl) rfl ?_ ?_
  ·refine J0 Z Z (by kernel_rfl) Z Z (A5 Z Z) ?_;exact C71
  refine k4 (k1 ?_)
  refine A4 (A3 (C6 Z Z (by omega)) Z (A3 (A5 Z Z) Z (A7 ?_)))
  refine k1 ?_
  refine ⟨i+1,by omega,by omega,?_⟩
  rw [hst,hFi,←K23,←hQ]
  exact J71 ⟨le1 rfl,le1 rfl,le1 rfl,le1 rfl,le1 rfl,le1 rfl,le1 rfl,le1 rfl,trivial⟩ (N7 hH) (by repeat (first | exact D5 | refine tail_drop rfl ?_ | refine D4 rfl ?_ | refine B13 _ rfl ?_)) (ObIn.spec (ob':=A46 names lines ms gs n (Q++[⟨true,m.Parents,names.getD m.Line.toNat []⟩])) ⟨rfl,rfl,rfl,trivial⟩)
 have hil2:i=l.length:=by have:=A1 ht;omega
 rw [hil2,K28] at hil ⊢
 rw [←K23] at hRs
 obtain ⟨Q,hQ⟩:∃Q,Q=R k++l.map F:=⟨_,rfl⟩
 rw [←hQ] at hil hRs ⊢
 refine k6 (k2 ?_)
 ·skip
  refine A4 (A3 (A5 Z Z) Z (A3 (A5 Z Z) Z (A3 (B9 Z) Z (A3 (A8 Z) Z (A3 (A9 Z Z Z) Z (A3 (E3 Z (.pure _ _ _ _)) Z (A3 (F0 Z Z) Z (A7 ?_))))))))
  refine k1 ?_
  refine B6 rfl (fun ht=>?_) (fun ht=>?_)
  ·have hkf:k < file.length:=by have:=A0 ht;omega
   rw [if_pos hkf] at hRs
   obtain ⟨q1,q2⟩:=hnm k hkf
   have hmv:ms[((k:Nat):Int).toNat]?=some (ms.getD k 0):=by rw [K12,K09,K06 (by omega)];rfl
   have hlv:lines[((k:Nat):Int).toNat]?=some (lines.getD k 0):=by rw [K12,K09,K06 (by omega)];rfl
   have q3:=(List.getElem?_eq_some_iff.1 q2).1
   skip
   refine M7 ([(0,.s (.one (.ref 730 0))),(3,C0 k),(12,C7 (List (List Int)) 1 intssC gs),(13,C0 gs.length),(14,C0 k)]++E4 [708,733] gf) (A46 names lines ms gs n Q) (J71 ⟨le1 rfl,le1 rfl,le1 rfl,le1 rfl,le1 rfl,trivial⟩ (N7 hH) (by repeat (first | exact D5 | refine D4 rfl ?_)) (fun _ _ h=>h)) ?_
   refine Q4 [32,28] [[],[28],[32,28]] [(28,([733],[68])),(32,([],[]))] [(0,[]),(1,[]),(2,[]),(3,[]),(4,[]),(5,[]),(6,[]),(7,[]),(8,[]),(9,[]),(10,[]),(11,[]),(12,[]),(13,[]),(14,[]),(15,[]),(16,[]),(17,[]),(18,[]),(19,[]),(20,[]),(21,[]),(22,[]),(23,[]),(24,[]),(25,[]),(26,[]),(27,[]),(28,[]),(29,[28]),(30,[28]),(31,[28]),(32,[28])] [(0,[28])] (by kernel_rfl) (by kernel_rfl) (D9 Z Z (by kernel_rfl) Z Z (A5 Z Z) (D9 Z Z (by kernel_rfl) Z Z (A5 Z Z) (D9 Z Z (by kernel_rfl) Z Z (B9 Z) (D9 Z Z (by kernel_rfl) Z Z (A8 Z) (D9 Z Z (by kernel_rfl) Z Z (A8 Z) (D9 Z Z (by kernel_rfl) Z Z (A9 Z Z Z) (D9 Z Z (by kernel_rfl) Z Z (A5 Z Z) (D9 Z Z (by kernel_rfl) Z Z (B9 Z) (D9 Z Z (by kernel_rfl) Z Z (A8 Z) (D9 Z Z (by kernel_rfl) Z Z (A9 Z Z Z) (D9 Z Z (by kernel_rfl) Z Z (A5 Z Z) (D9 Z Z (by kernel_rfl) Z Z (B4 Z (.pure _ _ _ _) Z (by omega) hmv) (D9 Z Z (by kernel_rfl) Z Z (C8 Z Z) (D9 Z Z (by kernel_rfl) Z Z (A5 Z Z) (D9 Z Z (by kernel_rfl) Z Z (B9 Z) (D9 Z Z (by kernel_rfl) Z Z (A8 Z) (D9 Z Z (by kernel_rfl) Z Z (A9 Z Z Z) (D9 Z Z (by kernel_rfl) Z Z (A5 Z Z) (D9 Z Z (by kernel_rfl) Z Z (B9 Z) (D9 Z Z (by kernel_rfl) Z Z (A8 Z) (D9 Z Z (by kernel_rfl) Z Z (A9 Z Z Z) (D9 Z Z (by kernel_rfl) Z Z (A5 Z Z) (D9 Z Z (by kernel_rfl) Z Z (B4 Z (.pure _ _ _ _) Z (by omega) hlv) ?_)))))))))))))))))))))));refine D9 Z Z (by kernel_rfl) Z Z (C8 Z Z) (D9 Z Z (by kernel_rfl) Z Z (B4 Z (.pure _ _ _ _) Z (by omega) q2) (D9 Z Z (by kernel_rfl) Z Z (C8 Z Z) (D9 Z Z (by kernel_rfl) Z Z (F9 Z) (D9 Z Z (by kernel_rfl) Z Z (E6 (c:=rowC) (ys:=[⟨false,ms.getD k 0,file.getD k []⟩]) (F3 Z Z Z Z I6) Z Z Z) (i7 Z Z (by kernel_rfl) Z Z (D21 (fun frc hU=>I9 (m9 hU Z) Z (m9 hU Z) (.pure _ _ _ _) (by (simp only [K07,K10];omega)) Z)) Z (D9 Z Z (by kernel_rfl) Z Z (B9 Z) (D9 Z Z (by kernel_rfl) Z Z (A8 Z) (D9 Z Z (by kernel_rfl) Z Z (A8 Z) (i7 Z Z (by kernel_rfl) Z Z (F55 (fun frc hU=>B2 TySz.out (m9 hU Z) Z (m9 hU Z) Z Z Z)) Z ?_)))))))))
   refine w_nilG rfl (by kernel_rfl) rfl ?_ ?_
   ·refine J0 Z Z (by kernel_rfl) Z Z (A5 Z Z) ?_;exact C71
   refine k4 (k1 ?_)
   refine A4 (A3 (C6 Z Z (by omega)) Z (A3 (A5 Z Z) Z (A7 ?_)))
   refine k1 ?_
   refine ⟨k+1,by omega,by omega,?_⟩
   rw [hRs]
   exact J71 ⟨le1 rfl,le1 rfl,le1 rfl,le1 rfl,trivial⟩ (N7 hH) (by repeat (first | exact D5 | refine tail_drop rfl ?_ | refine D4 rfl ?_ | refine B13 _ rfl ?_)) (ObIn.spec (ob':=A46 names lines ms gs n (Q++[⟨false,ms.getD k 0,file.getD k []⟩])) ⟨rfl,rfl,rfl,trivial⟩)
  ·have hkf:¬k < file.length:=by have:=A1 ht;omega
   rw [if_neg hkf,K27] at hRs
   refine k5 (k4 (k1 ?_))
   refine A4 (A3 (C6 Z Z (by omega)) Z (A3 (A5 Z Z) Z (A7 ?_)))
   refine k1 ?_
   refine ⟨k+1,by omega,by omega,?_⟩
   rw [hRs]
   exact J71 ⟨le1 rfl,le1 rfl,le1 rfl,le1 rfl,trivial⟩ (N7 hH) (by repeat (first | exact D5 | refine tail_drop rfl ?_ | refine D4 rfl ?_ | refine B13 _ rfl ?_)) (fun _ _ h=>h)
theorem H72 (l:List Str) (s:Str):∀k:Int,0≤k→s∈l→l[(H1 l s k - k).toNat]?=some s:=by
 induction l with
 | nil=>intro k _ h;cases h
 | cons x r ih =>
  intro k h0 h
  by_cases hx:x=s
  ·unfold H1
   rw [if_pos hx,Int.sub_self,hx];rfl
  ·have hm:s∈r:=by rcases List.mem_cons.1 h with rfl | h;exact absurd rfl hx;exact h
   have h1:=ih (k+1) (by omega) hm
   have h2:=y3 r s (k+1) (by omega) hm
   unfold H1
   rw [if_neg hx,show (H1 r s (k+1) - k).toNat=(H1 r s (k+1) - (k+1)).toNat+1 by omega,List.getElem?_cons_succ]
   exact h1
theorem G86 (k:Nat):(S5 k++[TC.mut 734]).map (TC.ren 734 (k+1000))=S5 (k+1):=by
 unfold S5 P2
 rw [K19,K47,K19,K41]
 have h1:(List.range k).map (TC.ren 734 (k+1000) ∘ fun r=>if r < 0 then TC.p (.list (List Int) 1 intsC []) else TC.mut (r+1000))=(List.range k).map fun r=>if r < 0 then TC.p (.list (List Int) 1 intsC []) else TC.mut (r+1000):=by
  refine List.map_congr_left fun r hr=>?_
  show TC.ren 734 (k+1000) (if r < 0 then _ else TC.mut (r+1000))=_
  rw [if_neg (by omega)]
  simp [TC.ren,I8 (show r+1000≠734 by omega)]
 exact congr (congrArg _ h1) (by simp [TC.ren])
abbrev G16 (n:Nat):Nat→List (List Int):=fun _=>List.replicate n []
theorem J36 {k:Nat} (hk:k < 1000) {m:Nat} {g:Nat→List (List Int)}:J6 k (M1 intsC g (List.range m))=true:=C34 (k:=k) (by omega) (List.range m) (fun r _=>by omega) (c:=intsC) (g:=g)
abbrev I31 (names:List Str) (lines ms:List Int) (n k:Nat):Obs:=[(4,A13),(730,l6 names lines n),(731,.arr Int 1 C63 ms),(732,.growT 138 k 1 (S5 k))]
theorem G17 (k:Nat):(S5 k).all (TC.free (k+1000))=true:=by
 rw [List.all_eq_true]
 intro t ht
 obtain ⟨r,hr,rfl⟩:=List.mem_map.1 ht
 have:=List.mem_range.1 hr
 rw [if_neg (by omega)]
 simp [TC.free,I8 (show r+1000≠k+1000 by omega)]
theorem H73 (m:Nat) (g:Nat→List (List Int)):S5 m=P2 intsC m 0 g:=by
 unfold S5 P2
 refine List.map_congr_left fun r _=>?_
 rw [if_neg (by omega),if_neg (by omega)]
theorem H74 (q:Nat) (g:Nat→List (List Int)) (l:List Nat):Obs.forget q (M1 intsC g l)=M1 intsC g l:=by
 unfold Obs.forget M1
 rw [K41]
 exact List.map_congr_left fun r _=>rfl
theorem gap_fgt {K:List Nat} {q:Nat} {g:Nat→List (List Int)} {l:List Nat}:∀j x,S4 K j=false→C3 (M1 intsC g l) j=some x→C3 (Obs.forget q (M1 intsC g l)) j=some x:=fun j x _ h=>by rw [H74];exact h
theorem E46 (q:Nat) (names:List Str) (lines ms:List Int) (n k:Nat) (hq:q < 1000) (h1:4≠q) (h2:730≠q) (h3:731≠q) (h4:732≠q) (g:Nat→List (List Int)):J6 q (I31 names lines ms n k++M1 intsC g (List.range k))=true:=by
 show J6 q ((4,A13)::(730,l6 names lines n)::(731,.arr Int 1 C63 ms)::(732,.growT 138 k 1 (S5 k))::M1 intsC g (List.range k))=true
 simp only [J6,Ob.free,List.all_cons,List.all_nil,TC.free,J36 hq,B66 hq,I8 h1,I8 h2,I8 h3,I8 h4,I8 (Ne.symm h3),I8 (Ne.symm h4)]
 rfl
theorem I72 {P:Program} {nt:Nat} {fr:Fr} {names:List Str} {lines ms:List Int} {n k:Nat} (hk:k≤100000) (hfr:G4 (k+1000) fr=true) :
  Sees P nt fr ([(4,A13),(730,l6 names lines n),(731,.arr Int 1 C63 ms),(732,.growT 138 (k+1) 1 (S5 k++[TC.mut 734])),(734,.arr (List Int) 1 intsC (List.replicate n [])),(735,.tarr 1 1 [.mut 734])]++M1 intsC (G16 n) (List.range k))
   fr (I31 names lines ms n (k+1)++M1 intsC (G16 n) (List.range (k+1))):=by
 refine J98 (j:=734) (k:=k+1000) Z (by simp;omega) (by omega) hfr ?_
 intro i o h
 have b731:=I8 (show 731≠k+1000 by omega)
 have b732:=I8 (show 732≠k+1000 by omega)
 have b734:=I8 (show 734≠k+1000 by omega)
 by_cases e1:i=4
 ·subst e1
  have h:some A13=some o:=h
  cases h
  exact ⟨by omega,A13,by rw [if_neg (by omega)];rfl,rfl,rfl⟩
 by_cases e2:i=730
 ·subst e2
  have h:some (l6 names lines n)=some o:=h
  cases h
  exact ⟨by omega,l6 names lines n,by rw [if_neg (by omega)];rfl,by simp [Ob.free,TC.free,b731,b732],rfl⟩
 by_cases e3:i=731
 ·subst e3
  have h:some (.arr Int 1 C63 ms)=some o:=h
  cases h
  exact ⟨by omega,_,by rw [if_neg (by omega)];rfl,rfl,rfl⟩
 by_cases e4:i=732
 ·subst e4
  have h:some (.growT 138 (k+1) 1 (S5 (k+1)))=some o:=h
  cases h
  refine ⟨by omega,.growT 138 (k+1) 1 (S5 k++[TC.mut 734]),by rw [if_neg (by omega)];rfl,?_,?_⟩
  ·simp only [Ob.free,K55,G17,List.all_cons,List.all_nil,TC.free,b734];rfl
  ·show _=Ob.growT _ _ _ _
   rw [G86]
 have h:C3 ([(4,A13),(730,l6 names lines n),(731,.arr Int 1 C63 ms),(732,.growT 138 (k+1) 1 (S5 (k+1)))]++M1 intsC (G16 n) (List.range (k+1))) i=some o:=h
 have hno:C3 ([(4,A13),(730,l6 names lines n),(731,.arr Int 1 C63 ms),(732,.growT 138 (k+1) 1 (S5 (k+1)))]:Obs) i=none:=by
  rw [B3 (Ne.symm e1),B3 (Ne.symm e2),B3 (Ne.symm e3),B3 (Ne.symm e4)];rfl
 rw [P1 hno] at h
 obtain ⟨r,h1,rfl,rfl⟩:=(A39 _ _ _).1 h
 have h1:=List.mem_range.1 h1
 refine ⟨by omega,.arr (List Int) 1 intsC (List.replicate n []),?_,rfl,rfl⟩
 by_cases er:r=k
 ·subst er;rw [if_pos rfl];rfl
 ·rw [if_neg (by omega),P1 (B54 rfl (by omega))]
  exact B97 (List.mem_range.2 (by omega))
set_option maxHeartbeats 2000000
theorem J37 (result:Str) (parents:List Str) (B:Nat) (hpl:parents.length≤536870912) (hB:32*B≤4096) (h0:(B8 result).length≤B∧result.length≤4096) (h1:∀b∈parents,(B8 b).length≤B∧b.length≤4096) :
  FnOk Tryz.prog 53 [M9 result,d6 parents] (fun rs=>rs=[pTable (G1 result parents).1,G5 (G1 result parents).2]):=by
 refine FnOk.intro Tryz.func53 (by decide) Z Z Z Z ?_
 refine k2 ?_
 refine A4 (C5 (E8 4 Z) Z (A3 (A6 Z Z) Z (A7 ?_)))
 refine k1 (k2 ?_)
 refine A4 (A3 (A5 Z Z) Z (A3 (E3 Z (.pure _ _ _ _)) Z (A3 (A6 Z Z) Z (A7 ?_))))
 refine k1 (k2 (k2 ?_))
 refine A4 (A3 (A5 Z Z) Z (A3 (F0 Z Z) Z (A3 (A5 Z Z) Z (B1 Z Z Z Z (fun hg=>by rw [hg];exact A5 Z Z) ?_))));refine B1 Z Z Z Z (fun hg=>by rw [hg];exact R5 Z Z) ?_;refine A3 (B5 Z (fun h=>by first | rfl | (rw [h];rfl)) (fun h=>by first | rfl | (rw [h];rfl))) Z ?_;refine A7 ?_
 refine k1 ?_
 refine B6 rfl (fun ht=>?_) (fun ht=>?_)
 ·have hc:=A0 (or_pick.symm.trans ht)
  refine k2 ?_
  refine A4 (A3 (F9 Z) Z (E7 (B2 TySz.out Z Z Z Z Z Z) (A3 (A6 Z Z) Z (A7 ?_))))
  refine k1 ?_
  refine G6 (J72 Row 3 rowC 4 1 Z Z) ?_
  refine k10 (k11 ?_)
  exact B7 (rs:=[pTable ⟨0,[]⟩,G5 2]) (X7 rfl rfl rfl rfl rfl rfl rfl) (by rw [G1,if_pos (by omega)])
 have hc:=A1 (or_pick.symm.trans ht)
 obtain ⟨n,hn⟩:∃n,n=parents.length:=⟨_,rfl⟩
 have hn1:1≤n∧n≤32:=by omega
 obtain ⟨f0,hf0⟩:∃f0,f0=B8 result:=⟨_,rfl⟩
 obtain ⟨fs,hfs⟩:∃fs,fs=B8 result::parents.map B8:=⟨_,rfl⟩
 have hfsm:fs=(result::parents).map B8:=by rw [hfs];rfl
 have hfl:fs.length=n+1:=by rw [hfs,hn];simp
 have hfB:∀f∈fs,f.length≤B:=by
  intro f hf
  rw [hfs] at hf
  rcases List.mem_cons.1 hf with rfl | hf
  ·exact h0.1
  ·obtain ⟨b,hb,rfl⟩:=List.mem_map.1 hf;exact (h1 b hb).1
 have hflat:fs.flatten.length≤(n+1)*B:=by
  rw [←hfl]
  clear hfsm hfs hfl
  induction fs with
  | nil=>simp
  | cons x r ih =>
   have:=ih fun f hf=>hfB f (List.mem_cons_of_mem _ hf)
   have:=hfB x (by simp)
   rw [K18,K05,K07,K26,Nat.one_mul];omega
 have hnB:n*B≤4096:=Nat.le_trans (K20 _ hn1.2) hB
 have hB1:(n+1)*B≤8192:=by rw [K26,Nat.one_mul];omega
 obtain ⟨names,hnames⟩:∃names,names=E0 fs:=⟨_,rfl⟩
 obtain ⟨ids,hids⟩:∃ids,ids=fs.map (F5 names):=⟨_,rfl⟩
 have hidl:ids.length=n+1:=by rw [hids,K29,hfl]
 obtain ⟨base,hbase⟩:∃base,base=F5 names f0:=⟨_,rfl⟩
 have hb0:base=ids.getD 0 []:=by rw [hids,hfs,hbase,hf0];rfl
 have hbl:base.length=f0.length:=by rw [hbase];simp [F5]
 have hf0B:f0.length≤B:=by rw [hf0];exact h0.1
 have hidB:∀x∈ids,x.length≤B∧∀v∈x,0≤v∧v < (names.length:Int):=by
  intro x hx
  have h2:∀v∈x,0≤v∧v < (names.length:Int):=by rw [hnames];exact ids_in fs x (by rw [←hnames,←hids];exact hx)
  rw [hids] at hx
  obtain ⟨f,hf,rfl⟩:=List.mem_map.1 hx
  exact ⟨by rw [F5,K29];exact hfB f hf,h2⟩
 have hv0:ids[(0:Int).toNat]?=some base:=by rw [hb0,K09];show ids[0]?=_;rw [K06 (by omega)];rfl
 have hsame:=fun p hp=>C10 (n:=n) hb0 (fun x hx=>by have:=(hidB x hx).1;omega) (by omega) p hp
 have hok:∀p,LoomOk (fun v=>0≤v∧v < (names.length:Int)) B base.length n (X3 ids base.length n p):=fun p=>A98 hidB p
 have hmk:G1 result parents=(⟨n,X4 names f0 (X3 ids base.length n n) (f0.length+1)⟩,0):=by
  rw [G1,if_neg (by omega)]
  dsimp only
  rw [←hfs,←hnames,←hids,←hf0,←hn,←hbl]
  rw [if_neg]
  rintro ⟨k,hk,hk2⟩
  refine hk2 ?_
  have h3:=(hok n).gaps k
  unfold H4
  rw [if_neg (by omega)]
  exact B41 _ _ _ B (fun x hx=>(h3.2 x hx).1) (by rw [h3.1];simp only [K10];omega)
 rw [hmk]
 refine M7 [(0,Y3 result),(1,C7 Str 1 K6 parents),(4,.s (.one (.ref 4 0))),(6,C0 n)] [(4,A13)] (by rw [hn];exact J70 ⟨le1 rfl,le1 rfl,le1 rfl,le1 rfl,trivial⟩ ⟨rfl,trivial⟩) ?_
 refine k5 (k1 (k2 ?_))
 refine A4 (C5 (A02 760 _ strsC Z) Z (A7 ?_))
 refine k1 (k2 (k2 ?_))
 obtain ⟨bl,hbld⟩:∃bl,bl=result::parents:=⟨_,rfl⟩
 have hbll:bl.length=n+1:=by rw [hbld,hn];simp
 refine A4 (A3 (A5 Z Z) Z (A3 (B63 (c:=K6) (ys:=[result]) (F3 Z Z Z Z I6) Z Z Z) Z (A3 (A5 Z Z) Z (A3 (C21 Z Z (.pure _ _ _ _) (by (simp only [K07,K10];omega)) ((by omega))) Z (A3 (E3 Z (.pure _ _ _ _)) Z (A3 (A5 Z Z) Z (A7 ?_)))))))
 refine k1 (k3 ?_)
 rw [show [result]++parents=bl by rw [hbld];rfl]
 have hblB:∀b∈bl,(B8 b).length≤B∧b.length≤4096:=by
  intro b hb
  rw [hbld] at hb
  rcases List.mem_cons.1 hb with rfl | hb
  ·exact h0
  ·exact h1 b hb
 have hfsb:fs=bl.map B8:=by rw [hfsm,hbld]
 refine E2 (X:=Nat) (fun k=>([(4,.s (.one (.ref 4 0))),(6,C0 n),(7,.s (.one (.buf 760 (List Str) 1 strsC ((bl.take k).map B8)))),(29,C7 Str 1 K6 bl),(30,C0 bl.length),(31,C0 k)],[(4,A13),(760,.spare ((bl.take k).map B8).length 1 60)])) (fun k=>k≤bl.length) (fun k=>bl.length - k) 0 (Nat.zero_le _) (J70 ⟨le1 rfl,le1 rfl,le1 rfl,le1 rfl,le1 rfl,le1 rfl,trivial⟩ ⟨rfl,rfl,trivial⟩) ?_
 intro k hk
 dsimp only at hk ⊢
 have hml:((bl.take k).map B8).length=k:=by rw [K29,K22];omega
 refine k2 ?_
 refine A4 (A3 (F0 Z Z) Z (A7 ?_))
 refine k1 (k2 ?_)
 refine B6 rfl (fun ht=>?_) (fun ht=>?_)
 ·have hlt:k < bl.length:=by have:=A0 ht;omega
  have hv:bl[k]?=some bl[k]:=by simp [hlt]
  have hbB:=hblB _ (K17 hlt)
  have hst:(bl.take (k+1)).map B8=(bl.take k).map B8++[B8 bl[k]]:=by rw [K14 hlt];simp only [K19,K13,K46]
  obtain ⟨b,hb⟩:∃b,b=bl[k]:=⟨_,rfl⟩
  rw [←hb] at hv hbB hst
  have hsp:=C03 b (by omega)
  rw [F40 hbB.2] at hsp
  dsimp only at hsp
  refine k5 (k1 (k2 (k3 (k2 ?_))))
  refine A4 (A3 (B4 Z (.pure _ _ _ _) Z (by omega) hv) Z (A3 (C8 Z Z) Z (A3 (A6 Z Z) Z (A7 ?_))))
  refine k1 (k2 ?_)
  refine A4 (A3 (A5 Z Z) Z (C9 (hsp) Z Z Z ?_));rintro _ rfl;refine A3 (A5 Z Z) Z (A3 (C1 Z Z) Z (A3 (C1 Z Z) Z (A3 (A6 Z Z) Z (A3 (A6 Z Z) Z (A7 ?_)))))
  refine k1 (k2 (k2 ?_))
  refine A4 (A3 (A5 Z Z) Z (A3 (K2 Z Z) Z (A7 ?_)))
  refine k1 ?_
  refine B6 rfl (fun ht=>?_) (fun ht=>?_)
  ·cases ht
  refine k5 (k1 ?_)
  refine A4 (A3 (A5 Z Z) Z (A3 (A5 Z Z) Z (A3 (E6 (c:=strsC) (ys:=[B8 b]) (F3 Z Z Z Z I6) Z Z Z) Z (C5 (I9 Z Z Z (.pure _ _ _ _) (by (rw [hml];simp only [K07,K10];omega)) Z) Z ?_))));refine A3 (A6 Z Z) Z (A7 ?_)
  refine k4 (k1 ?_)
  refine A4 (A3 (C6 Z Z (by omega)) Z (A3 (A5 Z Z) Z (A7 ?_)))
  refine k1 ?_
  refine ⟨k+1,by omega,by omega,?_⟩
  rw [hst]
  exact J70 ⟨le1 rfl,le1 rfl,le1 rfl,le1 rfl,le1 rfl,le1 rfl,trivial⟩ ⟨rfl,rfl,trivial⟩
 have hkl:k=bl.length:=by have:=A1 ht;omega
 rw [hkl,K28,←hfsb]
 have hI:=C78 fs (by omega) (by omega)
 have hN:=E45 fs (by omega) (by omega)
 rw [←hnames,←hids] at hI
 rw [←hnames] at hN
 refine k6 (k2 ?_)
 refine A4 (A3 (A5 Z Z) Z (C9 (hI) Z Z Z ?_));rintro _ rfl;refine A3 (A6 Z Z) Z (A7 ?_)
 refine G6 (fr':=[(4,.s (.one (.ref 4 0))),(6,C0 n),(7,C7 (List Str) 1 strsC fs),(12,C7 (List Int) 1 intsC ids)]) (ob':=[(4,A13)]) (J70 ⟨le1 rfl,le1 rfl,leL rfl,le1 rfl,trivial⟩ ⟨rfl,trivial⟩) ?_
 refine k2 ?_
 refine Q4 [13,9] [[],[9],[13,9]] [(9,([731],[])),(13,([730],[]))] [(0,[]),(1,[]),(2,[]),(3,[]),(4,[]),(5,[]),(6,[]),(7,[]),(8,[]),(9,[]),(10,[]),(11,[]),(12,[9]),(13,[9]),(14,[13,9])] [(0,[9]),(1,[9]),(2,[9]),(3,[9]),(4,[9]),(10,[9]),(11,[9])] (by kernel_rfl) (by kernel_rfl) (D9 Z Z (by kernel_rfl) Z Z (A5 Z Z) (D9 Z Z (by kernel_rfl) Z Z (I0 (hN) Z Z) (D9 Z Z (by kernel_rfl) Z Z (A5 Z Z) (D9 Z Z (by kernel_rfl) Z Z (B4 Z (.pure _ _ _ _) Z (by omega) hv0) (D9 Z Z (by kernel_rfl) Z Z (C8 Z Z) (D9 Z Z (by kernel_rfl) Z Z (A5 Z Z) (D9 Z Z (by kernel_rfl) Z Z (B4 Z (.pure _ _ _ _) Z (by omega) hv0) (D9 Z Z (by kernel_rfl) Z Z (C8 Z Z) (D9 Z Z (by kernel_rfl) Z Z (E3 Z (.pure _ _ _ _)) (i7 Z Z (by kernel_rfl) Z Z (E00 (fun frc hU hk=>A59 731 Int C63 0 (m9 hU Z) (m9 hU Z) (by omega) (by omega) (fun _=>by first | exact ⟨⟨rfl,rfl⟩,trivial⟩ | exact ⟨S2 _ _ _,trivial⟩) (by rw [hk];rfl))) Z ?_))))))))));refine D9 Z Z (by kernel_rfl) Z Z (A5 Z Z) (D9 Z Z (by kernel_rfl) Z Z (F9 Z) (D9 Z Z (by kernel_rfl) Z Z (F9 Z) (i7 Z Z (by kernel_rfl) Z Z (E00 (fun frc hU hk=>Q1 730 (m9 hU Z) Z (by rw [hk];rfl))) Z ?_)));refine D9 Z Z (by kernel_rfl) Z Z (A6 Z Z) ?_;refine D52 (by kernel_rfl) rfl ?_ ?_
 ·refine J0 Z Z (by kernel_rfl) Z Z (A5 Z Z) (J0 Z Z (by kernel_rfl) Z Z (I0 (hN) Z Z) (J0 Z Z (by kernel_rfl) Z Z (A5 Z Z) (J0 Z Z (by kernel_rfl) Z Z (B4 Z (.pure _ _ _ _) Z (by omega) hv0) (J0 Z Z (by kernel_rfl) Z Z (C8 Z Z) (J0 Z Z (by kernel_rfl) Z Z (A5 Z Z) (J0 Z Z (by kernel_rfl) Z Z (F9 Z) ?_))))));exact C71
 rw [K12]
 refine k1 (k2 (k2 ?_))
 refine G6 (J93 732 (List (List Int)) 1 intssC 138 (kb:=730) (o:=3) Z Z Z) ?_
 refine G6 (K03 732 Z) ?_
 refine A4 (A3 (A5 Z Z) Z (A3 (B4 Z (.pure _ _ _ _) Z (by omega) hv0) Z (A3 (C8 Z Z) Z (A3 (E3 Z (.pure _ _ _ _)) Z (A3 (C6 Z Z (by omega)) Z (A3 (A5 Z Z) Z (A7 ?_)))))))
 refine k1 (k3 ?_)
 refine E2 (X:=Nat) (fun k=>([(4,.s (.one (.ref 4 0))),(6,C0 n),(12,C7 (List Int) 1 intsC ids),(13,.s (.one (.ref 730 0))),(69,C0 ((base.length:Int)+1)),(70,C0 k)],I31 names base (List.replicate base.length 0) n k++M1 intsC (G16 n) (List.range k))) (fun k=>k≤base.length+1) (fun k=>base.length+1 - k) 0 (Nat.zero_le _) (J70 ⟨le1 rfl,le1 rfl,le1 rfl,le1 rfl,le1 rfl,le1 rfl,trivial⟩ ⟨rfl,rfl,rfl,rfl,trivial⟩) ?_
 intro k hk
 dsimp only at hk ⊢
 refine k2 ?_
 refine A4 (A3 (F0 Z Z) Z (A7 ?_))
 refine k1 (k2 ?_)
 refine B6 rfl (fun ht=>?_) (fun ht=>?_)
 ·have hlt:k < base.length+1:=by have:=A0 ht;omega
  have hfree:=E46 734 names base (List.replicate base.length 0) n k (by omega) (by omega) (by omega) (by omega) (by omega) (G16 n)
  have hfree5:J6 735 ((734,.arr (List Int) 1 intsC (List.replicate n []))::(I31 names base (List.replicate base.length 0) n k++M1 intsC (G16 n) (List.range k)))=true:=by
   have:=E46 735 names base (List.replicate base.length 0) n k (by omega) (by omega) (by omega) (by omega) (by omega) (G16 n)
   rw [J6,this];rfl
  have h732:(S5 k++[TC.mut 734]).map (TC.forget 732)=S5 k++[TC.mut 734]:=s8 (by rw [K55,B66 (by omega)];rfl)
  refine k5 (k1 (k2 (k3 ?_)))
  refine Q4 [11,8,7,6] [[],[6],[7,6],[8,7,6],[11,8,7,6]] [(6,([734],[])),(7,([735],[])),(8,([732],[76])),(11,([],[]))] [(0,[]),(1,[]),(2,[]),(3,[]),(4,[]),(5,[]),(6,[]),(7,[6]),(8,[7,6]),(9,[8,7,6]),(10,[8,7,6]),(11,[8,7,6])] [(0,[6]),(0,[7,6]),(0,[8,7,6]),(1,[6]),(1,[7,6]),(2,[6]),(2,[7,6]),(3,[6]),(3,[7,6]),(4,[6]),(4,[7,6])] (by kernel_rfl) (by kernel_rfl) (D9 Z Z (by kernel_rfl) Z Z (A5 Z Z) (D9 Z Z (by kernel_rfl) Z Z (A5 Z Z) (D9 Z Z (by kernel_rfl) Z Z (B9 Z) (D9 Z Z (by kernel_rfl) Z Z (A8 Z) (D9 Z Z (by kernel_rfl) Z Z (A9 Z Z Z) (D9 Z Z (by kernel_rfl) Z Z (A5 Z Z) (i7 Z Z (by kernel_rfl) Z Z (E00 (fun frc hU hk=>A59 734 (List Int) intsC [] (m9 hU Z) (m9 hU Z) (by omega) (by omega) (fun _=>by first | exact ⟨⟨rfl,rfl⟩,trivial⟩ | exact ⟨S2 _ _ _,trivial⟩) (by rw [hk];exact hfree))) Z ?_)))))));refine i7 Z Z (by kernel_rfl) Z Z (E00 (fun frc hU hk=>J27 735 (m9 hU Z) Z Z Z Z (by rw [hk];exact hfree5))) Z ?_;refine i7 Z Z (by kernel_rfl) Z Z (D21 (fun frc hU=>G10 (m9 hU Z) Z (m9 hU Z) Z (by omega) Z)) Z (D9 Z Z (by kernel_rfl) Z Z (B9 Z) (D9 Z Z (by kernel_rfl) Z Z (A8 Z) (i7 Z Z (by kernel_rfl) Z Z (F55 (fun frc hU=>B2 TySz.out (m9 hU Z) Z (m9 hU Z) Z Z Z)) Z ?_)));refine D52 (by kernel_rfl) rfl ?_ ?_
  ·refine J0 Z Z (by kernel_rfl) Z Z (A5 Z Z) (J0 Z Z (by kernel_rfl) Z Z (A5 Z Z) (J0 Z Z (by kernel_rfl) Z Z (A5 Z Z) (J0 Z Z (by kernel_rfl) Z Z (A5 Z Z) (J0 Z Z (by kernel_rfl) Z Z (A5 Z Z) (J0 Z Z (by kernel_rfl) Z Z (B9 Z) (J0 Z Z (by kernel_rfl) Z Z (B9 Z) (J0 Z Z (by kernel_rfl) Z Z (A8 Z) (J0 Z Z (by kernel_rfl) Z Z (A8 Z) (J0 Z Z (by kernel_rfl) Z Z (A9 Z Z Z) (J0 Z Z (by kernel_rfl) Z Z (A9 Z Z Z) ?_))))))))));exact C71
  refine M7 [(4,.s (.one (.ref 4 0))),(6,C0 n),(12,C7 (List Int) 1 intsC ids),(13,.s (.one (.ref 730 0))),(69,C0 ((base.length:Int)+1)),(70,C0 k)] ([(4,A13),(730,l6 names base n),(731,.arr Int 1 C63 (List.replicate base.length 0)),(732,.growT 138 (k+1) 1 (S5 k++[TC.mut 734])),(734,.arr (List Int) 1 intsC (List.replicate n [])),(735,.tarr 1 1 [.mut 734])]++M1 intsC (G16 n) (List.range k)) (J79 ⟨le1 rfl,le1 rfl,le1 rfl,le1 rfl,le1 rfl,le1 rfl,trivial⟩ (B12 (L:=[(4,_),(730,_),(731,_),(732,_),(734,_),(735,_)]) ⟨rfl,rfl,rfl,congrArg (fun ts=>some (Ob.growT 138 (k+1) 1 ts)) h732,rfl,rfl,trivial⟩ (by repeat (first | exact gap_fgt | refine A95 rfl ?_)))) ?_
  refine G6 (I72 (by omega) (by simp only [G4,SV.free,S1.free,TC.free,I8 (show 4≠k+1000 by omega),I8 (show 730≠k+1000 by omega)];rfl)) ?_
  skip
  refine A4 (A3 (C6 Z Z (by omega)) Z (A3 (A5 Z Z) Z (A7 ?_)))
  refine k1 ?_
  refine ⟨k+1,by omega,by omega,?_⟩
  exact J79 ⟨le1 rfl,le1 rfl,le1 rfl,le1 rfl,le1 rfl,le1 rfl,trivial⟩ (fun _ _ h=>h)
 have hkb:k=base.length+1:=by have:=A1 ht;omega
 rw [hkb]
 refine M7 [(4,.s (.one (.ref 4 0))),(6,C0 n),(12,C7 (List Int) 1 intsC ids),(13,.s (.one (.ref 730 0)))] (B65 names base (List.replicate base.length 0) (G16 n) n (base.length+1)) (J79 ⟨le1 rfl,le1 rfl,le1 rfl,le1 rfl,trivial⟩ (fun _ _ h=>h)) ?_
 refine k6 (k2 (k2 ?_))
 refine A4 (A3 (A5 Z Z) Z (A3 (A5 Z Z) Z (A7 ?_)))
 refine k1 (k3 ?_)
 obtain ⟨s,hs⟩:∃s:Nat→Loom,s=fun p=>y9 ids base.length n p:=⟨_,rfl⟩
 have hsp:∀p,p≤32→s p=X3 ids base.length n p∧(s p).1.length=base.length∧∀k,((s p).2 k).length=n:=fun p hp=>by
  obtain ⟨q1,_,q3⟩:=hsame p hp
  rw [hs]
  dsimp only
  refine ⟨q1,q3,fun k=>?_⟩
  rw [q1]
  exact ((hok p).gaps k).1
 refine E2 (X:=Nat) (fun p=>([(4,.s (.one (.ref 4 0))),(6,C0 n),(12,C7 (List Int) 1 intsC ids),(13,.s (.one (.ref 730 0))),(84,C0 n),(85,C0 p)],B65 names base (s p).1 (s p).2 n (base.length+1))) (fun p=>p≤n) (fun p=>n - p) 0 (Nat.zero_le _) (by rw [hs];exact J79 ⟨le1 rfl,le1 rfl,le1 rfl,le1 rfl,le1 rfl,le1 rfl,trivial⟩ (fun _ _ h=>h)) ?_
 intro p hp
 dsimp only at hp ⊢
 obtain ⟨p1,p2,p3⟩:=hsp p (by omega)
 refine k2 ?_
 refine A4 (A3 (F0 Z Z) Z (A7 ?_))
 refine k1 (k2 ?_)
 refine B6 rfl (fun ht=>?_) (fun ht=>?_)
 ·have hlt:p < n:=by have:=A0 ht;omega
  have hv1:ids[((p:Int)+1).toNat]?=some (ids.getD (p+1) []):=by rw [show ((p:Int)+1).toNat=p+1 by omega,K09,K06 (by omega)];rfl
  have hfB:=(hidB _ (K16 hv1)).1
  have hst:s (p+1)=A18 ids (s p) p:=by rw [hs];exact B80 ids base.length n p
  obtain ⟨file,hfile⟩:∃f,f=ids.getD (p+1) []:=⟨_,rfl⟩
  have hst2:s (p+1)=((M5 file base).foldl (O0 p) (s p).1,(M5 file base).foldl (P5 p file) (s p).2):=by rw [hst,hfile,hb0];rfl
  rw [←hfile] at hv1 hfB
  refine k5 (k1 (k2 (k3 (k2 ?_))))
  refine A4 (A3 (A5 Z Z) Z (A3 (A6 Z Z) Z (A7 ?_)))
  refine k1 (k2 ?_)
  refine A4 (A3 (A5 Z Z) Z (A3 (A5 Z Z) Z (A3 (A5 Z Z) Z (A3 (A5 Z Z) Z (A3 (C6 Z Z (by omega)) Z (A3 (B4 Z (.pure _ _ _ _) Z (by omega) hv1) Z (A3 (C8 Z Z) Z (X9 (J35 names base file (s p).1 (s p).2 n p (by omega) (by omega) p2 (by omega) hlt p3) Z Z Z ?_))))))));rintro _ _ ⟨rfl,rfl⟩;refine A3 (A6 Z Z) Z (A7 ?_)
  refine k1 (k2 ?_)
  refine A4 (A3 (A5 Z Z) Z (A3 (K2 Z Z) Z (A7 ?_)))
  refine k1 ?_
  refine B6 rfl (fun ht=>?_) (fun ht=>?_)
  ·cases ht
  refine k5 (k4 (k1 ?_))
  refine A4 (A3 (C6 Z Z (by omega)) Z (A3 (A5 Z Z) Z (A7 ?_)))
  refine k1 ?_
  refine ⟨p+1,by omega,by omega,?_⟩
  rw [hst2]
  exact J79 ⟨le1 rfl,le1 rfl,le1 rfl,le1 rfl,le1 rfl,le1 rfl,trivial⟩ (fun _ _ h=>h)
 have hpn:p=n:=by have:=A1 ht;omega
 subst hpn
 obtain ⟨ms,hms⟩:∃ms,ms=(s p).1:=⟨_,rfl⟩
 obtain ⟨g,hg⟩:∃g,g=(s p).2:=⟨_,rfl⟩
 have hpair:X3 ids base.length p p=(ms,g):=by rw [←p1,hms,hg]
 rw [←hms,←hg]
 rw [←hms] at p2
 have hgk:=fun k=>(hok p).gaps k
 rw [hpair] at hgk ⊢
 dsimp only at hgk
 refine M7 [(4,.s (.one (.ref 4 0))),(6,C0 p),(13,.s (.one (.ref 730 0)))] ([(4,A13),(730,l6 names base p),(731,.arr Int 1 C63 ms)]++((732,.growT 138 (base.length+1) 1 (P2 intsC (base.length+1) 0 g))::M1 intsC g (List.range (base.length+1)))) (by rw [←H73];exact J79 ⟨le1 rfl,le1 rfl,le1 rfl,trivial⟩ (fun _ _ h=>h)) ?_
 refine G6 (J90 (by omega) rfl rfl (fun r _=>?_) (fun r _=>?_)) ?_
 ·simp only [G4,SV.free,S1.free,TC.free,I8 (show 4≠r+1000 by omega),I8 (show 730≠r+1000 by omega)];rfl
 ·simp only [B98,Ob.free,List.all_cons,List.all_nil,TC.free,I8 (show 731≠r+1000 by omega),I8 (show 732≠r+1000 by omega)];rfl
 obtain ⟨gs,hgs⟩:∃gs,gs=(List.range (base.length+1)).map g:=⟨_,rfl⟩
 rw [←hgs]
 refine G6 (Sees.freeze (k:=731) Z) ?_
 refine G6 (Sees.freezeG (k:=732) Z Z) ?_
 refine M7 [(4,.s (.one (.ref 4 0))),(6,C0 p),(13,.s (.one (.ref 730 0)))] [(4,A13),(730,.box [.p (.list Str 1 K6 names),.p (.list Int 1 G7 base),.p (.list Int 1 C63 ms),.p (.list (List (List Int)) 1 intssC gs),.p (.v (.int .i64 p)),.p (.v (.slice none 0 0))])] (J70 ⟨le1 rfl,le1 rfl,le1 rfl,trivial⟩ ⟨rfl,rfl,trivial⟩) ?_
 refine G6 (J75 733 Row 3 rowC 69 (kb:=730) (o:=5) Z Z Z) ?_
 refine M7 [(4,.s (.one (.ref 4 0))),(6,C0 p),(13,.s (.one (.ref 730 0)))] (A46 names base ms gs p []) (J70 ⟨le1 rfl,le1 rfl,le1 rfl,trivial⟩ ⟨rfl,rfl,rfl,trivial⟩) ?_
 have hnm:∀k,k < f0.length→0≤base.getD k 0∧names[(base.getD k 0).toNat]?=some (f0.getD k []):=by
  intro k hk
  have hm:f0[k]∈names:=by rw [hnames];exact T5 fs _ f0 (by rw [hfs,hf0];simp) (K17 hk)
  have e1:base.getD k 0=H1 names f0[k] 0:=by rw [hbase,K09];unfold F5;rw [K31,K06 hk];rfl
  have e2:f0.getD k []=f0[k]:=by rw [K09,K06 hk];rfl
  have e3:=y3 names f0[k] 0 (Int.le_refl _) hm
  have e4:=H72 names f0[k] 0 (Int.le_refl _) hm
  rw [e1,e2]
  rw [Int.sub_zero] at e4
  exact ⟨e3.1,e4⟩
 have hW:=fun gf=>H71 (gf:=gf) names f0 base ms g p B (by omega) hbl (by omega) (by omega) hnB hgk hnm
 rw [hbl] at hgs
 rw [←hgs] at hW
 refine k6 (k2 (k2 ?_))
 refine A4 (A3 (A5 Z Z) Z (X9 (hW _) Z Z Z ?_));rintro _ _ ⟨rfl,rfl⟩;refine A3 (A6 Z Z) Z (A7 ?_)
 refine k1 (k2 ?_)
 refine A4 (A3 (A5 Z Z) Z (A3 (K2 Z Z) Z (A7 ?_)))
 refine k1 ?_
 refine B6 rfl (fun ht=>?_) (fun ht=>?_)
 ·cases ht
 refine k5 (k1 (k2 ?_))
 refine A4 (A3 (A5 Z Z) Z (A3 (B9 Z) Z (A3 (A8 Z) Z (A3 (D1 Z Z Z) Z (E7 (B2 TySz.out Z Z Z Z Z Z) (A3 (A6 Z Z) Z (A7 ?_)))))))
 refine k1 (k10 ?_)
 exact B7 (rs:=[pTable ⟨p,X4 names f0 (ms,g) (f0.length+1)⟩,G5 0]) (X7 rfl rfl rfl rfl rfl rfl rfl) rfl
abbrev iS (i:Int):S1:=.one (.p (.v (.int .i64 i)))
set_option maxHeartbeats 1000000
end Go.Proofs.YtbiadkkamhpdnaaGreatDoor
