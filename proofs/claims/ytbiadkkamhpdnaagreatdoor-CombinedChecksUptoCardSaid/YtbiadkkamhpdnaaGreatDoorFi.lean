/- Walks of the program's functions. -/
import Derived.Test.YtbiadkkamhpdnaaGreatDoorFg
import Derived.Test.YtbiadkkamhpdnaaGreatDoorFc
import Derived.Test.YtbiadkkamhpdnaaGreatDoorFh
set_option linter.unusedSimpArgs false
namespace Go.Proofs.YtbiadkkamhpdnaaGreatDoor
open Go Go.AL
set_option maxRecDepth 100000
set_option maxHeartbeats 1000000
theorem B25 (c:Comb) (hz:szC c.Hunks≤268435456) (hr:∀h∈c.Hunks,I8 h.Rows):FnOk Tryz.prog 39 [O3 c] (fun rs=>rs=if G8 c=0 then [N2 (i8 c),H3 0] else [N2 [],H3 (G8 c)]):=by
 have hC:=q8 c hz hr
 refine FnOk.intro Tryz.func39 (by decide) Z Z Z Z ?_
 refine k2 (A3 (C1 (R4 1 Z Z Z) Z (A7 Z Z (A7 Z Z (A5 ?_)))));refine k1 (k2 (k2 (A3 (A6 (C5 Z Z Z) Z (C4 (hC) Z Z Z ?_)))));rintro _ rfl;refine A7 Z Z (A5 ?_);refine k1 (k2 (A3 (A4 Z Z (A6 (O9 Z Z) Z (A5 ?_)))));refine k1 ?_;refine B3 rfl (fun ht=>?_) (fun ht=>?_)
 ·have h1:G8 c≠0:=A0 ht
  rw [if_neg h1]
  refine k2 (A3 (A4 Z Z (A7 Z Z (A7 Z Z (A5 ?_)))));refine k1 (k10 (k11 ?_))
  exact B6 (s6 rfl rfl rfl rfl rfl) rfl
 ·have h1:G8 c=0:=Decidable.not_not.1 (A1 ht)
  have hW:=D65 c (E56 h1 hz hr)
  rw [if_pos h1]
  refine k5 (k1 (k2 (A3 (A6 (C5 Z Z Z) Z (C4 (hW) Z Z Z ?_)))));rintro _ rfl;refine A7 Z Z (A7 Z Z (A5 ?_));refine k1 (k10 ?_)
  exact B6 (s6 rfl rfl rfl rfl rfl) rfl
theorem F74 {rs:List S1} {e e2 e3:TypeId} {n r:Nat} {hs:List CHunk} {ats:List Int} {ls:List Row} {fr:Fr} {ob:Obs} (hrs:(rs.flatMap S1.refs).all (fun k=>Nat.beq k 702)=true)
  (h2:((E44 fr++C52 ob).all (fun k=>!(Nat.beq 702 k)&&(!(Nat.beq 703 k)&&!(Nat.beq 704 k)))&&ob.all (fun p=>!(Nat.beq 702 p.1)&&(!(Nat.beq 703 p.1)&&!(Nat.beq 704 p.1))))=true) :
  I29 rs [(702,.growT e n 2 (H7 hs r)),(703,.grow e2 Int 1 F7 ats),(704,.grow e3 Row 3 rowC ls)] fr ob=true:=by
 have hg:∀k,(C7 [(702,Ob.growT e n 2 (H7 hs r)),(703,.grow e2 Int 1 F7 ats),(704,.grow e3 Row 3 rowC ls)] k).isSome=(Nat.beq 702 k||(Nat.beq 703 k||Nat.beq 704 k)):=by
  intro k;simp only [C7];cases Nat.beq 702 k<;>cases Nat.beq 703 k<;>cases Nat.beq 704 k<;>rfl
 have hg2:∀k,(C7 [(702,Ob.growT e n 2 (H7 hs r)),(703,.grow e2 Int 1 F7 ats),(704,.grow e3 Row 3 rowC ls)] k).isNone=(!(Nat.beq 702 k)&&(!(Nat.beq 703 k)&&!(Nat.beq 704 k))):=by
  intro k;simp only [C7];cases Nat.beq 702 k<;>cases Nat.beq 703 k<;>cases Nat.beq 704 k<;>rfl
 unfold I29
 simp only [hg,hg2]
 rw [K10] at h2
 rw [K10,K10]
 refine ⟨⟨?_,h2.1⟩,h2.2⟩
 rw [K58,K10]
 refine ⟨List.all_eq_true.2 fun k hk=>?_,List.all_eq_true.2 fun k hk=>?_⟩
 ·have e:=Nat.eq_of_beq_eq_true (List.all_eq_true.1 hrs k hk)
  subst e;rfl
 ·have hk:k∈(H7 hs r).flatMap TC.refs:=by simpa [C52,Ob.refs] using hk
  obtain ⟨t,ht,hkt⟩:=List.mem_flatMap.1 hk
  rcases B89 t ht with ⟨z,rfl⟩ | rfl | rfl
  ·cases hkt
  ·have:k=703:=by simpa [TC.refs] using hkt
   subst this;rfl
  ·have:k=704:=by simpa [TC.refs] using hkt
   subst this;rfl
def fmtC (c:Comb):Str:=if G8 c=0 then i8 c else []
theorem C21 {P:Program} {f:FuncId} {args:List PV} {c:Comb} (h:FnOk P f args (fun rs=>rs=if G8 c=0 then [N2 (i8 c),H3 0] else [N2 [],H3 (G8 c)])):FnOk P f args (fun rs=>rs=[N2 (fmtC c),H3 (G8 c)]):=by
 by_cases hc:G8 c=0
 ·rw [if_pos hc] at h
  unfold fmtC
  rw [if_pos hc,hc];exact h
 ·rw [if_neg hc] at h
  unfold fmtC
  rw [if_neg hc];exact h
theorem at_some {n:Nat} {hs:List CHunk} (hg:R9 n (List.replicate (n+1) 0) hs=true) {h:CHunk} (hm:h∈hs):0 < h.At.length∧0 < h.Rows.length:=by
 obtain ⟨a1,a2,_⟩:=at_nn hg hm
 exact ⟨by omega,List.length_pos_iff.2 a2⟩
theorem J50 {n:Nat} {hs:List CHunk} (hg:R9 n (List.replicate (n+1) 0) hs=true) {h:CHunk} (hm:h∈hs) {v:Int} (hv:v∈h.At):0≤v∧v≤4096:=by
 obtain ⟨a1,a2,a3⟩:=B01 hs _ (fun k hk=>by rw [K09,List.getElem?_replicate_of_lt hk];exact Int.le_refl _) hg h hm
 obtain ⟨k,hk,rfl⟩:=List.getElem_of_mem hv
 have h1:=a3 k (by omega)
 have h2:=E16 h.Rows n k
 rw [K09,K07 hk] at h1
 simp only [Option.getD_some] at h1
 omega
theorem H10 {n:Nat} {hs:List CHunk} (ht:T3 (L5 hs) n=true) {h:CHunk} (hm:h∈hs):∀r∈h.Rows,1≤r.Text.length:=by
 intro r hr
 unfold T3 at ht
 rw [K10] at ht
 have h1:=List.all_eq_true.1 ht.1 r (List.mem_flatten.2 ⟨h.Rows,List.mem_map.2 ⟨h,hm,rfl⟩,hr⟩)
 unfold J5 at h1
 rw [K10] at h1
 have h2:r.Text≠[]:=by simpa using h1.2
 exact List.length_pos_iff.2 h2
theorem szRow_mem {x:Row}:∀{l:List Row},x∈l→x.Text.length+96≤(l.map N1).sum
 | y::r,h=>by
  simp only [K14,K35]
  rcases List.mem_cons.1 h with rfl | h
  ·unfold N1;omega
  ·have:=szRow_mem h;omega
theorem szC_le {a:Nat}:∀{hs:List CHunk},(∀x∈hs,x.At.length≤a)→szC hs≤(hs.map fun h=>(2048+a)+(h.Rows.map N1).sum).sum
 | [],_=>Nat.zero_le _
 | x::r,h=>by
  have ih:=szC_le (hs:=r) fun y hy=>h y (by simp [hy])
  have hx:=h x (by simp)
  have e:szC (x::r)=g9 x+szC r:=by unfold szC;rw [K14,K35]
  have e2:g9 x=2048+x.At.length+(x.Rows.map N1).sum:=rfl
  rw [e,K14,K35];omega
def y7 (x:Str) (r:List Str) (ctx:Int):List CHunk:=c6 r.length (F2 x r).1.Rows (N9 (F2 x r).1 ctx false).1
set_option maxHeartbeats 1000000
theorem G39 (x:Str) (r:List Str) (ctx:Int) (h:Small16 x r) (h1:1≤r.length) (hL:∀b∈x::r,(C2 b).length≤16) (hcx:0≤ctx∧ctx≤1048576) (R:Nat) (hR:R < (y7 x r ctx).length) :
  AL.Met Tryz.prog 37 [(N2 [120]).s1,(N2 x).s1,(x4 r).s1,(H3 ctx).s1,(M3 false).s1] [] [] []
   (fun rs ob'=>rs=[.agg [.p (.v (.string ⟨([120]:Str).toArray⟩)),.p (.v (.bool false)),.p (.v (.int .i64 r.length)),.mut 702],.one (.p (.v (.int .i64 0)))]∧ob'=[(702,.growT 59 (y7 x r ctx).length 2 (H7 (y7 x r ctx) R)),(703,.grow 3 Int 1 F7 (Y2 (y7 x r ctx) R)),(704,.grow 69 Row 3 rowC (Y3 (y7 x r ctx) R))]):=by
 have hx:=h.hx
 obtain ⟨s1,s2,s3⟩:=h.sums
 have hl:=h.len
 have hrows:=h.rows
 obtain ⟨D1,_,D3,_⟩:=B93 (path:=[120]) (ctx:=ctx) false (by decide) (by decide) h h1 hL hcx
 obtain ⟨g1,g2,g3,_⟩:=A33 h h1 hL
 obtain ⟨q1,_⟩:=D24 (t:=(F2 x r).1) (ctx:=ctx) false g2 hcx
 rw [D1] at D3
 have hHS:c6 r.length (F2 x r).1.Rows (N9 (F2 x r).1 ctx false).1=y7 x r ctx:=rfl
 rw [hHS] at D3
 obtain ⟨HS,hHSe⟩:∃HS,HS=y7 x r ctx:=⟨_,rfl⟩
 rw [←hHSe] at D3 hR ⊢
 have hm:=F72 x r (by omega) (fun b hb=>by have:=h.hr b hb;omega)
 obtain ⟨t,e,hte⟩:∃t e,F2 x r=(t,e):=⟨_,_,rfl⟩
 rw [hte] at s1 s2 hl hrows hm g1 g3 D3 q1
 obtain ⟨tp,rows⟩:=t
 dsimp only at s1 s2 hl hrows hm g1 g3 D3 q1
 subst g1 g3
 have hh:=D66 ⟨r.length,rows⟩ ctx false hrows (by dsimp only;omega) (by dsimp only;omega)
 have hin:=H37 ⟨r.length,rows⟩ ctx false
 obtain ⟨sp,e2,hsp⟩:∃sp e2,N9 ⟨r.length,rows⟩ ctx false=(sp,e2):=⟨_,_,rfl⟩
 rw [hsp] at hh hin D3 q1
 dsimp only at hh hin D3 q1
 subst q1
 have hc:=I92 [120] ⟨r.length,rows⟩ sp false HS hrows (by dsimp only;omega) (by dsimp only;omega) (by have:=hin.1;omega) D3.symm R hR
 have hname:=B84 [120]
 rw [show Q0 [120]=true from by decide] at hname
 refine AL.Met.intro Tryz.func37 (by decide) Z Z Z ?_
 refine k2 (A3 (C1 (I3 10 Z) Z (A7 Z Z (A5 ?_))));refine k1 (k2 (k2 (A3 (A4 Z Z (C4 (hname) Z Z Z ?_)))));rintro _ rfl;refine O6 Z Z (A5 ?_);refine k1 ?_;refine B3 rfl (fun ht=>?_) (fun ht=>?_)
 ·cases ht
 refine k5 (k1 (k2 (A3 (A4 Z Z (A4 Z Z (C4 (hm) Z Z Z ?_))))));rintro _ rfl;refine A4 Z Z (H9 Z Z Z (H9 Z Z Z (C1 (I3 12 Z) Z (F8 (B8 TySz.out Z Z Z Z Z Z) (A7 Z Z (A5 ?_))))));refine k1 (k2 (k2 (A3 (A4 Z Z (A6 (O9 Z Z) Z (A5 ?_))))));refine k1 ?_;refine B3 rfl (fun ht=>?_) (fun ht=>?_)
 ·cases ht
 refine k5 (k1 (k2 (A3 (A6 (C5 Z Z Z) Z (A4 Z Z (A4 Z Z (C4 (hh) Z Z Z ?_)))))));rintro _ rfl;refine A4 Z Z (H9 Z Z Z (H9 Z Z Z (A7 Z Z (A7 Z Z (A5 ?_)))));refine k1 (k2 (k2 (A3 (A4 Z Z (A6 (O9 Z Z) Z (A5 ?_))))));refine k1 ?_;refine B3 rfl (fun ht=>?_) (fun ht=>?_)
 ·cases ht
 refine k5 (k1 (k2 (A3 (A4 Z Z (A6 (C5 Z Z Z) Z (A4 Z Z (A4 Z Z (I30 (hc) Z Z Z Z ?_))))))));rintro _ _ ⟨rfl,rfl⟩;refine ⟨F74 rfl rfl,?_⟩;refine H9 Z Z Z (H9 Z Z Z (F8 (B8 TySz.out Z Z Z Z Z Z) (A7 Z Z (A5 ?_))));refine k1 (k10 ?_)
 exact l8 (retsC2 rfl rfl rfl rfl rfl) (by repeat (first | exact I9 | refine J0 rfl ?_ | refine P2 _ ?_)) (ObIn.spec (ob':=[(702,_),(703,_),(704,_)]) ⟨rfl,rfl,rfl,trivial⟩) ⟨rfl,rfl⟩
theorem J02 {x:Str} {r:List Str} (h:Small16 x r) (h1:1≤r.length) (hL:∀b∈x::r,(C2 b).length≤16) {ctx:Int} (hcx:0≤ctx∧ctx≤1048576):szC (y7 x r ctx)≤3000000:=by
 obtain ⟨D1,_,D3,_⟩:=B93 (path:=[120]) (ctx:=ctx) false (by decide) (by decide) h h1 hL hcx
 obtain ⟨_,_,g3,_⟩:=A33 h h1 hL
 obtain ⟨_,s2,_⟩:=h.sums
 have hl:=h.len
 have hn:=h.n
 rw [D1] at D3
 obtain ⟨_,_,hs',c2,_,e2⟩:=I39 (path:=[120]) (t:=(F2 x r).1) (sp:=(N9 (F2 x r).1 ctx false).1) (d:=false) (by rw [←D3])
 have e3:hs'=y7 x r ctx:=by
  rw [←D3] at e2
  injection e2 with a b
  injection a with _ _ _ a
  exact a.symm
 rw [e3] at c2
 have h2:=E15 N1 (2048+33) (F2 x r).1.Parents.toNat (F2 x r).1.Rows _ 0 [] _ (Int.le_refl _) c2 (by simp) (by simp)
 have h3:=szC_le (a:=33) (hs:=y7 x r ctx) (by
  intro y hy
  obtain ⟨s,_,rfl⟩:=List.mem_map.1 hy
  simp [cutH,G9];omega)
 have h4:=h2.1
 have h5:=h2.2
 simp only [K11] at h5
 have h6:(2048+33)*(y7 x r ctx).length≤(2048+33)*1105:=Nat.mul_le_mul (Nat.le_refl _) (by omega)
 omega
theorem D71 (f:CHunk→Nat):∀(l:List CHunk) (i:Nat) (x:CHunk),((l.set i x).map f).sum≤(l.map f).sum+f x
 | [],_,_=>by simp
 | y::r,0,x=>by simp only [List.set_cons_zero,K14,K35];omega
 | y::r,i+1,x=>by
  have:=D71 f r i x
  simp only [List.set_cons_succ,K14,K35];omega
theorem D72 (f:Row→Nat):∀(l:List Row) (i:Nat) (x:Row),((l.set i x).map f).sum≤(l.map f).sum+f x
 | [],_,_=>by simp
 | y::r,0,x=>by simp only [List.set_cons_zero,K14,K35];omega
 | y::r,i+1,x=>by
  have:=D72 f r i x
  simp only [List.set_cons_succ,K14,K35];omega
theorem I43 (hs:List CHunk) (r:Nat) (h:CHunk):szC (hs.set r h)≤szC hs+g9 h:=D71 g9 hs r h
theorem E67 (ats:List Int) (ls:List Row) (i:Nat) (x:Row):g9 ⟨ats,ls.set i x⟩≤g9 ⟨ats,ls⟩+N1 x:=by
 have:=D72 N1 ls i x
 unfold g9;dsimp only;omega
theorem J51 (hs:List CHunk) (h:CHunk):szC (hs++[h])=szC hs+g9 h:=by unfold szC;simp
theorem H91 (n:Int):0≤IntKind.u32.wrap n∧IntKind.u32.wrap n < 4294967296:=by simp [IntKind.wrap,IntKind.bits,IntKind.signed];omega
def E68 (a b:Int):Int:=IntKind.u32.wrap ((BitVec.ofInt IntKind.u32.bits a ^^^ BitVec.ofInt IntKind.u32.bits b).toNat:Int)
def CGood (c:Comb):Prop:=szC c.Hunks≤10000000∧∀h∈c.Hunks,I8 h.Rows
theorem d6 {p:Str} {d:Bool} {n:Int} {hs:List CHunk} {R:Nat} {h:CHunk} (hz:szC hs≤3000000) (hr:∀x∈hs,I8 x.Rows) (h1:g9 h≤6500000) (h2:I8 h.Rows):CGood ⟨p,d,n,hs.set R h⟩:=by
 have h3:=I43 hs R h
 refine ⟨by dsimp only;omega,fun x hx=>?_⟩
 rcases List.mem_or_eq_of_mem_set hx with hx | rfl
 ·exact hr x hx
 ·exact h2
theorem C60 {ls:List Row} {i:Nat} {x:Row} (h:I8 ls) (hx:0≤x.Marks∧x.Marks < 4294967296):I8 (ls.set i x):=by
 intro r hr
 rcases List.mem_or_eq_of_mem_set hr with hr | rfl
 ·exact h r hr
 ·exact hx
set_option maxHeartbeats 2000000
theorem F32 (c:Comb) (raw:List Int) (n what pos by':Int) (hz:szC c.Hunks≤2048*c.Hunks.length+67108864) (hr:∀h∈c.Hunks,I8 h.Rows):FnOk Tryz.prog 6 [O3 c,P0 raw,H3 n,H3 what,H3 pos,H3 by'] (fun rs=>rs=[M3 true]):=by
 obtain ⟨x,r,hpk,hxl,_⟩:=H02 raw n
 have hsm:=H77 hpk
 have hL:=J49 hpk
 obtain ⟨h1,h4⟩:=H04 raw n hpk
 have hP:=J00 raw n x r hpk
 have hm3:=U4 by' (n:=3) (by omega)
 have hmod3:=A43 by' 3 (by omega) (by omega)
 have hm5:=U4 by' (n:=5) (by omega)
 have hmod5:=A43 by' 5 (by omega) (by omega)
 have hm6:=U4 by' (n:=6) (by omega)
 have hmod6:=A43 by' 6 (by omega) (by omega)
 have hmodw:=A43 what 9 (by omega) (by omega)
 obtain ⟨W,hW⟩:∃W,W=R5 what 9:=⟨_,rfl⟩
 obtain ⟨b3,hb3⟩:∃q,q=R5 by' 3:=⟨_,rfl⟩
 obtain ⟨b5,hb5⟩:∃q,q=R5 by' 5:=⟨_,rfl⟩
 obtain ⟨b6,hb6⟩:∃q,q=R5 by' 6:=⟨_,rfl⟩
 rw [←hW] at hmodw
 rw [←hb3] at hm3 hmod3
 rw [←hb5] at hm5 hmod5
 rw [←hb6] at hm6 hmod6
 have hfn:=H78 [120] x r b3 false hsm
 have hmet:=G39 x r b3 hsm h1 hL (by omega)
 obtain ⟨D1,D2,_,_⟩:=B93 (path:=[120]) (ctx:=b3) false (by decide) (by decide) hsm h1 hL (by omega)
 obtain ⟨z1,z2⟩:=J01 (path:=[120]) (ctx:=b3) (d:=false) hsm
 rw [D1] at hfn D2 z1 z2
 rw [show c6 r.length (F2 x r).1.Rows (N9 (F2 x r).1 b3 false).1=y7 x r b3 from rfl] at hfn D2 z1 z2
 have hzs:=J02 hsm h1 hL (ctx:=b3) (by omega)
 obtain ⟨hs,hhs⟩:∃hs,hs=y7 x r b3:=⟨_,rfl⟩
 rw [←hhs] at hfn D2 z1 z2 hzs hmet
 dsimp only at hfn D2 z1 z2
 have hsl:=A75 hs
 obtain ⟨p1,p2,p3,p4⟩:=F31 D2
 have w1:=fun (hz:szC c.Hunks≤268435456)=>B21 c hz hr
 have w2:=fun (hz:szC c.Hunks≤268435456)=>B25 c hz hr
 have w3:=fun (hz:szC c.Hunks≤268435456)=>A36 c hz hr
 have w4:=fun (hz:szC c.Hunks≤268435456)=>q8 c hz hr
 refine FnOk.intro Tryz.func6 (by decide) Z Z Z Z ?_
 refine k2 (A3 (C1 (R4 6 Z Z Z) Z (A7 Z Z (A5 ?_))));refine k1 (k2 (k2 (A3 (A6 (A8 Z) Z (E1 Z Z Z Z (E7 Z Z (A6 (N5 Z Z) Z (A4 Z Z (B2 Z Z Z Z (fun hg=>by rw [hg];exact A8 Z) ?_)))))))));refine B2 Z Z Z Z (fun hg=>by rw [hg];exact B5 Z Z Z) ?_;refine B2 Z Z Z Z (fun hg=>by rw [hg];exact N3 Z) ?_;refine B2 Z Z Z Z (fun hg=>by rw [hg];exact N5 Z Z) ?_;refine J4 Z Z ?_;refine A5 ?_;refine k1 ?_;refine B3 rfl (fun ht=>?_) (fun ht=>?_)
 ·refine k2 (A3 (C4 (B24) Z Z Z ?_));rintro _ rfl;refine A7 Z Z (A5 ?_);refine k1 (k10 (k11 ?_))
  exact B6 (G6 rfl rfl rfl) rfl
 have hc3:c.Hunks.length≤3:=by
  have h:=A1 (or_pick.symm.trans ht)
  omega
 have hz3:szC c.Hunks≤268435456:=by omega
 have w1:=C21 (w1 hz3)
 have w2:=C21 (w2 hz3)
 have w3:=w3 hz3
 have w4:=w4 hz3
 obtain ⟨fc,hfc⟩:∃f,f=fmtC c:=⟨_,rfl⟩
 obtain ⟨kc,hkc⟩:∃f,f=G8 c:=⟨_,rfl⟩
 rw [←hfc,←hkc] at w1 w2
 rw [←hkc] at w3 w4
 refine k5 (k1 (k2 (k2 (A3 (A7 Z Z (A5 ?_))))));refine k1 (k3 (D6 (X:=Nat) (fun k=>([(1,.s (P0 raw).s1),(2,B9 n),(3,B9 what),(4,B9 pos),(5,B9 by'),(6,.s (.one (.ref 6 0))),(13,B9 k)],[(6,.box (O3 c).s1.cells)])) (fun k=>k≤c.Hunks.length) (fun k=>c.Hunks.length - k) 0 (Nat.zero_le _) (J69 ⟨le1 rfl,le1 rfl,le1 rfl,le1 rfl,le1 rfl,le1 rfl,le1 rfl,trivial⟩ ⟨rfl,trivial⟩) ?_))
 intro k hk
 dsimp only at hk ⊢
 refine k2 (k2 (A3 (A4 Z Z (A6 (A8 Z) Z (E1 Z Z Z Z (E7 Z Z (E4 Z Z Z (A5 ?_))))))));refine k1 ?_;refine B3 rfl (fun ht=>?_) (fun ht=>?_)
 ·have hlt:k < c.Hunks.length:=by have:=A0 ht;omega
  have hv:c.Hunks[k]?=some c.Hunks[k]:=by simp [hlt]
  refine k5 (k1 (k2 (k3 (k2 (A3 (A6 (A8 Z) Z (E1 Z Z Z Z (A4 Z Z (A6 (B0 Z (.pure _ _ _ _) Z (by omega) hv) Z (A6 (D4 Z) Z (A6 (B1 Z Z) Z (E7 Z Z (A6 (N5 Z Z) Z (A4 Z Z (B2 Z Z Z Z (fun hg=>by rw [hg];exact A8 Z) ?_)))))))))))))));refine B2 Z Z Z Z (fun hg=>by rw [hg];exact B5 Z Z Z) ?_;refine B2 Z Z Z Z (fun hg=>by rw [hg];exact B7 Z Z) ?_;refine B2 Z Z Z Z (fun hg=>by have hq:=hg;(try simp at hq);rw [hg];exact B0 Z (.pure _ _ _ _) Z (by omega) hv) ?_;refine B2 Z Z Z Z (fun hg=>by rw [hg];exact D4 Z) ?_;refine B2 Z Z Z Z (fun hg=>by rw [hg];exact B1 Z Z) ?_;refine B2 Z Z Z Z (fun hg=>by rw [hg];exact V3 Z (.pure _ _ _ _)) ?_;refine B2 Z Z Z Z (fun hg=>by rw [hg];exact N5 Z Z) ?_;refine J4 Z Z ?_;refine A5 ?_;refine k1 ?_;refine B3 rfl (fun ht=>?_) (fun ht=>?_)
  ·refine k2 (A3 (C4 (B24) Z Z Z ?_));rintro _ rfl;refine A7 Z Z (A5 ?_);refine k1 (k10 (k12 (k11 (k11 (k12 (k11 ?_))))))
   exact B6 (G6 rfl rfl rfl) rfl
  refine k5 (k4 (k1 (A3 (A4 Z Z (C6 Z Z Z (A7 Z Z (A5 ?_)))))));refine k1 ?_
  exact ⟨k+1,by omega,by omega,J69 ⟨le1 rfl,le1 rfl,le1 rfl,le1 rfl,le1 rfl,le1 rfl,le1 rfl,trivial⟩ ⟨rfl,trivial⟩⟩
 refine k6 (k2 (A3 (A4 Z Z (A4 Z Z (C4 (hP) Z Z Z ?_)))));rintro _ rfl;refine A4 Z Z (H9 Z Z Z (H9 Z Z Z (A7 Z Z (A7 Z Z (A5 ?_)))));refine k1 (k2 ?_)
 by_cases hne:hs=[]
 ·rw [hne] at hfn
  refine A3 (A4 Z Z (A4 Z Z (A4 Z Z (C4 (hmod3) Z Z Z ?_))));rintro _ rfl;refine C4 (hfn) Z Z Z ?_;rintro _ rfl;refine A4 Z Z (H9 Z Z Z (H9 Z Z Z (C1 (I3 16 Z) Z (F8 (B8 TySz.out Z Z Z Z Z Z) (A7 Z Z (A5 ?_))))));refine k1 (k2 (A3 (A4 Z Z (C4 (hmod5) Z Z Z ?_))));rintro _ rfl;refine A6 (U0 Z Z (by omega)) Z (A7 Z Z (A5 ?_));refine L0 ?_
  refine M9 [(6,.s (.one (.ref 6 0))),(16,.s (.one (.ref 16 0)))] [(6,.box (O3 c).s1.cells),(16,.box (O3 ⟨[120],false,r.length,[]⟩).s1.cells)] (J69 ⟨le1 rfl,le1 rfl,trivial⟩ ⟨rfl,rfl,trivial⟩) ?_
  refine I32 (X:=Comb) (fun q=>([(6,.s (.one (.ref 6 0))),(16,.s (.one (.ref 16 0)))],[(6,.box (O3 c).s1.cells),(16,.box (O3 q).s1.cells)])) CGood ?_ ?_
  ·refine k2 (A3 (A6 (A8 Z) Z (E1 Z Z Z Z (E7 Z Z (A6 (N5 Z Z) Z (A5 ?_))))));refine k1 ?_;refine B3 rfl (fun ht=>?_) (fun ht=>?_)
   ·exfalso;simp at ht
   refine k5 (k1 ?_)
   exact ⟨⟨[120],false,r.length,[]⟩,⟨Nat.zero_le _,fun h hh=>(by cases hh)⟩,J69 ⟨le1 rfl,le1 rfl,trivial⟩ ⟨rfl,rfl,trivial⟩⟩
  intro q hq
  obtain ⟨hq1,hq2⟩:=hq
  dsimp only
  have w5:=C21 (B21 q (by omega) hq2)
  have w6:=C21 (B25 q (by omega) hq2)
  have w7:=A36 q (by omega) hq2
  have w8:=q8 q (by omega) hq2
  obtain ⟨fq,hfq⟩:∃f,f=fmtC q:=⟨_,rfl⟩
  obtain ⟨kq,hkq⟩:∃f,f=G8 q:=⟨_,rfl⟩
  rw [←hfq,←hkq] at w5 w6
  rw [←hkq] at w7 w8
  refine k2 (A3 (A6 (C5 Z Z Z) Z (C4 (w1) Z Z Z ?_)));rintro _ rfl;refine A4 Z Z (H9 Z Z Z (H9 Z Z Z (A7 Z Z (A7 Z Z (A5 ?_)))));refine k1 (k2 (A3 (A6 (C5 Z Z Z) Z (C4 (w2) Z Z Z ?_))));rintro _ rfl;refine A4 Z Z (H9 Z Z Z (H9 Z Z Z (A7 Z Z (A7 Z Z (A5 ?_)))));refine k1 (k2 (A3 (A6 (C5 Z Z Z) Z (C4 (w5) Z Z Z ?_))));rintro _ rfl;refine A4 Z Z (H9 Z Z Z (H9 Z Z Z (A7 Z Z (A7 Z Z (A5 ?_)))));refine k1 (k2 (A3 (A6 (C5 Z Z Z) Z (C4 (w6) Z Z Z ?_))));rintro _ rfl;refine A4 Z Z (H9 Z Z Z (H9 Z Z Z (A7 Z Z (A7 Z Z (A5 ?_)))));refine k1 (k2 (C9 (by kernel_rfl) (by kernel_rfl) (A9 (C5 Z Z Z) Z Z (A9 (H2 (w3) Z Z) Z Z (A9 (C5 Z Z Z) Z Z (A9 (H2 (w4) Z Z) Z Z (A9 (K0 Z Z) Z Z (C8 Z Z (C0 Z Z (fun hg=>by rw [hg];exact C5 Z Z Z) Z Z ?_)))))))));refine C0 Z Z (fun hg=>by have hq:=hg;(try simp at hq);rw [hg];exact H2 (w7) Z Z) Z Z ?_;refine C0 Z Z (fun hg=>by rw [hg];exact C5 Z Z Z) Z Z ?_;refine C0 Z Z (fun hg=>by have hq:=hg;(try simp at hq);rw [hg];exact H2 (w8) Z Z) Z Z ?_;refine C0 Z Z (fun hg=>by rw [hg];exact K0 Z Z) Z Z ?_;refine A9 (F6 Z (fun h=>by first | rfl | (rw [h];rfl)) (fun h=>by first | rfl | (rw [h];rfl))) Z Z ?_;refine C8 Z Z (C0 Z Z (fun hg=>by rw [hg];exact B7 Z Z) Z Z ?_);refine C0 Z Z (fun hg=>by rw [hg];exact B7 Z Z) Z Z ?_;refine C0 Z Z (fun hg=>by rw [hg];exact A30 Z Z) Z Z ?_;refine A9 (F6 Z (fun h=>by first | rfl | (rw [h];rfl)) (fun h=>by first | rfl | (rw [h];rfl))) Z Z ?_;refine C8 Z Z (C0 Z Z (fun hg=>by rw [hg];exact B7 Z Z) Z Z ?_);refine C0 Z Z (fun hg=>by rw [hg];exact B7 Z Z) Z Z ?_;refine C0 Z Z (fun hg=>by rw [hg];exact K0 Z Z) Z Z ?_;refine A9 (F6 Z (fun h=>by first | rfl | (rw [h];rfl)) (fun h=>by first | rfl | (rw [h];rfl))) Z Z ?_;refine C8 Z Z (C0 Z Z (fun hg=>by rw [hg];exact B7 Z Z) Z Z ?_);refine C0 Z Z (fun hg=>by rw [hg];exact B7 Z Z) Z Z ?_;refine C0 Z Z (fun hg=>by rw [hg];exact A30 Z Z) Z Z ?_;refine A9 (F6 Z (fun h=>by first | rfl | (rw [h];rfl)) (fun h=>by first | rfl | (rw [h];rfl))) Z Z ?_;refine C8 Z Z (C0 Z Z (fun hg=>by rw [hg];exact B7 Z Z) Z Z ?_);refine C0 Z Z (fun hg=>by rw [hg];exact B7 Z Z) Z Z ?_;refine C0 Z Z (fun hg=>by rw [hg];exact K0 Z Z) Z Z ?_;refine A9 (F6 Z (fun h=>by first | rfl | (rw [h];rfl)) (fun h=>by first | rfl | (rw [h];rfl))) Z Z ?_;refine C8 Z Z (C0 Z Z (fun hg=>by have hq:=hg;(try simp at hq);rw [hg];exact H2 (B24) Z Z) Z Z ?_);refine A9 (F6 Z (fun h=>by first | rfl | (rw [h];rfl)) (fun h=>by first | rfl | (rw [h];rfl))) Z Z ?_;refine A9 (J6 Z Z) Z Z (L6 ?_);refine k1 (k10 ?_)
  exact B6 (G6 rfl rfl rfl) (by simp)
 have hpos:0 < hs.length:=List.length_pos_iff.2 hne
 have hmi:=U4 pos (n:=hs.length) (by omega)
 have hmod:=A43 pos hs.length (by omega) (by omega)
 obtain ⟨R,hR⟩:∃R:Nat,R5 pos hs.length=R:=⟨(R5 pos hs.length).toNat,by omega⟩
 rw [hR] at hmi hmod
 have hRl:R < hs.length:=by omega
 have hv:hs[R]?=some hs[R]:=by simp [hRl]
 obtain ⟨gl1,gl2⟩:=at_some p3 (K17 hRl)
 have gl3:=z2 _ (K17 hRl)
 have gl4:=H10 p4 (K17 hRl)
 obtain ⟨h,hh⟩:∃h,h=hs[R]:=⟨_,rfl⟩
 have hhz:g9 h≤3000000:=by have:=B51 (K17 hRl);rw [hh];omega
 rw [←hh] at hv gl1 gl2 gl3 gl4
 have hmet:=hmet R hRl
 obtain ⟨ca1,ca2⟩:=E62 hv
 rw [ca1,ca2] at hmet
 obtain ⟨ho1,ho2⟩:=G35 hv
 obtain ⟨hA,hRw⟩:=h
 dsimp only at gl1 gl2 gl3 gl4 hmet ho2
 have hrl:=U2 hRw
 have e1:g9 ⟨hA,hRw⟩=2048+hA.length+(hRw.map N1).sum:=rfl
 have hmi2:=U4 pos (n:=hRw.length) (by omega)
 have hmod2:=A43 pos hRw.length (by omega) (by omega)
 obtain ⟨K,hK⟩:∃K:Nat,R5 pos hRw.length=K:=⟨(R5 pos hRw.length).toNat,by omega⟩
 rw [hK] at hmi2 hmod2
 have hKl:K < hRw.length:=by omega
 have hvx:hRw[K]?=some hRw[K]:=by simp [hKl]
 have hmi3:=U4 pos (n:=hA.length) (by omega)
 have hmod4:=A43 pos hA.length (by omega) (by omega)
 obtain ⟨J,hJ⟩:∃J:Nat,R5 pos hA.length=J:=⟨(R5 pos hA.length).toNat,by omega⟩
 rw [hJ] at hmi3 hmod4
 have hJl:J < hA.length:=by omega
 have hva:hA[J]?=some hA[J]:=by simp [hJl]
 have hvr:-4611686018427387904≤hA[J]∧hA[J]≤4611686018427387904:=by have:=J50 p3 (K17 hRl) (v:=hA[J]) (by rw [←hh];exact K17 hJl);omega
 obtain ⟨v,hve⟩:∃v,v=hA[J]:=⟨_,rfl⟩
 rw [←hve] at hva hvr
 have hxin:=gl3 _ (K17 hKl)
 have hxt:=gl4 _ (K17 hKl)
 have hxz:hRw[K].Text.length+96≤(hRw.map N1).sum:=szRow_mem (K17 hKl)
 obtain ⟨w,hw⟩:∃w,w=hRw[K]:=⟨_,rfl⟩
 rw [←hw] at hvx hxin hxt hxz
 obtain ⟨wl,wm,wt⟩:=w
 dsimp only at hxin hxt hxz
 refine A3 (A4 Z Z (A4 Z Z (A4 Z Z (C4 (hmod3) Z Z Z ?_))));rintro _ rfl;refine I30 (hmet) Z Z Z Z ?_;rintro _ _ ⟨rfl,rfl⟩;refine ⟨F74 rfl rfl,?_⟩;refine A4 Z Z (H9 Z Z Z (H9 Z Z Z (C1 (I3 16 (by show ((H7 hs R).all (TC.free 16)&&true)=true;rw [Q3 hs R (k:=16) Z rfl];rfl)) Z ?_)));refine F8 (B8 TySz.out Z Z Z Z Z Z) (A7 Z Z (A5 ?_));refine G5 (K05 702 R hs [.mut 703,.mut 704] Z Z hRl Z ho1 ho2) ?_
 refine k2 (A3 (A4 Z Z (C4 (hmod5) Z Z Z ?_)));rintro _ rfl;refine A6 (U0 Z Z (by omega)) Z (A7 Z Z (A5 ?_));refine L0 ?_
 refine M9 [(4,B9 pos),(3,B9 what),(5,B9 by'),(6,.s (.one (.ref 6 0))),(16,.s (.one (.ref 16 0))),(18,B9 (b5 - 2))] [(6,.box (O3 c).s1.cells),(16,.box [.p (.v (.string ⟨([120]:Str).toArray⟩)),.p (.v (.bool false)),.p (.v (.int .i64 r.length)),.mut 702]),(702,.growA 59 CHunk 2 H5 hs R [.mut 703,.mut 704]),(703,.grow 3 Int 1 F7 hA),(704,.grow 69 Row 3 rowC hRw)] (J69 ⟨le1 rfl,le1 rfl,le1 rfl,le1 rfl,le1 rfl,le1 rfl,trivial⟩ ⟨rfl,rfl,rfl,rfl,rfl,trivial⟩) ?_
 refine I32 (X:=Comb) (fun q=>([(6,.s (.one (.ref 6 0))),(16,.s (.one (.ref 16 0)))],[(6,.box (O3 c).s1.cells),(16,.box (O3 q).s1.cells)])) CGood ?_ ?_
 ·refine k2 (A3 (A6 (A8 Z) Z (E1 Z Z Z Z (A6 (G80 Z Z) Z (A6 (N5 Z Z) Z (A5 ?_))))));refine k1 ?_;refine B3 rfl (fun ht=>?_) (fun ht=>?_)
  rotate_left
  ·exfalso
   have:=A1 ht
   omega
  refine k2 (C9 (by kernel_rfl) (by kernel_rfl) (A9 (A8 Z) Z Z (A9 (B5 Z Z Z) Z Z (C8 Z Z (A9 (A8 Z) Z Z (A9 (B5 Z Z Z) Z Z (A9 (G80 Z Z) Z Z (A9 (H2 (hmod) Z Z) Z Z (A9 (E41 Z Z Z (by omega) (by omega)) Z Z (A9 (J6 Z Z) Z Z (L6 ?_)))))))))));refine k1 (k2 (C9 (by kernel_rfl) (by kernel_rfl) (C8 Z Z (A9 (J9 Z) Z Z (A9 (K9 Z) Z Z (A9 (A97 Z Z (by first | rfl | omega) Z) Z Z ?_))))));refine C8 Z Z (C8 Z Z (A9 (J9 Z) Z Z (A9 (K9 Z) Z Z (A9 (A97 Z Z (by first | rfl | omega) Z) Z Z ?_))));refine A9 (C82 Z Z) Z Z (A9 (H2 (hmod2) Z Z) Z Z (A9 (Z2 Z Z Z (by omega) (by omega)) Z Z (A9 (J6 Z Z) Z Z (L6 ?_))));refine k1 (k2 (A3 (A4 Z Z (C4 (hmodw) Z Z Z ?_))));rintro _ rfl;refine A5 ?_;refine k1 (k3 (k2 (A3 (A6 (K0 Z Z) Z (A7 Z Z (A5 ?_))))));refine k1 ?_;refine B3 rfl (fun ht=>?_) (fun ht=>?_)
  ·skip
   refine C9 (by kernel_rfl) (by kernel_rfl) (C8 Z Z (A9 (J9 Z) Z Z (A9 (K9 Z) Z Z (A9 (A97 Z Z (by first | rfl | omega) Z) Z Z ?_))));refine C8 Z Z (C8 Z Z (A9 (J9 Z) Z Z (A9 (K9 Z) Z Z (A9 (A97 Z Z (by first | rfl | omega) Z) Z Z ?_))));refine A9 (C82 Z Z) Z Z (A9 (H2 (hmod4) Z Z) Z Z (A9 (Z2 Z Z Z (by omega) (by omega)) Z Z (A9 (B81 Z Z hva Z) Z Z (C8 Z Z (A9 (V2 Z Z (by omega)) Z Z (A9 (Z2 Z Z Z (by omega) (by omega)) Z Z (s7 (x7 ((v+(b5 - 2):Int)) TySz.out Z Z hva Z Z Z Z (fun _ _ _ h=>A09 h) (by intro j h1 h2;rcases j with _ | _ | _ | _ | _ | _ | _ | j<;>first | rfl | omega)) Z ?_)))))));refine L6 ?_;refine k4 (k1 ?_);refine ⟨⟨[120],false,r.length,hs.set R ⟨hA.set J (v+(b5 - 2)),hRw⟩⟩,?_,Sees.trans (Sees.freezeG (k:=703) rfl rfl) (Sees.trans (Sees.freezeG (k:=704) rfl rfl) (Sees.trans (J75 702 (⟨hA.set J (v+(b5 - 2)),hRw⟩:CHunk) rfl rfl) (Sees.trans (Sees.freezeG (k:=702) rfl rfl) (J69 ⟨le1 rfl,le1 rfl,trivial⟩ ⟨rfl,rfl,trivial⟩))))⟩
   refine d6 hzs z2 ?_ gl3
   have e2:g9 ⟨hA.set J (v+(b5 - 2)),hRw⟩=2048+(hA.set J (v+(b5 - 2))).length+(hRw.map N1).sum:=rfl
   rw [K47] at e2
   omega
  refine k2 (A3 (A6 (K0 Z Z) Z (A7 Z Z (A5 ?_))));refine k1 ?_;refine B3 rfl (fun ht=>?_) (fun ht=>?_)
  ·skip
   refine C9 (by kernel_rfl) (by kernel_rfl) (C8 Z Z (A9 (J9 Z) Z Z (A9 (K9 Z) Z Z (A9 (B81 Z Z hvx Z) Z Z (C8 Z Z (A9 (H2 (hmod6) Z Z) Z Z (A9 (N6 Z) Z Z (A9 (E20 Z Z (by (exact B16 b6))) Z Z ?_))))))));refine A9 (X9 Z Z Z (fun _=>rfl)) Z Z (A9 (J9 Z) Z Z (A9 (K9 Z) Z Z (s7 (x7 ((⟨wl,E68 wm (H0 b6),wt⟩:Row)) TySz.out Z Z hvx Z Z Z Z (fun _ _ _ h=>A09 h) (by intro j h1 h2;rcases j with _ | _ | _ | _ | _ | _ | _ | j<;>first | rfl | omega)) Z ?_)));refine L6 ?_;refine k4 (k1 ?_);refine ⟨⟨[120],false,r.length,hs.set R ⟨hA,hRw.set K ⟨wl,E68 wm (H0 b6),wt⟩⟩⟩,?_,Sees.trans (Sees.freezeG (k:=703) rfl rfl) (Sees.trans (Sees.freezeG (k:=704) rfl rfl) (Sees.trans (J75 702 (⟨hA,hRw.set K ⟨wl,E68 wm (H0 b6),wt⟩⟩:CHunk) rfl rfl) (Sees.trans (Sees.freezeG (k:=702) rfl rfl) (J69 ⟨le1 rfl,le1 rfl,trivial⟩ ⟨rfl,rfl,trivial⟩))))⟩
   refine d6 hzs z2 ?_ (C60 gl3 (H91 _))
   have e2:=E67 hA hRw K ⟨wl,E68 wm (H0 b6),wt⟩
   have e3:N1 ⟨wl,E68 wm (H0 b6),wt⟩=wt.length+96:=rfl
   omega
  refine k2 (A3 (A6 (K0 Z Z) Z (A7 Z Z (A5 ?_))));refine k1 ?_;refine B3 rfl (fun ht=>?_) (fun ht=>?_)
  ·skip
   refine A3 (A4 Z Z (A4 Z Z (A6 (J9 Z) Z (A6 (K9 Z) Z (A6 (B81 Z Z hvx Z) Z (O6 Z Z (A6 (J9 Z) Z (A6 (K9 Z) Z (F8 (x7 ((⟨!wl,wm,wt⟩:Row)) TySz.out Z Z hvx Z Z Z Z (fun _ _ _ h=>A09 h) (by intro j h1 h2;rcases j with _ | _ | _ | _ | _ | _ | _ | j<;>first | rfl | omega)) ?_)))))))));refine A5 ?_;refine k4 (k1 ?_);refine ⟨⟨[120],false,r.length,hs.set R ⟨hA,hRw.set K ⟨!wl,wm,wt⟩⟩⟩,?_,Sees.trans (Sees.freezeG (k:=703) rfl rfl) (Sees.trans (Sees.freezeG (k:=704) rfl rfl) (Sees.trans (J75 702 (⟨hA,hRw.set K ⟨!wl,wm,wt⟩⟩:CHunk) rfl rfl) (Sees.trans (Sees.freezeG (k:=702) rfl rfl) (J69 ⟨le1 rfl,le1 rfl,trivial⟩ ⟨rfl,rfl,trivial⟩))))⟩
   refine d6 hzs z2 ?_ (C60 gl3 hxin)
   have e2:=E67 hA hRw K ⟨!wl,wm,wt⟩
   have e3:N1 ⟨!wl,wm,wt⟩=wt.length+96:=rfl
   omega
  refine k2 (A3 (A6 (K0 Z Z) Z (A7 Z Z (A5 ?_))));refine k1 ?_;refine B3 rfl (fun ht=>?_) (fun ht=>?_)
  ·skip
   refine C9 (by kernel_rfl) (by kernel_rfl) (C8 Z Z (C8 Z Z (A9 (J9 Z) Z Z (A9 (K9 Z) Z Z (A9 (B81 Z Z hvx Z) Z Z (C8 Z Z (A9 (J9 Z) Z Z (A9 (K9 Z) Z Z (A9 (B81 Z Z hvx Z) Z Z (A9 (N3 Z) Z Z (A9 (U0 Z Z (by (first | omega | (dsimp only;omega)))) Z Z (A9 (G10 Z Z (by (first | omega | (dsimp only;omega))) (by (first | omega | (dsimp only;omega)))) Z Z (A9 (J9 Z) Z Z (A9 (K9 Z) Z Z (s7 (x7 ((⟨wl,wm,wt.take ((wt.length:Int) - 1).toNat⟩:Row)) TySz.out Z Z hvx Z Z Z Z (fun _ _ _ h=>A09 h) (by intro j h1 h2;rcases j with _ | _ | _ | _ | _ | _ | _ | j<;>first | rfl | omega)) Z ?_)))))))))))))));refine L6 ?_;refine k4 (k1 ?_);refine ⟨⟨[120],false,r.length,hs.set R ⟨hA,hRw.set K ⟨wl,wm,wt.take ((wt.length:Int) - 1).toNat⟩⟩⟩,?_,Sees.trans (Sees.freezeG (k:=703) rfl rfl) (Sees.trans (Sees.freezeG (k:=704) rfl rfl) (Sees.trans (J75 702 (⟨hA,hRw.set K ⟨wl,wm,wt.take ((wt.length:Int) - 1).toNat⟩⟩:CHunk) rfl rfl) (Sees.trans (Sees.freezeG (k:=702) rfl rfl) (J69 ⟨le1 rfl,le1 rfl,trivial⟩ ⟨rfl,rfl,trivial⟩))))⟩
   refine d6 hzs z2 ?_ (C60 gl3 hxin)
   have e2:=E67 hA hRw K ⟨wl,wm,wt.take ((wt.length:Int) - 1).toNat⟩
   have e3:N1 ⟨wl,wm,wt.take ((wt.length:Int) - 1).toNat⟩=(wt.take ((wt.length:Int) - 1).toNat).length+96:=rfl
   rw [K19] at e3
   omega
  refine k2 (A3 (A6 (K0 Z Z) Z (A7 Z Z (A5 ?_))));refine k1 ?_;refine B3 rfl (fun ht=>?_) (fun ht=>?_)
  ·skip
   refine A3 (A4 Z Z (A6 (J9 Z) Z (A6 (K9 Z) Z (F8 (E42 TySz.out Z Z (by first | rfl | omega) Z Z Z Z) ?_))));refine A5 ?_;refine k4 (k1 ?_);refine ⟨⟨[120],false,r.length,hs.set R ⟨hA,[]⟩⟩,?_,Sees.trans (Sees.freezeG (k:=703) rfl rfl) (Sees.trans (K02 706 Row 3 rowC 69 (kb:=702) (o:=1) rfl rfl rfl) (Sees.trans (Sees.freezeG (k:=706) rfl rfl) (Sees.trans (J75 702 (⟨hA,[]⟩:CHunk) rfl rfl) (Sees.trans (Sees.freezeG (k:=702) rfl rfl) (J69 ⟨le1 rfl,le1 rfl,trivial⟩ ⟨rfl,rfl,trivial⟩)))))⟩
   refine d6 hzs z2 ?_ (fun r hr=>by cases hr)
   have e2:g9 ⟨hA,[]⟩=2048+hA.length+0:=rfl
   omega
  refine k2 (A3 (A6 (K0 Z Z) Z (A7 Z Z (A5 ?_))));refine k1 ?_;refine B3 rfl (fun ht=>?_) (fun ht=>?_)
  ·skip
   refine A3 (A6 (A8 Z) Z (E1 Z Z Z Z (A4 Z Z (C6 Z Z Z (A6 (A8 Z) Z (F8 (B8 TySz.out Z Z Z Z Z Z) (A5 ?_)))))));refine k4 (k1 ?_);refine ⟨⟨[120],false,r.length+(b5 - 2),hs.set R ⟨hA,hRw⟩⟩,?_,Sees.trans (Sees.freezeG (k:=703) rfl rfl) (Sees.trans (Sees.freezeG (k:=704) rfl rfl) (Sees.trans (J75 702 (⟨hA,hRw⟩:CHunk) rfl rfl) (Sees.trans (Sees.freezeG (k:=702) rfl rfl) (J69 ⟨le1 rfl,le1 rfl,trivial⟩ ⟨rfl,rfl,trivial⟩))))⟩
   exact d6 hzs z2 (by omega) gl3
  refine k2 (A3 (A6 (K0 Z Z) Z (A7 Z Z (A5 ?_))));refine k1 ?_;refine B3 rfl (fun ht=>?_) (fun ht=>?_)
  ·refine G5 (Sees.trans (Sees.freezeG (k:=703) Z Z) (Sees.trans (Sees.freezeG (k:=704) Z Z) (J75 702 (⟨hA,hRw⟩:CHunk) Z Z))) ?_
   have hg:=d6 (p:=[120]) (d:=false) (n:=r.length) (R:=R) hzs z2 (show g9 ⟨hA,hRw⟩≤6500000 by omega) gl3
   have hz5:=I43 hs R ⟨hA,hRw⟩
   have hv2:(hs.set R ⟨hA,hRw⟩)[R]?=some ⟨hA,hRw⟩:=K48 hRl
   have hln:(hs.set R ⟨hA,hRw⟩).length=hs.length:=K47
   obtain ⟨hs',hs'e⟩:∃hs',hs'=hs.set R ⟨hA,hRw⟩:=⟨_,rfl⟩
   rw [←hs'e] at hg hz5 hv2 hln ⊢
   skip
   refine C9 (by kernel_rfl) (by kernel_rfl) (A9 (A8 Z) Z Z (A9 (B5 Z Z Z) Z Z (C8 Z Z (A9 (J9 Z) Z Z (A9 (I67 Z Z hv2 Z) Z Z (A9 (D5 (c:=H5) (ys:=[⟨hA,hRw⟩]) (E0 Z Z Z Z F3) Z Z Z) Z Z (B09 (x8 Z Z Z (.pure _ _ _ _) (by (simp only [K08,K11];omega)) Z) Z Z (A9 (A8 Z) Z Z (s7 (B8 TySz.out Z Z Z Z Z Z) Z (L6 ?_))))))))));refine k4 (k1 ?_);refine ⟨⟨[120],false,r.length,hs'++[⟨hA,hRw⟩]⟩,⟨?_,fun x hx=>?_⟩,Sees.trans (Sees.freezeG (k:=702) rfl rfl) (J69 ⟨le1 rfl,le1 rfl,trivial⟩ ⟨rfl,rfl,trivial⟩)⟩
   ·dsimp only
    rw [J51];omega
   ·rcases List.mem_append.1 hx with hx | hx
    ·exact hg.2 x hx
    ·have:x=⟨hA,hRw⟩:=by simpa using hx
     subst this;exact gl3
  refine k2 (A3 (A6 (K0 Z Z) Z (A7 Z Z (A5 ?_))));refine k1 ?_;refine B3 rfl (fun ht=>?_) (fun ht=>?_)
  ·refine G5 (Sees.freezeG (k:=703) Z Z) ?_
   skip
   refine A3 (A4 Z Z (A4 Z Z (A6 (J9 Z) Z (A6 (K9 Z) Z (A6 (A97 Z Z (by first | rfl | omega) Z) Z ?_)))));refine A6 (C13 Z (.pure _ _ _ _) Z (by (first | omega | (dsimp only;omega))) (by (first | omega | (dsimp only;omega)))) Z (A6 (J9 Z) Z (A6 (K9 Z) Z (F8 (E42 TySz.out Z Z (by first | rfl | omega) Z Z Z Z) ?_)));refine A5 ?_;refine k4 (k1 ?_);refine ⟨⟨[120],false,r.length,hs.set R ⟨hA.drop 1,hRw⟩⟩,?_,Sees.trans (Sees.freezeG (k:=704) rfl rfl) (Sees.trans (J75 702 (⟨hA.drop 1,hRw⟩:CHunk) rfl rfl) (Sees.trans (Sees.freezeG (k:=702) rfl rfl) (J69 ⟨le1 rfl,le1 rfl,trivial⟩ ⟨rfl,rfl,trivial⟩)))⟩
   refine d6 hzs z2 ?_ gl3
   have e2:g9 ⟨hA.drop 1,hRw⟩=2048+(hA.drop 1).length+(hRw.map N1).sum:=rfl
   rw [K23] at e2
   omega
  ·skip
   refine k5 (k4 (k1 ?_));refine ⟨⟨[120],false,r.length,hs.set R ⟨hA,hRw⟩⟩,?_,Sees.trans (Sees.freezeG (k:=703) rfl rfl) (Sees.trans (Sees.freezeG (k:=704) rfl rfl) (Sees.trans (J75 702 (⟨hA,hRw⟩:CHunk) rfl rfl) (Sees.trans (Sees.freezeG (k:=702) rfl rfl) (J69 ⟨le1 rfl,le1 rfl,trivial⟩ ⟨rfl,rfl,trivial⟩))))⟩
   exact d6 hzs z2 (by omega) gl3
 intro q hq
 obtain ⟨hq1,hq2⟩:=hq
 dsimp only
 have w5:=C21 (B21 q (by omega) hq2)
 have w6:=C21 (B25 q (by omega) hq2)
 have w7:=A36 q (by omega) hq2
 have w8:=q8 q (by omega) hq2
 obtain ⟨fq,hfq⟩:∃f,f=fmtC q:=⟨_,rfl⟩
 obtain ⟨kq,hkq⟩:∃f,f=G8 q:=⟨_,rfl⟩
 rw [←hfq,←hkq] at w5 w6
 rw [←hkq] at w7 w8
 refine k2 (A3 (A6 (C5 Z Z Z) Z (C4 (w1) Z Z Z ?_)));rintro _ rfl;refine A4 Z Z (H9 Z Z Z (H9 Z Z Z (A7 Z Z (A7 Z Z (A5 ?_)))));refine k1 (k2 (A3 (A6 (C5 Z Z Z) Z (C4 (w2) Z Z Z ?_))));rintro _ rfl;refine A4 Z Z (H9 Z Z Z (H9 Z Z Z (A7 Z Z (A7 Z Z (A5 ?_)))));refine k1 (k2 (A3 (A6 (C5 Z Z Z) Z (C4 (w5) Z Z Z ?_))));rintro _ rfl;refine A4 Z Z (H9 Z Z Z (H9 Z Z Z (A7 Z Z (A7 Z Z (A5 ?_)))));refine k1 (k2 (A3 (A6 (C5 Z Z Z) Z (C4 (w6) Z Z Z ?_))));rintro _ rfl;refine A4 Z Z (H9 Z Z Z (H9 Z Z Z (A7 Z Z (A7 Z Z (A5 ?_)))));refine k1 (k2 (C9 (by kernel_rfl) (by kernel_rfl) (A9 (C5 Z Z Z) Z Z (A9 (H2 (w3) Z Z) Z Z (A9 (C5 Z Z Z) Z Z (A9 (H2 (w4) Z Z) Z Z (A9 (K0 Z Z) Z Z (C8 Z Z (C0 Z Z (fun hg=>by rw [hg];exact C5 Z Z Z) Z Z ?_)))))))));refine C0 Z Z (fun hg=>by have hq:=hg;(try simp at hq);rw [hg];exact H2 (w7) Z Z) Z Z ?_;refine C0 Z Z (fun hg=>by rw [hg];exact C5 Z Z Z) Z Z ?_;refine C0 Z Z (fun hg=>by have hq:=hg;(try simp at hq);rw [hg];exact H2 (w8) Z Z) Z Z ?_;refine C0 Z Z (fun hg=>by rw [hg];exact K0 Z Z) Z Z ?_;refine A9 (F6 Z (fun h=>by first | rfl | (rw [h];rfl)) (fun h=>by first | rfl | (rw [h];rfl))) Z Z ?_;refine C8 Z Z (C0 Z Z (fun hg=>by rw [hg];exact B7 Z Z) Z Z ?_);refine C0 Z Z (fun hg=>by rw [hg];exact B7 Z Z) Z Z ?_;refine C0 Z Z (fun hg=>by rw [hg];exact A30 Z Z) Z Z ?_;refine A9 (F6 Z (fun h=>by first | rfl | (rw [h];rfl)) (fun h=>by first | rfl | (rw [h];rfl))) Z Z ?_;refine C8 Z Z (C0 Z Z (fun hg=>by rw [hg];exact B7 Z Z) Z Z ?_);refine C0 Z Z (fun hg=>by rw [hg];exact B7 Z Z) Z Z ?_;refine C0 Z Z (fun hg=>by rw [hg];exact K0 Z Z) Z Z ?_;refine A9 (F6 Z (fun h=>by first | rfl | (rw [h];rfl)) (fun h=>by first | rfl | (rw [h];rfl))) Z Z ?_;refine C8 Z Z (C0 Z Z (fun hg=>by rw [hg];exact B7 Z Z) Z Z ?_);refine C0 Z Z (fun hg=>by rw [hg];exact B7 Z Z) Z Z ?_;refine C0 Z Z (fun hg=>by rw [hg];exact A30 Z Z) Z Z ?_;refine A9 (F6 Z (fun h=>by first | rfl | (rw [h];rfl)) (fun h=>by first | rfl | (rw [h];rfl))) Z Z ?_;refine C8 Z Z (C0 Z Z (fun hg=>by rw [hg];exact B7 Z Z) Z Z ?_);refine C0 Z Z (fun hg=>by rw [hg];exact B7 Z Z) Z Z ?_;refine C0 Z Z (fun hg=>by rw [hg];exact K0 Z Z) Z Z ?_;refine A9 (F6 Z (fun h=>by first | rfl | (rw [h];rfl)) (fun h=>by first | rfl | (rw [h];rfl))) Z Z ?_;refine C8 Z Z (C0 Z Z (fun hg=>by have hq:=hg;(try simp at hq);rw [hg];exact H2 (B24) Z Z) Z Z ?_);refine A9 (F6 Z (fun h=>by first | rfl | (rw [h];rfl)) (fun h=>by first | rfl | (rw [h];rfl))) Z Z ?_;refine A9 (J6 Z Z) Z Z (L6 ?_);refine k1 (k10 ?_)
 exact B6 (G6 rfl rfl rfl) (by simp)
end Go.Proofs.YtbiadkkamhpdnaaGreatDoor
