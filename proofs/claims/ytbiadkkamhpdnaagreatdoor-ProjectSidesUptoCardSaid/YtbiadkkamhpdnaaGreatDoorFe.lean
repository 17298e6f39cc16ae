/- Walks of the program's functions. -/
import Derived.Test.YtbiadkkamhpdnaaGreatDoorFd
import Derived.Test.YtbiadkkamhpdnaaGreatDoorAn
import Derived.Test.YtbiadkkamhpdnaaGreatDoorFb
import Derived.Test.YtbiadkkamhpdnaaGreatDoorFs
import Derived.Test.YtbiadkkamhpdnaaGreatDoorFc
set_option linter.unusedSimpArgs false
namespace Go.Proofs.YtbiadkkamhpdnaaGreatDoor
open Go Go.AL
set_option maxRecDepth 100000
def octOk (c:UInt8):Prop:=48≤c.toNat∧c.toNat≤55
def G87 (s:Str) (i q:Nat):Prop:=i+q < s.length∧octOk (s.getD (i+q) 0)
instance (s:Str) (i q:Nat):Decidable (G87 s i q):=by unfold G87 octOk;exact inferInstance
set_option maxHeartbeats 1000000
set_option maxHeartbeats 1000000
end Go.Proofs.YtbiadkkamhpdnaaGreatDoor
namespace Go.Proofs.YtbiadkkamhpdnaaGreatDoor
open Go Go.AL
set_option maxRecDepth 100000
end Go.Proofs.YtbiadkkamhpdnaaGreatDoor
namespace Go.Proofs.YtbiadkkamhpdnaaGreatDoor
open Go Go.AL
set_option maxRecDepth 100000
abbrev D85 (i:Int):Ob:=.box [.p (.v (.int .i64 i))]
theorem D59 {gf:Fr} {ob:Obs} (e i j:Int) (out:List Span) (he:e≤1048576) (hj:0≤j) (hj2:j≤536870912) (ho:(out.length:Int)≤i)
  (h5:C3 ob 5=some (.box [.buf 20 Span 2 spanC out])) (h6:C3 ob 6=some (D85 i)) (h7:C3 ob 7=some (D85 j)) (h20:C3 ob 20=some (.spare out.length 2 88)) :
  AL.Met Tryz.prog 267 [.one (.p (.v (.int .i64 e))),.one (.ref 6 0),.one (.ref 5 0),.one (.ref 7 0)] gf ob [20]
   (fun rs ob'=>rs=[]∧ob'=(5,.box [.buf 20 Span 2 spanC (out++M3 i j (e - i).toNat)])::(6,D85 (i+(e - i).toNat))::(7,D85 (j+(e - i).toNat))::(20,.spare (out++M3 i j (e - i).toNat).length 2 88)::Obs.forget 20 ob):=by
 refine AL.Met.introH Tryz.func267 (by decide) rfl rfl rfl (fun hH=>?_)
 refine k3 ?_
 refine E2 (X:=Nat) (fun t=>([(0,C0 e),(1,.s (.one (.ref 6 0))),(2,.s (.one (.ref 5 0))),(3,.s (.one (.ref 7 0)))]++Fr.forget 20 gf,(5,.box [.buf 20 Span 2 spanC (out++M3 i j t)])::(6,D85 (i+t))::(7,D85 (j+t))::(20,.spare (out++M3 i j t).length 2 88)::Obs.forget 20 ob)) (fun t=>t≤(e - i).toNat) (fun t=>(e - i).toNat - t) 0 (Nat.zero_le _) ?_ ?_
 ·rw [A31,K27,show i+((0:Nat):Int)=i by omega,show j+((0:Nat):Int)=j by omega]
  exact J84 20 (l:=[(0,C0 e),(1,.s (.one (.ref 6 0))),(2,.s (.one (.ref 5 0))),(3,.s (.one (.ref 7 0)))]) (L:=[(5,_),(6,_),(7,_),(20,_)]) ⟨le1 rfl,le1 rfl,le1 rfl,le1 rfl,trivial⟩ hH (by repeat (first | exact D5 | refine D4 rfl ?_)) ⟨h5,h6,h7,h20,trivial⟩
 intro t ht0
 dsimp only at ht0 ⊢
 have hsl:=Z0 i j t
 refine k2 (k2 ?_)
 refine A4 (A3 (A9 Z Z Z) Z (A3 (A5 Z Z) Z (A3 (F0 Z Z) Z (A7 ?_))))
 refine k1 ?_
 refine B6 rfl (fun ht=>?_) (fun ht=>?_)
 ·have h1:=A0 ht
  refine k5 (k1 (k2 (k3 (k2 ?_))))
  refine A4 (A3 (A9 Z Z Z) Z (A3 (A9 Z Z Z) Z (A3 (A9 Z Z Z) Z (A3 (F9 Z) Z (A3 (E6 (c:=spanC) (ys:=[⟨i+t,j+t⟩]) (F3 Z Z Z Z I6) Z Z Z) Z (C5 (I9 Z Z Z (.pure _ _ _ _) (by (simp only [K05,K07,K10];omega)) Z) Z (E7 (B2 TySz.out Z Z Z Z Z Z) (A7 ?_))))))))
  refine k1 ?_
  refine A4 (A3 (A9 Z Z Z) Z (A3 (C6 Z Z (by omega)) Z (E7 (B2 TySz.out Z Z Z Z Z Z) (A7 ?_))))
  refine k4 (k1 ?_)
  refine A4 (A3 (A9 Z Z Z) Z (A3 (C6 Z Z (by omega)) Z (E7 (B2 TySz.out Z Z Z Z Z Z) (A7 ?_))))
  refine k1 ?_
  refine ⟨t+1,by omega,by omega,?_⟩
  rw [C82,←K23,show i+((t+1:Nat):Int)=i+t+1 by omega,show j+((t+1:Nat):Int)=j+t+1 by omega]
  exact J71 ⟨le1 rfl,le1 rfl,le1 rfl,le1 rfl,trivial⟩ (R2 hH) (by repeat (first | exact D5 | refine D4 rfl ?_ | refine K5 _ ?_)) (B12 (L:=[(5,_),(6,_),(7,_),(20,_)]) ⟨rfl,rfl,rfl,rfl,trivial⟩ (by repeat (first | exact A94 | refine A95 rfl ?_ | refine I24 _ ?_)))
 ·have h1:=A1 ht
  have h2:t=(e - i).toNat:=by omega
  subst h2
  refine k6 (k7 (k7 (k8 Z ?_)))
  exact C35 (rets0 rfl) (by repeat (first | exact D5 | refine D4 rfl ?_ | refine F4 _ ?_)) (fun _ _ h=>h) ⟨rfl,rfl⟩
theorem I73 (l:List Change) (m:Int) (hl:l.length≤32768) (hm:m≤4096) (hb:∀c∈l,c.Old≤4096∧0≤c.OldLen∧c.OldLen≤4096∧0≤c.NewLen∧c.NewLen≤4096) :
  FnOk Tryz.prog 262 [pChanges l,G5 m] (fun rs=>rs=[pSpans (N0 l m)]):=by
 refine FnOk.intro Tryz.func262 (by decide) Z Z Z Z ?_
 refine k2 ?_
 refine A4 (A3 (A6 Z Z) Z (A7 ?_))
 refine k1 (k2 ?_)
 refine A4 (C5 (E8 5 Z) Z (A7 ?_))
 refine G6 (J75 20 Span 2 spanC 88 (kb:=5) (o:=0) Z Z Z) ?_
 refine k2 ?_
 refine A4 (C5 (E8 6 Z) Z (C5 (E8 7 Z) Z (E7 (B2 TySz.out Z Z Z Z Z Z) (E7 (B2 TySz.out Z Z Z Z Z Z) (A7 ?_)))))
 refine k1 (k2 ?_)
 refine A4 (A3 (A44 Z Z) Z (A3 (A6 Z Z) Z (A7 ?_)))
 refine k1 (k2 (k2 ?_))
 refine A4 (A3 (A5 Z Z) Z (A3 (E3 Z (.pure _ _ _ _)) Z (A3 (A5 Z Z) Z (A7 ?_))))
 refine k1 (k3 ?_)
 refine E2 (X:=Nat × Int × Int × List Span) (fun x=>([(1,C0 m),(5,.s (.one (.ref 5 0))),(6,.s (.one (.ref 6 0))),(7,.s (.one (.ref 7 0))),(8,.s (.one (.clo 267 [] [(6,0),(5,0),(7,0)]))),(12,C7 Change 4 changeC l),(13,C0 l.length),(14,C0 x.1)],[(5,.box [.buf 20 Span 2 spanC x.2.2.2]),(6,D85 x.2.1),(7,D85 x.2.2.1),(20,.spare x.2.2.2.length 2 88)]))
  (fun x=>x.1≤l.length∧0≤x.2.1∧(x.2.2.2.length:Int)≤x.2.1∧x.2.1≤4096+x.1*4096∧0≤x.2.2.1∧x.2.2.1≤x.1*8192∧x.2.2.2++I3 x.2.1 x.2.2.1 (l.drop x.1) m=N0 l m)
  (fun x=>l.length - x.1) (0,0,0,[]) (by simp [N0]) (J70 ⟨le1 rfl,le1 rfl,le1 rfl,le1 rfl,le1 rfl,le1 rfl,le1 rfl,le1 rfl,trivial⟩ ⟨rfl,rfl,rfl,rfl,trivial⟩) ?_
 rintro ⟨k,i,j,out⟩ ⟨hk,hi,ho,hi2,hj,hj2,hp⟩
 dsimp only at hk hi ho hi2 hj hj2 hp ⊢
 refine k2 ?_
 refine A4 (A3 (F0 Z Z) Z (A7 ?_))
 refine k1 (k2 ?_)
 refine B6 rfl (fun ht=>?_) (fun ht=>?_)
 ·have hlt:k < l.length:=by have:=A0 ht;omega
  obtain ⟨c,hcd⟩:∃c,c=l[k]:=⟨_,rfl⟩
  have hv:l[k]?=some c:=by rw [hcd];simp [hlt]
  have hc:=hb c (K16 hv)
  rw [K11 hlt,←hcd,I3] at hp
  refine k5 (k1 (k2 (k3 (k2 ?_))))
  refine A4 (A3 (B4 Z (.pure _ _ _ _) Z (by omega) hv) Z (A3 (D6 Z Z) Z (C5 (E8 10 Z) Z (E7 (B2 TySz.out Z Z Z Z Z Z) (A7 ?_)))))
  refine k1 (k2 ?_)
  refine M7 [(1,C0 m),(5,.s (.one (.ref 5 0))),(6,.s (.one (.ref 6 0))),(7,.s (.one (.ref 7 0))),(8,.s (.one (.clo 267 [] [(6,0),(5,0),(7,0)]))),(10,.s (.one (.ref 10 0))),(12,C7 Change 4 changeC l),(13,C0 l.length),(14,C0 k)] [(5,.box [.buf 20 Span 2 spanC out]),(6,D85 i),(7,D85 j),(20,.spare out.length 2 88),(10,.box [.p (.v (.int .i64 c.Old)),.p (.v (.int .i64 c.OldLen)),.p (.v (.int .i64 c.New)),.p (.v (.int .i64 c.NewLen))])] (J70 ⟨le1 rfl,le1 rfl,le1 rfl,le1 rfl,le1 rfl,le1 rfl,le1 rfl,le1 rfl,le1 rfl,trivial⟩ ⟨rfl,rfl,rfl,rfl,rfl,trivial⟩) ?_
  refine A4 (A3 (A5 Z Z) Z (A3 (A8 Z) Z (A3 (A9 Z Z Z) Z (B11 (D59 c.Old i j out (by omega) hj (by omega) ho Z Z Z Z) Z Z Z Z ?_))));rintro _ _ ⟨rfl,rfl⟩;refine A7 ?_
  refine k1 ?_
  obtain ⟨n,hn⟩:∃n,n=(c.Old - i).toNat:=⟨_,rfl⟩
  rw [←hn] at hp ⊢
  refine M7 [(1,C0 m),(5,.s (.one (.ref 5 0))),(6,.s (.one (.ref 6 0))),(7,.s (.one (.ref 7 0))),(8,.s (.one (.clo 267 [] [(6,0),(5,0),(7,0)]))),(10,.s (.one (.ref 10 0))),(12,C7 Change 4 changeC l),(13,C0 l.length),(14,C0 k)] [(5,.box [.buf 20 Span 2 spanC (out++M3 i j n)]),(6,D85 (i+n)),(7,D85 (j+n)),(20,.spare (out++M3 i j n).length 2 88),(10,.box [.p (.v (.int .i64 c.Old)),.p (.v (.int .i64 c.OldLen)),.p (.v (.int .i64 c.New)),.p (.v (.int .i64 c.NewLen))])] (J70 ⟨le1 rfl,le1 rfl,le1 rfl,le1 rfl,le1 rfl,le1 rfl,le1 rfl,le1 rfl,le1 rfl,trivial⟩ ⟨rfl,rfl,rfl,rfl,rfl,trivial⟩) ?_
  refine B10 [9,8] [[],[8],[9,8]] [(4,[8]),(5,[8]),(6,[8]),(7,[8])] (by kernel_rfl) (by kernel_rfl) (V5 Z (A9 Z Z Z) (V5 Z (A8 Z) (V5 Z (A9 Z Z Z) (V5 Z (C6 Z Z (by omega)) (V5 Z (A9 Z Z Z) (V5 Z (A8 Z) (V5 Z (A9 Z Z Z) (V5 Z (C6 Z Z (by omega)) (C69 (p7 TySz.out Z Z Z Z Z Z) (C69 (p7 TySz.out Z Z Z Z Z Z) ?_))))))))));refine a_nil rfl ?_ ?_
  ·refine L7 Z Z (A9 Z Z Z) (L7 Z Z (A8 Z) (L7 Z Z (A9 Z Z Z) (L7 Z Z (C6 Z Z (by omega)) ?_)));exact o_nil
  refine k4 (k1 ?_)
  refine A4 (A3 (C6 Z Z (by omega)) Z (A3 (A5 Z Z) Z (A7 ?_)))
  refine k1 ?_
  have hsl:=Z0 i j n
  have h3:max i c.Old=i+n:=by omega
  rw [h3] at hp
  exact ⟨(k+1,i+n+c.OldLen,j+n+c.NewLen,out++M3 i j n),⟨by dsimp only;omega,by dsimp only;omega,by dsimp only;rw [K05,hsl];omega,by dsimp only;omega,by dsimp only;omega,by dsimp only;omega,by dsimp only;rw [K23];exact hp⟩,by dsimp only;omega,J70 ⟨le1 rfl,le1 rfl,le1 rfl,le1 rfl,le1 rfl,le1 rfl,le1 rfl,le1 rfl,trivial⟩ ⟨rfl,rfl,rfl,rfl,trivial⟩⟩
 ·have hk':k=l.length:=by have:=A1 ht;omega
  rw [hk',K15 (Nat.le_refl _),I3] at hp
  refine k6 (k2 ?_)
  refine A4 (A3 (A5 Z Z) Z (A3 (A5 Z Z) Z (B11 (D59 m i j out (by omega) hj (by omega) ho Z Z Z Z) Z Z Z Z ?_)));rintro _ _ ⟨rfl,rfl⟩;refine A7 ?_
  refine k1 (k2 ?_)
  rw [hp]
  refine G6 (Sees.forget 20) ?_
  refine A4 (A3 (A9 Z Z Z) Z (A3 (A6 Z Z) Z (A7 ?_)))
  refine k1 (k10 ?_)
  exact B7 (H6 rfl rfl rfl) rfl
theorem D25 {l:List Change} {m n:Int} (hok:ScOk 0 0 l m n):∀c∈l,c.Old≤4096∧0≤c.OldLen∧c.OldLen≤4096∧0≤c.NewLen∧c.NewLen≤4096:=by
 intro c hc
 obtain ⟨k,hk,rfl⟩:=List.mem_iff_getElem.1 hc
 have:=hok.get k hk
 have e:cAt l k=l[k]:=by unfold cAt;simp [hk]
 rw [e] at this
 obtain ⟨⟨_,h1⟩,⟨h2,h3⟩,_,⟨h4,h5⟩,_⟩:=this
 exact ⟨h1,h2,h3,h4,h5⟩
theorem G88 {l:List Change} {m n:Int} (hm:m≤4096) (hok:ScOk 0 0 l m n):(N0 l m).length≤4096:=by
 have:=D30 l 0 0 m (by omega) 4096 (by omega) (fun c hc=>⟨by have:=(D25 hok c hc).1;omega,(D25 hok c hc).2.1⟩)
 unfold N0;omega
def H75 (a b:List Int) (p:Span):Prop:=0≤p.From∧0≤p.To∧∃v,a[p.From.toNat]?=some v∧b[p.To.toNat]?=some v
theorem J38 (l:List Change) (a b:List Int) (hl:l.length≤32768) (hc:d9 l a.length b.length=0) (hp:∀p∈N0 l a.length,H75 a b p) :
  FnOk Tryz.prog 237 [pChanges l,P7 a,P7 b] (fun rs=>rs=[O9 true]):=by
 obtain ⟨⟨_,ha⟩,⟨_,hb⟩,hok⟩:=F74 hc
 have hcs:=D25 hok
 have hpl:=G88 (by omega) hok
 obtain ⟨ps,hps⟩:∃ps,ps=N0 l a.length:=⟨_,rfl⟩
 rw [←hps] at hpl
 refine FnOk.intro Tryz.func237 (by decide) Z Z Z Z ?_
 refine k2 ?_
 refine A4 (A3 (A6 Z Z) Z (A7 ?_))
 refine k1 (k2 (k2 ?_))
 refine A4 (A3 (A5 Z Z) Z (A3 (A5 Z Z) Z (A3 (E3 Z (.pure _ _ _ _)) Z (A3 (A5 Z Z) Z (A3 (E3 Z (.pure _ _ _ _)) Z (C9 (F64 l a.length b.length (by omega)) Z Z Z ?_))))));rintro _ rfl;refine A3 (K2 Z Z) Z (A7 ?_)
 rw [hc]
 refine k1 ?_
 refine B6 rfl (fun ht=>?_) (fun ht=>?_)
 ·cases ht
 refine k5 (k1 (k2 (k2 ?_)))
 refine A4 (A3 (A5 Z Z) Z (A3 (A5 Z Z) Z (A3 (E3 Z (.pure _ _ _ _)) Z (C9 (I73 l a.length hl ha hcs) Z Z Z ?_))));rintro _ rfl;refine A3 (E3 Z (.pure _ _ _ _)) Z (A3 (A5 Z Z) Z (A7 ?_))
 rw [←hps] at hp ⊢
 refine k1 (k3 ?_)
 refine E2 (X:=Nat) (fun k=>([(1,C7 Int 1 G7 a),(2,C7 Int 1 G7 b),(19,C7 Span 2 spanC ps),(20,C0 ps.length),(21,C0 k)],[])) (fun k=>k≤ps.length) (fun k=>ps.length - k) 0 (Nat.zero_le _) (J70 ⟨le1 rfl,le1 rfl,le1 rfl,le1 rfl,le1 rfl,trivial⟩ trivial) ?_
 intro k hk
 dsimp only at hk ⊢
 refine k2 ?_
 refine A4 (A3 (F0 Z Z) Z (A7 ?_))
 refine k1 (k2 ?_)
 refine B6 rfl (fun ht=>?_) (fun ht=>?_)
 ·have hlt:k < ps.length:=by have:=A0 ht;omega
  obtain ⟨p,hpd⟩:∃p,p=ps[k]:=⟨_,rfl⟩
  have hv:ps[k]?=some p:=by rw [hpd];simp [hlt]
  obtain ⟨h1,h2,v,h3,h4⟩:=hp p (K16 hv)
  have h5:=(List.getElem?_eq_some_iff.1 h3).1
  have h6:=(List.getElem?_eq_some_iff.1 h4).1
  refine k5 (k1 (k2 (k3 (k2 ?_))))
  refine A4 (A3 (B4 Z (.pure _ _ _ _) Z (by omega) hv) Z (A3 (D6 Z Z) Z (C5 (E8 8 Z) Z (E7 (B2 TySz.out Z Z Z Z Z Z) (A7 ?_)))))
  refine k1 (k2 ?_)
  refine E1 (by kernel_rfl) (by kernel_rfl) (B0 (A5 Z Z) Z Z (B0 (A8 Z) Z Z (B0 (A9 Z Z Z) Z Z (B0 (B4 Z (.pure _ _ _ _) Z (by omega) h3) Z Z (B0 (C8 Z Z) Z Z (B0 (A5 Z Z) Z Z (B0 (A8 Z) Z Z (B0 (A9 Z Z Z) Z Z (B0 (B4 Z (.pure _ _ _ _) Z (by omega) h4) Z Z (B0 (C8 Z Z) Z Z (B0 (K2 Z Z) Z Z (L4 ?_))))))))))))
  refine k1 ?_
  refine B6 rfl (fun ht=>?_) (fun ht=>?_)
  ·exact absurd (A0 ht) (by simp)
  refine k5 (k4 (k1 ?_))
  refine A4 (A3 (C6 Z Z (by omega)) Z (A3 (A5 Z Z) Z (A7 ?_)))
  refine k1 ?_
  exact ⟨k+1,hlt,by omega,J70 ⟨le1 rfl,le1 rfl,le1 rfl,le1 rfl,le1 rfl,trivial⟩ trivial⟩
 ·refine k6 (k2 ?_)
  refine A4 (A3 (A6 Z Z) Z (A7 ?_))
  refine k1 (k10 ?_)
  exact B7 (H6 rfl rfl rfl) rfl
theorem I74 {x y:List Str} {names:List Str} {l:List Change} (h:ScFit x y l):∀p∈N0 l ((F5 names x).length:Int),H75 (F5 names x) (F5 names y) p:=by
 intro p hp
 rw [show ((F5 names x).length:Int)=x.length by simp [F5]] at hp
 obtain ⟨h1,h2,v,h3,h4⟩:=h.pairs p hp
 refine ⟨h1,h2,H1 names v 0,?_,?_⟩
 ·unfold F5;rw [K31,h3];rfl
 ·unfold F5;rw [K31,h4];rfl
abbrev tI (i:Int):S1:=.one (.p (.v (.int .i64 i)))
abbrev tIs (l:List Int):S1:=.one (.p (.list Int 1 G7 l))
abbrev tB (b:Bool):S1:=.one (.p (.v (.bool b)))
abbrev mvO (l:List Change) (a b:List Int):Obs:=[(700,.box [.mut 701,.p (.list Int 1 G7 a),.p (.list Int 1 G7 b)]),(701,.grow 146 Change 4 changeC l)]
def E47 (c:Change) (a b:List Int):List S1:=if c.NewLen=0 then [tIs a,tI c.Old,tI c.OldLen,tB true] else if c.OldLen=0 then [tIs b,tI c.New,tI c.NewLen,tB true] else [.one (.p (.v (.slice none 0 0))),tI 0,tI 0,tB false]
theorem E48 {gf:Fr} (l:List Change) (a b:List Int) (k:Nat) (c:Change) (hv:l[k]?=some c) :
  AL.Met Tryz.prog 239 [.one (.ref 700 0),tI k] gf (mvO l a b) [708] (fun rs ob'=>rs=E47 c a b∧ob'=mvO l a b):=by
 have hk:=(List.getElem?_eq_some_iff.1 hv).1
 refine AL.Met.intro Tryz.func239 (by decide) Z Z Z ?_
 refine k2 ?_
 refine A4 (A3 (A6 Z Z) Z (A3 (A6 Z Z) Z (A3 (A6 Z Z) Z (A3 (A6 Z Z) Z (A7 ?_)))))
 refine k1 (k2 ?_)
 refine A4 (A3 (A5 Z Z) Z (A3 (B9 Z) Z (A3 (A8 Z) Z (A3 (A9 Z Z Z) Z (A3 (A5 Z Z) Z (A3 (P3 Z Z Z (by omega) (by omega)) Z (A3 (I57 Z Z hv Z) Z (C5 (D94 708 Z (by decide)) Z (E7 (B2 TySz.out Z Z Z Z Z Z) (A7 ?_))))))))))
 refine k1 (k2 (k3 (k2 ?_)))
 refine A4 (A3 (A8 Z) Z (A3 (A9 Z Z Z) Z (A3 (Q0 Z Z) Z (A3 (A6 Z Z) Z (A7 ?_)))))
 refine k1 ?_
 refine B6 rfl (fun ht=>?_) (fun ht=>?_)
 ·have h1:=A0 ht
  refine k2 ?_
  refine E1 (by kernel_rfl) (by kernel_rfl) (B0 (A5 Z Z) Z Z (B0 (B9 Z) Z Z (B0 (A8 Z) Z Z (B0 (A9 Z Z Z) Z Z (B0 (A8 Z) Z Z (B0 (A9 Z Z Z) Z Z (B0 (A8 Z) Z Z (B0 (A9 Z Z Z) Z Z (B0 (A6 Z Z) Z Z (B0 (A6 Z Z) Z Z (B0 (A6 Z Z) Z Z (B0 (A6 Z Z) Z Z (L4 ?_)))))))))))))
  refine k1 (k10 (k12 (k11 ?_)))
  exact K8 (rets4 rfl rfl rfl rfl rfl) (by repeat (first | exact D5 | refine D4 rfl ?_ | refine F4 _ ?_)) (ObIn.spec (ob':=mvO l a b) ⟨rfl,rfl,trivial⟩) ⟨by unfold E47;rw [if_pos h1];rfl,rfl⟩
 ·have h1:=A1 ht
  refine k2 ?_
  refine A4 (A3 (A8 Z) Z (A3 (A9 Z Z Z) Z (A3 (Q0 Z Z) Z (A3 (A6 Z Z) Z (A7 ?_)))))
  refine k1 ?_
  refine B6 rfl (fun ht=>?_) (fun ht=>?_)
  ·have h2:=A0 ht
   refine k2 ?_
   refine E1 (by kernel_rfl) (by kernel_rfl) (B0 (A5 Z Z) Z Z (B0 (B9 Z) Z Z (B0 (A8 Z) Z Z (B0 (A9 Z Z Z) Z Z (B0 (A8 Z) Z Z (B0 (A9 Z Z Z) Z Z (B0 (A8 Z) Z Z (B0 (A9 Z Z Z) Z Z (B0 (A6 Z Z) Z Z (B0 (A6 Z Z) Z Z (B0 (A6 Z Z) Z Z (B0 (A6 Z Z) Z Z (L4 ?_)))))))))))))
   refine k1 (k10 (k12 (k11 ?_)))
   exact K8 (rets4 rfl rfl rfl rfl rfl) (by repeat (first | exact D5 | refine D4 rfl ?_ | refine F4 _ ?_)) (ObIn.spec (ob':=mvO l a b) ⟨rfl,rfl,trivial⟩) ⟨by unfold E47;rw [if_neg h1,if_pos h2];rfl,rfl⟩
  ·have h2:=A1 ht
   refine k5 (k2 ?_)
   refine A4 (A3 (A6 Z Z) Z (A3 (A6 Z Z) Z (A3 (A6 Z Z) Z (A3 (A6 Z Z) Z (A7 ?_)))))
   refine k1 (k10 ?_)
   exact K8 (rets4 rfl rfl rfl rfl rfl) (by repeat (first | exact D5 | refine D4 rfl ?_ | refine F4 _ ?_)) (ObIn.spec (ob':=mvO l a b) ⟨rfl,rfl,trivial⟩) ⟨by unfold E47;rw [if_neg h1,if_neg h2],rfl⟩
theorem I32 {gf:Fr} (l:List Change) (a b:List Int) (k:Nat) (c:Change) (hv:l[k]?=some c) (h1:0≤c.Old∧c.Old≤4096) (h2:0≤c.OldLen∧c.OldLen≤4096) :
  AL.Met Tryz.prog 240 [.one (.ref 700 0),tI k] gf (mvO l a b) [] (fun rs ob'=>rs=[tI (c.Old+c.OldLen)]∧ob'=mvO l a b):=by
 have hk:=(List.getElem?_eq_some_iff.1 hv).1
 refine AL.Met.intro Tryz.func240 (by decide) Z Z Z ?_
 refine k2 ?_
 refine A4 (A3 (A6 Z Z) Z (A7 ?_))
 refine k1 (k2 ?_)
 refine E1 (by kernel_rfl) (by kernel_rfl) (B0 (A5 Z Z) Z Z (B0 (B9 Z) Z Z (B0 (A8 Z) Z Z (B0 (A9 Z Z Z) Z Z (B0 (A5 Z Z) Z Z (B0 (P3 Z Z Z (by omega) (by omega)) Z Z (B0 (T3 Z) Z Z (B0 (A96 Z Z hv Z) Z Z (B0 (A5 Z Z) Z Z (B0 (B9 Z) Z Z (B0 (A8 Z) Z Z (B0 (A9 Z Z Z) Z Z (B0 (A5 Z Z) Z Z (B0 (P3 Z Z Z (by omega) (by omega)) Z Z (B0 (T3 Z) Z Z (B0 (A96 Z Z hv Z) Z Z (B0 (C6 Z Z (by omega)) Z Z (B0 (A6 Z Z) Z Z (L4 ?_)))))))))))))))))))
 refine k1 (k10 ?_)
 exact K8 (Y6 rfl rfl) (by repeat (first | exact D5 | refine D4 rfl ?_ | refine F4 _ ?_)) (ObIn.spec (ob':=mvO l a b) ⟨rfl,rfl,trivial⟩) ⟨rfl,rfl⟩
theorem I75 {gf:Fr} (l:List Change) (a b:List Int) (k:Nat) (hk:k < l.length) (hl:l.length≤32768) (ha:a.length≤4096) (hb:b.length≤4096) (hsc:J1 0 0 0 l a.length b.length=true) :
  AL.Met Tryz.prog 193 [.one (.ref 700 0),tI k] gf (mvO l a b) [708] (fun rs ob'=>rs=[tB (S3 l a b k)]∧ob'=mvO (if S3 l a b k=true then Q9 l k else l) a b):=by
 have hok:=Z5 _ _ _ _ _ _ hsc
 obtain ⟨c,hc⟩:∃c,c=cAt l k:=⟨_,rfl⟩
 have hv:l[k]?=some c:=by rw [hc];exact A32 hk
 have hg:=hok.get k hk
 rw [←hc] at hg
 obtain ⟨c1,c2,c3,c4,c5,c6⟩:=hg
 unfold H5 at c1 c2 c3 c4
 have hnx:k+1 < l.length→l[k+1]?=some (cAt l (k+1))∧0≤(cAt l (k+1)).Old∧(cAt l (k+1)).Old≤a.length:=fun h=>by
  have:=hok.get (k+1) h
  unfold H5 at this
  exact ⟨A32 h,this.1.1,by omega⟩
 have hnx':k+1 < l.length→l[((k:Int)+1).toNat]?=some (cAt l (k+1)):=fun h=>by
  rw [show ((k:Int)+1).toNat=k+1 by omega];exact A32 h
 obtain ⟨z,hz⟩:∃z:Int,z=if k+1 < l.length then (cAt l (k+1)).Old - (c.Old+c.OldLen) - 1 else a.length - (c.Old+c.OldLen):=⟨_,rfl⟩
 have hge:=E72 _ _ _ 0 0 0 hsc
 have hcase:(∃(t:List Int) (f n:Int),E47 c a b=[tIs t,tI f,tI n,tB true]∧S3 l a b k=decide (1≤z∧atI t f=atI t (f+n))∧t.length≤4096∧0≤f∧0≤n∧(1≤z→f+n < t.length))∨(E47 c a b=[.one (.p (.v (.slice none 0 0))),tI 0,tI 0,tB false]∧S3 l a b k=false):=by
  have hzr:(1≤z↔(k+1=l.length∨c.Old+c.OldLen+1 < (cAt l (k+1)).Old)∧c.Old+c.OldLen < a.length)∧(1≤z↔(k+1=l.length∨c.Old+c.OldLen+1 < (cAt l (k+1)).Old)∧c.New+c.NewLen < b.length):=by
   by_cases q:k+1 < l.length
   ·rw [if_pos q] at hz
    have g1:=hnx q
    have g2:=hok.get (k+1) q
    have g3:=y8 _ _ _ 0 0 0 hsc (k+1) q
    rw [A49,A50,←hc] at g3
    unfold H5 r7 E71 at g3
    unfold H5 at g2
    omega
   ·rw [if_neg q] at hz
    have q2:l.length=k+1:=by omega
    rw [q2,A49,A50,←hc] at hge
    unfold r7 E71 at hge
    omega
  unfold E47 S3
  rw [←hc]
  by_cases h1:c.NewLen=0
  ·rw [if_pos h1,if_pos h1]
   refine .inl ⟨_,_,_,rfl,?_,ha,c1.1,c2.1,fun h=>(hzr.1.1 h).2⟩
   have e:D79 l k a c.Old c.OldLen↔1≤z∧atI a c.Old=atI a (c.Old+c.OldLen):=by
    unfold D79
    rw [←hc,hzr.1]
    constructor
    ·rintro ⟨⟨q1,q2⟩,q3⟩;exact ⟨⟨q3,q1⟩,q2⟩
    ·rintro ⟨⟨q3,q1⟩,q2⟩;exact ⟨⟨q1,q2⟩,q3⟩
   simp only [e]
  ·rw [if_neg h1,if_neg h1]
   by_cases h2:c.OldLen=0
   ·rw [if_pos h2,if_pos h2]
    refine .inl ⟨_,_,_,rfl,?_,hb,c3.1,c4.1,fun h=>(hzr.2.1 h).2⟩
    have e:D79 l k b c.New c.NewLen↔1≤z∧atI b c.New=atI b (c.New+c.NewLen):=by
     unfold D79
     rw [←hc,hzr.2]
     constructor
     ·rintro ⟨⟨q1,q2⟩,q3⟩;exact ⟨⟨q3,q1⟩,q2⟩
     ·rintro ⟨⟨q3,q1⟩,q2⟩;exact ⟨⟨q1,q2⟩,q3⟩
    simp only [e]
   ·rw [if_neg h2,if_neg h2];exact .inr ⟨rfl,rfl⟩
 rcases hcase with ⟨t,f,n,hr,hcd,ht4,f0,n0,fn⟩ | ⟨hr,hcd⟩
 ·have hrm:=fun gf=>E48 (gf:=gf) l a b k c hv
  rw [hr] at hrm
  have hat:∀i:Int,0≤i→i < t.length→t[i.toNat]?=some (atI t i):=fun i h0 h1=>by
   unfold atI;rw [K09,K06 (show i.toNat < t.length by omega)];rfl
  refine AL.Met.introH Tryz.func193 (by decide) rfl rfl rfl (fun hH=>?_)
  refine k2 ?_
  refine A4 (A3 (A6 Z Z) Z (A7 ?_))
  refine k1 (k2 ?_)
  refine A4 (A3 (A5 Z Z) Z (A3 (A5 Z Z) Z (X9 (hrm _) Z Z Z ?_)));rintro _ _ ⟨rfl,rfl⟩;refine A3 (A5 Z Z) Z (A3 (C1 Z Z) Z (A3 (C1 Z Z) Z (A3 (C1 Z Z) Z (A3 (C1 Z Z) Z (A3 (A6 Z Z) Z (A3 (A6 Z Z) Z (A3 (A6 Z Z) Z (A3 (A6 Z Z) Z (A7 ?_)))))))))
  refine k1 (k2 (k2 ?_))
  refine A4 (A3 (A5 Z Z) Z (A3 (I7 Z) Z (A7 ?_)))
  refine k1 ?_
  refine B6 rfl (fun ht=>?_) (fun ht=>?_)
  ·cases ht
  refine k5 (k1 (k2 ?_))
  refine M7 ([(0,.s (.one (.ref 700 0))),(1,C0 k),(5,C7 Int 1 G7 t),(6,C0 f),(7,C0 n)]++Fr.forget 708 gf) (mvO l a b) (J71 ⟨le1 rfl,le1 rfl,le1 rfl,le1 rfl,le1 rfl,trivial⟩ (R2 hH) (by repeat (first | exact D5 | refine tail_drop rfl ?_ | refine D4 rfl ?_ | refine K5 _ ?_)) (ObIn.spec (ob':=mvO l a b) ⟨rfl,rfl,trivial⟩)) ?_
  refine Q4 [7] [[],[7]] [(7,([],[]))] [(0,[]),(1,[]),(2,[]),(3,[]),(4,[]),(5,[]),(6,[]),(7,[]),(8,[7]),(9,[7])] [(0,[7]),(1,[7]),(2,[7]),(3,[7]),(4,[7])] (by kernel_rfl) (by kernel_rfl) (D9 Z Z (by kernel_rfl) Z Z (A5 Z Z) (D9 Z Z (by kernel_rfl) Z Z (B9 Z) (D9 Z Z (by kernel_rfl) Z Z (A8 Z) (D9 Z Z (by kernel_rfl) Z Z (A9 Z Z Z) (D9 Z Z (by kernel_rfl) Z Z (E3 Z (.pure _ _ _ _)) (D9 Z Z (by kernel_rfl) Z Z (A5 Z Z) (D9 Z Z (by kernel_rfl) Z Z (A5 Z Z) (i7 Z Z (by kernel_rfl) Z Z (G65 (fun gf=>I32 l a b k c hv c1 c2) Z Z) Z (D9 Z Z (by kernel_rfl) Z Z (N5 Z Z (by omega)) (D9 Z Z (by kernel_rfl) Z Z (A6 Z Z) ?_))))))))));refine D52 (by kernel_rfl) rfl ?_ ?_
  ·refine J0 Z Z (by kernel_rfl) Z Z (A5 Z Z) (J0 Z Z (by kernel_rfl) Z Z (B9 Z) (J0 Z Z (by kernel_rfl) Z Z (A8 Z) (J0 Z Z (by kernel_rfl) Z Z (A9 Z Z Z) (J0 Z Z (by kernel_rfl) Z Z (E3 Z (.pure _ _ _ _)) ?_))));exact C71
  refine L1 ?_
  refine M7 ([(0,.s (.one (.ref 700 0))),(1,C0 k),(5,C7 Int 1 G7 t),(6,C0 f),(7,C0 n),(9,C0 ((a.length:Int) - (c.Old+c.OldLen)))]++Fr.forget 708 gf) (mvO l a b) (J71 ⟨le1 rfl,le1 rfl,le1 rfl,le1 rfl,le1 rfl,le1 rfl,trivial⟩ (R2 hH) (by repeat (first | exact D5 | refine tail_drop rfl ?_ | refine D4 rfl ?_ | refine K5 _ ?_)) (ObIn.spec (ob':=mvO l a b) ⟨rfl,rfl,trivial⟩)) ?_
  refine A77 ([(0,.s (.one (.ref 700 0))),(1,C0 k),(5,C7 Int 1 G7 t),(6,C0 f),(7,C0 n),(9,C0 z)]++Fr.forget 708 gf) (mvO l a b) ?_ ?_
  ·refine k2 ?_
   refine A4 (A3 (A5 Z Z) Z (A3 (C6 Z Z (by omega)) Z (A3 (A5 Z Z) Z (A3 (B9 Z) Z (A3 (A8 Z) Z (A3 (A9 Z Z Z) Z (A3 (n_len_g Z Z) Z (A3 (F0 Z Z) Z (A7 ?_)))))))))
   refine k1 ?_
   refine B6 rfl (fun ht=>?_) (fun ht=>?_)
   ·have h1:k+1 < l.length:=by have:=A0 ht;omega
    have hn1:=hnx h1
    rw [if_pos h1] at hz
    skip
    refine Q4 [11] [[],[11]] [(11,([],[]))] [(0,[]),(1,[]),(2,[]),(3,[]),(4,[]),(5,[]),(6,[]),(7,[]),(8,[]),(9,[]),(10,[]),(11,[]),(12,[11]),(13,[11]),(14,[11])] [(0,[11]),(1,[11]),(2,[11]),(3,[11]),(4,[11]),(5,[11]),(6,[11]),(7,[11]),(8,[11])] (by kernel_rfl) (by kernel_rfl) (D9 Z Z (by kernel_rfl) Z Z (A5 Z Z) (D9 Z Z (by kernel_rfl) Z Z (B9 Z) (D9 Z Z (by kernel_rfl) Z Z (A8 Z) (D9 Z Z (by kernel_rfl) Z Z (A9 Z Z Z) (D9 Z Z (by kernel_rfl) Z Z (A5 Z Z) (D9 Z Z (by kernel_rfl) Z Z (C6 Z Z (by omega)) (D9 Z Z (by kernel_rfl) Z Z (P3 Z Z Z (by omega) (by omega)) (D9 Z Z (by kernel_rfl) Z Z (T3 Z) (D9 Z Z (by kernel_rfl) Z Z (A96 Z Z (hnx' h1) Z) (D9 Z Z (by kernel_rfl) Z Z (A5 Z Z) (D9 Z Z (by kernel_rfl) Z Z (A5 Z Z) (i7 Z Z (by kernel_rfl) Z Z (G65 (fun gf=>I32 l a b k c hv c1 c2) Z Z) Z (D9 Z Z (by kernel_rfl) Z Z (N5 Z Z (by omega)) (D9 Z Z (by kernel_rfl) Z Z (N5 Z Z (by omega)) (D9 Z Z (by kernel_rfl) Z Z (A6 Z Z) ?_)))))))))))))));refine D52 (by kernel_rfl) rfl ?_ ?_
    ·refine J0 Z Z (by kernel_rfl) Z Z (A5 Z Z) (J0 Z Z (by kernel_rfl) Z Z (B9 Z) (J0 Z Z (by kernel_rfl) Z Z (A8 Z) (J0 Z Z (by kernel_rfl) Z Z (A9 Z Z Z) (J0 Z Z (by kernel_rfl) Z Z (A5 Z Z) (J0 Z Z (by kernel_rfl) Z Z (C6 Z Z (by omega)) (J0 Z Z (by kernel_rfl) Z Z (P3 Z Z Z (by omega) (by omega)) (J0 Z Z (by kernel_rfl) Z Z (T3 Z) (J0 Z Z (by kernel_rfl) Z Z (A96 Z Z (hnx' h1) Z) ?_))))))));exact C71
    refine k1 ?_
    rw [hz]
    exact (J71 ⟨le1 rfl,le1 rfl,le1 rfl,le1 rfl,le1 rfl,le1 rfl,trivial⟩ (R2 hH) (by repeat (first | exact D5 | refine tail_drop rfl ?_ | refine D4 rfl ?_ | refine K5 _ ?_)) (ObIn.spec (ob':=mvO l a b) ⟨rfl,rfl,trivial⟩))
   ·have h1:¬k+1 < l.length:=by have:=A1 ht;omega
    rw [if_neg h1] at hz
    refine k5 (k1 ?_)
    rw [hz]
    exact (J71 ⟨le1 rfl,le1 rfl,le1 rfl,le1 rfl,le1 rfl,le1 rfl,trivial⟩ (R2 hH) (by repeat (first | exact D5 | refine tail_drop rfl ?_ | refine D4 rfl ?_ | refine K5 _ ?_)) (ObIn.spec (ob':=mvO l a b) ⟨rfl,rfl,trivial⟩))
  ·refine k2 (k2 ?_)
   refine E1 (by kernel_rfl) (by kernel_rfl) (B0 (A5 Z Z) Z Z (B0 (F0 Z Z) Z Z (B0 (A5 Z Z) Z Z (D7 Z Z (fun hg=>by rw [hg];exact A5 Z Z) Z Z ?_))));refine D7 Z Z (fun hg=>by rw [hg];exact A5 Z Z) Z Z ?_;refine D7 Z Z (fun hg=>by have hq:=hg;(try simp at hq);rw [hg];exact B4 Z (.pure _ _ _ _) Z (by omega) (hat f f0 (by have:=fn (by omega);omega))) Z Z ?_;refine D7 Z Z (fun hg=>by rw [hg];exact C8 Z Z) Z Z ?_;refine D7 Z Z (fun hg=>by rw [hg];exact A5 Z Z) Z Z ?_;refine D7 Z Z (fun hg=>by rw [hg];exact A5 Z Z) Z Z ?_;refine D7 Z Z (fun hg=>by rw [hg];exact A5 Z Z) Z Z ?_;refine D7 Z Z (fun hg=>by have hq:=hg;(try simp at hq);rw [hg];exact C6 Z Z (by omega)) Z Z ?_;refine D7 Z Z (fun hg=>by have hq:=hg;(try simp at hq);rw [hg];exact B4 Z (.pure _ _ _ _) Z (by omega) (hat (f+n) (by omega) (by have:=fn (by omega);omega))) Z Z ?_;refine D7 Z Z (fun hg=>by rw [hg];exact C8 Z Z) Z Z ?_;refine D7 Z Z (fun hg=>by rw [hg];exact K2 Z Z) Z Z ?_;refine B0 (B5 Z (fun h=>by first | rfl | (rw [h];rfl)) (fun h=>by first | rfl | (rw [h];rfl))) Z Z ?_;refine L4 ?_
   refine k1 ?_
   refine B6 rfl (fun ht=>?_) (fun ht=>?_)
   ·have h1:¬(1≤z∧atI t f=atI t (f+n)):=by
     rintro ⟨q1,q2⟩
     simp [q2] at ht
     omega
    rw [hcd,decide_eq_false h1]
    refine k2 ?_
    refine A4 (A3 (A6 Z Z) Z (A7 ?_))
    refine k1 (k10 (k11 ?_))
    exact K8 (Y6 rfl rfl) (by repeat (first | exact D5 | refine D4 rfl ?_ | refine F4 _ ?_)) (ObIn.spec (ob':=mvO l a b) ⟨rfl,rfl,trivial⟩) ⟨rfl,rfl⟩
   ·have h1:1≤z:=Classical.byContradiction fun q=>by simp [show z < 1 by omega] at ht
    have h2:atI t f=atI t (f+n):=Classical.byContradiction fun q=>by simp [q] at ht
    rw [hcd,decide_eq_true (show 1≤z∧atI t f=atI t (f+n) from ⟨h1,h2⟩)]
    rw [if_pos rfl]
    obtain ⟨c',hc'⟩:∃c':Change,c'={ c with Old:=c.Old+1 }:=⟨_,rfl⟩
    have hv':(l.set k c')[k]?=some c':=List.getElem?_set_self hk
    have hfin:(l.set k c').set k ({ c' with New:=c'.New+1 }:Change)=Q9 l k:=by
     rw [List.set_set];unfold Q9;rw [←hc,hc'];rfl
    have hl':(l.set k c').length=l.length:=by simp
    refine k5 (k1 (k2 ?_))
    refine A4 (A3 (A5 Z Z) Z (A3 (B9 Z) Z (A3 (A8 Z) Z (A3 (A9 Z Z Z) Z (A3 (A5 Z Z) Z (A3 (P3 Z Z Z (by omega) (by omega)) Z (A3 (T3 Z) Z (A3 (A96 Z Z hv Z) Z (A3 (C6 Z Z (by omega)) Z (A3 (P3 Z Z Z (by omega) (by omega)) Z (A3 (T3 Z) Z (E7 (F50 (({ c with Old:=c.Old+1 }:Change)) TySz.out Z Z hv Z Z Z Z (fun _ _ _ h=>E20 h) (by intro j h1 h2;rcases j with _ | _ | _ | _ | _ | _ | _ | j<;>first | rfl | omega)) ?_))))))))))));refine A7 ?_
    rw [K12,←hc']
    refine k1 (k2 ?_)
    refine A4 (A3 (A5 Z Z) Z (A3 (B9 Z) Z (A3 (A8 Z) Z (A3 (A9 Z Z Z) Z (A3 (A5 Z Z) Z (A3 (P3 Z Z Z (by omega) (by (rw [hl'];omega))) Z ?_))))));refine A3 (T3 Z) Z (A3 (A96 Z Z hv' Z) Z (A3 (C6 Z Z (by (rw [hc'];dsimp only;omega))) Z ?_));refine A3 (P3 Z Z Z (by omega) (by (rw [hl'];omega))) Z ?_;refine A3 (T3 Z) Z (E7 (F50 (({ c' with New:=c'.New+1 }:Change)) TySz.out Z Z hv' Z Z Z Z (fun _ _ _ h=>E20 h) (by intro j h1 h2;rcases j with _ | _ | _ | _ | _ | _ | _ | j<;>first | rfl | omega)) ?_);refine A7 ?_
    rw [K12,hfin]
    refine k1 (k2 ?_)
    refine A4 (A3 (A6 Z Z) Z (A7 ?_))
    refine k1 (k10 ?_)
    exact K8 (Y6 rfl rfl) (by repeat (first | exact D5 | refine D4 rfl ?_ | refine F4 _ ?_)) (ObIn.spec (ob':=mvO (Q9 l k) a b) ⟨rfl,rfl,trivial⟩) ⟨rfl,rfl⟩
 ·have hrm:=fun gf=>E48 (gf:=gf) l a b k c hv
  rw [hr] at hrm
  rw [hcd]
  refine AL.Met.intro Tryz.func193 (by decide) Z Z Z ?_
  refine k2 ?_
  refine A4 (A3 (A6 Z Z) Z (A7 ?_))
  refine k1 (k2 ?_)
  refine A4 (A3 (A5 Z Z) Z (A3 (A5 Z Z) Z (X9 (hrm _) Z Z Z ?_)));rintro _ _ ⟨rfl,rfl⟩;refine A3 (A5 Z Z) Z (A3 (C1 Z Z) Z (A3 (C1 Z Z) Z (A3 (C1 Z Z) Z (A3 (C1 Z Z) Z (A3 (A6 Z Z) Z (A3 (A6 Z Z) Z (A3 (A6 Z Z) Z (A3 (A6 Z Z) Z (A7 ?_)))))))))
  refine k1 (k2 (k2 ?_))
  refine A4 (A3 (A5 Z Z) Z (A3 (I7 Z) Z (A7 ?_)))
  refine k1 ?_
  refine B6 rfl (fun ht=>?_) (fun ht=>?_)
  ·refine k2 ?_
   refine A4 (A3 (A6 Z Z) Z (A7 ?_))
   refine k1 (k10 (k11 ?_))
   exact K8 (Y6 rfl rfl) (by repeat (first | exact D5 | refine D4 rfl ?_ | refine F4 _ ?_)) (ObIn.spec (ob':=mvO l a b) ⟨rfl,rfl,trivial⟩) ⟨rfl,rfl⟩
  ·cases ht
theorem I76 {gf:Fr} {x y:List Str} {a b:List Int} (ia:IdsOf x a) (ib:IdsOf y b) (l:List Change) (k:Nat) (hk:k < l.length) (hl:l.length≤32768) (h:ScFit x y l) :
  AL.Met Tryz.prog 192 [.one (.clo 193 [(700,0)] []),tI k] gf (mvO l a b) [708] (fun rs ob'=>(∃n:Int,rs=[tI n])∧ob'=mvO (T8 a b l k) a b):=by
 have hla:=ia.len
 have hlb:=ib.len
 have hxl:=h.lx
 have hyl:=h.ly
 refine AL.Met.introH Tryz.func192 (by decide) rfl rfl rfl (fun hH=>?_)
 refine k2 ?_
 refine A4 (A3 (A6 Z Z) Z (A7 ?_))
 refine k1 (k2 ?_)
 refine A4 (A3 (A6 Z Z) Z (A7 ?_))
 refine k1 (k2 (k3 ?_))
 refine G6 (J84 708 (l:=[(0,.s (.one (.clo 193 [(700,0)] []))),(1,C0 k),(5,C0 0)]) (L:=mvO l a b) ⟨le1 rfl,le1 rfl,le1 rfl,trivial⟩ hH (by repeat (first | exact D5 | refine D4 rfl ?_)) ⟨rfl,rfl,trivial⟩) ?_
 refine E2 (X:=Nat × List Change) (fun s=>([(0,.s (.one (.clo 193 [(700,0)] []))),(1,C0 k),(5,C0 s.1)]++Fr.forget 708 gf,mvO s.2 a b)) (fun s=>s.2.length=l.length∧ScFit x y s.2∧T8 a b s.2 k=T8 a b l k∧s.1+A73 s.2 a b k≤A73 l a b k) (fun s=>A73 s.2 a b k) (0,l) ⟨rfl,h,rfl,by dsimp only;omega⟩ (J71 ⟨le1 rfl,le1 rfl,le1 rfl,trivial⟩ (R2 hH) (by repeat (first | exact D5 | refine D4 rfl ?_)) (ObIn.spec (ob':=mvO l a b) ⟨rfl,rfl,trivial⟩)) ?_
 rintro ⟨n,l2⟩ ⟨hl2,hf2,hs2,hn⟩
 dsimp only at hl2 hf2 hs2 hn ⊢
 have hsc:=hf2.sc
 rw [←hla,←hlb] at hsc
 have hml:A73 l a b k≤16384:=by
  have:=(Z5 _ _ _ _ _ _ h.sc).get k hk
  unfold A73
  obtain ⟨⟨q1,_⟩,_,⟨q2,_⟩,_⟩:=this
  omega
 refine k2 (k2 ?_)
 refine A4 (A3 (A5 Z Z) Z (A3 (A5 Z Z) Z (B11 (I75 l2 a b k (by omega) (by omega) (by omega) (by omega) hsc) Z Z Z Z ?_)));rintro _ _ ⟨rfl,rfl⟩;refine A7 ?_
 refine k1 ?_
 refine B6 rfl (fun ht=>?_) (fun ht=>?_)
 ·have hm:=B04 ia ib hf2 (by omega) ht
  have hst:=F41 ia ib hf2 (by omega) ht
  rw [if_pos ht]
  refine k5 (k1 (k3 ?_))
  refine A4 (A3 (A5 Z Z) Z (A3 (C6 Z Z (by omega)) Z (A3 (A6 Z Z) Z (A7 ?_))))
  refine k4 (k1 ?_)
  refine ⟨(n+1,Q9 l2 k),⟨by dsimp only;rw [O1];exact hl2,hf2.down ia ib (by omega) ht,by dsimp only;rw [←hst];exact hs2,by dsimp only;omega⟩,hm,?_⟩
  exact J71 ⟨le1 rfl,le1 rfl,le1 rfl,trivial⟩ (R2 hH) (by repeat (first | exact D5 | refine tail_drop rfl ?_ | refine D4 rfl ?_ | refine K5 _ ?_)) (ObIn.spec (ob':=mvO (Q9 l2 k) a b) ⟨rfl,rfl,trivial⟩)
 ·have hst:=F42 (a:=a) (b:=b) ht
  rw [hst] at hs2
  have hif:(if S3 l2 a b k=true then Q9 l2 k else l2)=T8 a b l k:=by rw [←hs2,if_neg (by rw [ht];decide)]
  rw [hif]
  refine k6 (k2 ?_)
  refine A4 (A3 (A5 Z Z) Z (A3 (A6 Z Z) Z (A7 ?_)))
  refine k1 (k10 ?_)
  exact K8 (Y6 rfl rfl) (by repeat (first | exact D5 | refine D4 rfl ?_ | refine K5 _ ?_)) (ObIn.spec (ob':=mvO (T8 a b l k) a b) ⟨rfl,rfl,trivial⟩) ⟨⟨_,rfl⟩,rfl⟩
theorem I77 {gf:Fr} (l:List Change) (hl:l.length≤1073741824) :
  AL.Met Tryz.prog 238 [.one (.p (.list Change 4 changeC l))] gf [] [701] (fun rs ob'=>rs=[.one (.mut 701)]∧ob'=[(701,.grow 146 Change 4 changeC l)]):=by
 refine AL.Met.intro Tryz.func238 (by decide) Z Z Z ?_
 refine k2 ?_
 refine A4 (A3 (A6 Z Z) Z (A7 ?_))
 refine k1 (k2 (k2 ?_))
 refine A4 (A3 (A5 Z Z) Z ?_);(first | (refine D13 (B99 rfl (.pure _ _ _ _)) rfl ?_) | (refine D13 (B99 rfl (.buf _ _ _ _ _)) rfl ?_));rintro _ ⟨b1,rfl,hnil⟩;refine A7 ?_
 refine k1 ?_
 refine B6 rfl (fun ht=>?_) (fun ht=>?_)
 ·rw [hnil ht]
  refine k2 ?_
  refine A4 (C5 (J25 701 _ changeC Z Z) Z (A7 ?_))
  refine k1 (k10 (k11 ?_))
  exact K8 (Y6 rfl rfl) (by repeat (first | exact D5 | refine D4 rfl ?_ | refine F4 _ ?_)) (fun _ _ h=>h) ⟨rfl,rfl⟩
 ·refine k5 (k1 (k2 ?_))
  refine A4 (C5 (J26 701 _ changeC Z Z Z) Z (A3 (A5 Z Z) Z (C5 (H55 Z Z Z (.pure _ _ _ _) (by (simp;omega)) Z) Z (A3 (A6 Z Z) Z (A7 ?_)))))
  simp only [K32]
  refine k1 (k10 ?_)
  exact K8 (Y6 rfl rfl) (by (repeat refine D4 rfl ?_);refine K5 _ ?_;(repeat refine D4 rfl ?_);refine F4 _ ?_;(repeat (first | exact D5 | refine D4 rfl ?_))) (ObIn.spec (ob':=[(701,.grow 146 Change 4 changeC l)]) ⟨rfl,trivial⟩) ⟨rfl,rfl⟩
theorem I78 {gf:Fr} (l:List Change) (a b:List Int) (hl:l.length≤32768) (hc:d9 l a.length b.length=0) (hp:∀p∈N0 l a.length,H75 a b p) :
  AL.Met Tryz.prog 191 [.one (.p (.list Change 4 changeC l)),tIs a,tIs b] gf [] [701,700] (fun rs ob'=>rs=[.one (.ref 700 0),tI 0]∧ob'=mvO l a b):=by
 refine AL.Met.intro Tryz.func191 (by decide) Z Z Z ?_
 refine k2 ?_
 refine A4 (A3 (A6 Z Z) Z (A3 (A6 Z Z) Z (A7 ?_)))
 refine k1 (k2 (k2 ?_))
 refine A4 (A3 (A5 Z Z) Z (A3 (A5 Z Z) Z (A3 (A5 Z Z) Z (C9 (J38 l a b hl hc hp) Z Z Z ?_))));rintro _ rfl;refine A3 (I7 Z) Z (A7 ?_)
 refine k1 ?_
 refine B6 rfl (fun ht=>?_) (fun ht=>?_)
 ·cases ht
 refine k5 (k1 (k2 ?_))
 refine A4 (A3 (A5 Z Z) Z (X9 (I77 l (by omega)) Z Z Z ?_));rintro _ _ ⟨rfl,rfl⟩;refine A3 (A5 Z Z) Z (A3 (A5 Z Z) Z (A3 (F9 Z) Z (C5 (e_box 700 Z Z Z (by decide)) Z (A3 (A6 Z Z) Z (A3 (A6 Z Z) Z (A7 ?_))))))
 refine k1 (k10 ?_)
 exact K8 (rets2 rfl rfl rfl) (by repeat (first | exact D5 | refine D4 rfl ?_ | refine F4 _ ?_)) (ObIn.spec (ob':=mvO l a b) ⟨rfl,rfl,trivial⟩) ⟨rfl,rfl⟩
theorem J39 (x y names:List Str) (l:List Change) (h:ScFit x y l) (hl:l.length≤32768) (hx:∀s∈x,s∈names) (hy:∀s∈y,s∈names) :
  FnOk Tryz.prog 131 [pChanges l,P7 (F5 names x),P7 (F5 names y)] (fun rs=>rs=[pChanges (E90 l (F5 names x) (F5 names y)),G5 0]):=by
 obtain ⟨a,ha⟩:∃a,a=F5 names x:=⟨_,rfl⟩
 obtain ⟨b,hb⟩:∃b,b=F5 names y:=⟨_,rfl⟩
 have hpp:=I74 (names:=names) h
 have ia:IdsOf x a:=by rw [ha];exact C11 hx
 have ib:IdsOf y b:=by rw [hb];exact C11 hy
 rw [←ha,←hb] at hpp ⊢
 have hla:=ia.len
 have hlb:=ib.len
 have hck:=h.check
 rw [←hla,←hlb] at hck
 refine FnOk.intro Tryz.func131 (by decide) Z Z Z Z ?_
 refine k2 ?_
 refine A4 (A3 (A6 Z Z) Z (A3 (A6 Z Z) Z (A7 ?_)))
 refine k1 (k2 ?_)
 refine A4 (A3 (A5 Z Z) Z (A3 (A5 Z Z) Z (A3 (A5 Z Z) Z (X9 (I78 l a b hl hck hpp) Z Z Z ?_))));rintro _ _ ⟨rfl,rfl⟩;refine A3 (A5 Z Z) Z (A3 (C1 Z Z) Z (A3 (C1 Z Z) Z (A3 (A6 Z Z) Z (A3 (A6 Z Z) Z (A7 ?_)))))
 refine k1 (k2 (k2 ?_))
 refine A4 (A3 (A5 Z Z) Z (A3 (K2 Z Z) Z (A7 ?_)))
 refine k1 ?_
 refine B6 rfl (fun ht=>?_) (fun ht=>?_)
 ·cases ht
 refine k5 (k1 (k2 (k2 ?_)))
 refine A4 (A3 (A5 Z Z) Z (A3 (E3 Z (.pure _ _ _ _)) Z (A3 (N5 Z Z (by omega)) Z (A3 (A6 Z Z) Z (A7 ?_)))))
 refine k1 (k3 ?_)
 refine E2 (X:=Nat × List Change) (fun s=>([(8,.s (.one (.ref 700 0))),(10,C0 ((s.1:Int) - 1))],mvO s.2 a b)) (fun s=>s.1≤l.length∧s.2.length=l.length∧ScFit x y s.2∧B03 a b s.1 s.2=E90 l a b) (fun s=>s.1) (l.length,l) ⟨Nat.le_refl _,rfl,h,rfl⟩ (J70 ⟨le1 rfl,le1 rfl,trivial⟩ ⟨rfl,rfl,trivial⟩) ?_
 rintro ⟨n,l1⟩ ⟨hn,hl1,hf1,hs1⟩
 dsimp only at hn hl1 hf1 hs1 ⊢
 refine k2 (k2 ?_)
 refine A4 (A3 (A5 Z Z) Z (A3 (A88 Z Z) Z (A7 ?_)))
 refine k1 ?_
 refine B6 rfl (fun ht=>?_) (fun ht=>?_)
 ·have hn0:0 < n:=by have:=A0 ht;omega
  obtain ⟨k,rfl⟩:∃k,n=k+1:=⟨n - 1,by omega⟩
  rw [show ((k+1:Nat):Int) - 1=k by omega]
  have hfit:=D02 ia ib hf1 (k:=k) (by omega)
  have hlen:=E89 hfit.2
  refine k5 (k1 (k2 (k3 ?_)))
  refine A4 (A3 (A5 Z Z) Z (A3 (A44 Z Z) Z (A3 (A5 Z Z) Z (X9 (I76 ia ib l1 k (by omega) (by omega) hf1) Z Z Z ?_))));rintro _ _ ⟨⟨cnt,rfl⟩,rfl⟩;refine A7 ?_
  refine k4 (k1 ?_)
  refine A4 (A3 (A5 Z Z) Z (A3 (N5 Z Z (by omega)) Z (A3 (A6 Z Z) Z (A7 ?_))))
  refine k1 ?_
  exact ⟨(k,T8 a b l1 k),⟨by dsimp only;omega,by dsimp only;omega,hfit.1,hs1⟩,by dsimp only;omega,J70 ⟨le1 rfl,le1 rfl,trivial⟩ ⟨rfl,rfl,trivial⟩⟩
 ·have hn0:n=0:=by have:=A1 ht;omega
  subst hn0
  have hs1:l1=E90 l a b:=hs1
  refine k6 (k2 ?_)
  refine A4 (A3 (A5 Z Z) Z (A3 (B9 Z) Z (A3 (A8 Z) Z (A3 (A9 Z Z Z) Z (A3 (A6 Z Z) Z (A3 (A6 Z Z) Z (A7 ?_)))))))
  refine k1 ?_
  refine G6 (J92 (t:=6) Z Z Z) ?_
  refine k10 ?_
  exact B7 (p9 rfl rfl rfl rfl rfl) (by rw [hs1])
set_option maxHeartbeats 1000000
theorem I79 (on nn a b:Str) (ctx:Int) (d:Bool) (ha:Few a) (hb:Few b) :
  FnOk Tryz.prog 75 [M9 on,M9 nn,M9 a,M9 b,G5 ctx,O9 d] (fun rs=>rs=[pPatch (C50 on nn a b ctx d).1,G5 (C50 on nn a b ctx d).2]):=by
 obtain ⟨x,hx⟩:∃x,x=B8 a:=⟨_,rfl⟩
 obtain ⟨y,hy⟩:∃y,y=B8 b:=⟨_,rfl⟩
 obtain ⟨f1,f2⟩:=Z6 a
 obtain ⟨f3,f4⟩:=Z6 b
 rw [←hx] at f1 f2
 rw [←hy] at f3 f4
 have hsa:=B83 ha
 have hsb:=B83 hb
 have ha0:=ha
 have hb0:=hb
 obtain ⟨ha,ha2⟩:=ha
 obtain ⟨hb,hb2⟩:=hb
 rw [←hx] at hsa ha2
 rw [←hy] at hsb hb2
 have hxm:∀s∈x,s∈E0 [x,y]:=fun s hs=>T5 _ _ x (by simp) hs
 have hym:∀s∈y,s∈E0 [x,y]:=fun s hs=>T5 _ _ y (by simp) hs
 have i1:(F5 (E0 [x,y]) x).length=x.length:=by simp [F5]
 have i2:(F5 (E0 [x,y]) y).length=y.length:=by simp [F5]
 have hs0:=E78 x y (by omega) (by omega)
 have hs0l:=C92 x y
 have hdf:=(B82 x y d (by omega) (by omega)).1
 have hdl:=H26 x y d (by omega) (by omega)
 obtain ⟨l,hl⟩:∃l,l=B35 x y d:=⟨_,rfl⟩
 rw [←hl] at hdf hdl
 have hmk:C50 on nn a b ctx d=if K4 on=false∨K4 nn=false then (X6,120) else if ctx < 0∨1048576 < ctx then (X6,3) else (⟨on,nn,P8 l x y ctx⟩,0):=by rw [hl,hx,hy];rfl
 refine FnOk.intro Tryz.func75 (by decide) Z Z Z Z ?_
 refine k2 ?_
 refine A4 (C5 (E8 12 Z) Z (A3 (A6 Z Z) Z (A7 ?_)))
 refine k1 (k2 (k2 ?_))
 refine A4 (A3 (A5 Z Z) Z (C9 (C04 on) Z Z Z ?_));rintro _ rfl;refine A3 (I7 Z) Z (A3 (A5 Z Z) Z (B1 Z Z Z Z (fun hg=>by rw [hg];exact A5 Z Z) ?_));refine B1 Z Z Z Z (fun hg=>by have hq:=hg;(try simp at hq);rw [hg];exact I0 (C04 nn) Z Z) ?_;refine B1 Z Z Z Z (fun hg=>by rw [hg];exact I7 Z) ?_;refine A3 (B5 Z (fun h=>by first | rfl | (rw [h];rfl)) (fun h=>by first | rfl | (rw [h];rfl))) Z ?_;refine A7 ?_
 refine k1 ?_
 refine B6 rfl (fun ht=>?_) (fun ht=>?_)
 ·simp only [notB,or_pick] at ht
  have h:=A0 ht
  refine k2 ?_
  refine A4 (A3 (F9 Z) Z (E7 (B2 TySz.out Z Z Z Z Z Z) (A3 (A6 Z Z) Z (A7 ?_))))
  refine k1 ?_
  refine G6 (J72 PatchHunk 3 phunkC 12 2 Z Z) ?_
  refine k10 (k11 ?_)
  exact B7 (rs:=[pPatch X6,G5 120]) (X7 rfl rfl rfl rfl rfl rfl rfl) (by rw [hmk,if_pos h])
 simp only [notB,or_pick] at ht
 have h:=A1 ht
 rw [if_neg h] at hmk
 have hn1:K4 on=true:=by cases q:K4 on<;>simp [q] at h ⊢
 have hn2:K4 nn=true:=by cases q:K4 nn<;>simp [q] at h ⊢
 refine k5 (k1 (k2 ?_))
 refine A4 (A3 (A5 Z Z) Z (C9 (C03 a (by omega)) Z Z Z ?_));rintro _ rfl;refine A3 (A5 Z Z) Z (A3 (C1 Z Z) Z (A3 (C1 Z Z) Z (A3 (A6 Z Z) Z (A3 (A6 Z Z) Z (A7 ?_)))))
 rw [hsa]
 refine k1 (k2 (k2 ?_))
 refine A4 (A3 (A5 Z Z) Z (A3 (K2 Z Z) Z (A7 ?_)))
 refine k1 ?_
 refine B6 rfl (fun ht=>?_) (fun ht=>?_)
 ·cases ht
 refine k5 (k1 (k2 ?_))
 refine A4 (A3 (A5 Z Z) Z (C9 (C03 b (by omega)) Z Z Z ?_));rintro _ rfl;refine A3 (A5 Z Z) Z (A3 (C1 Z Z) Z (A3 (C1 Z Z) Z (A3 (A6 Z Z) Z (A3 (A6 Z Z) Z (A7 ?_)))))
 rw [hsb]
 refine k1 (k2 (k2 ?_))
 refine A4 (A3 (A5 Z Z) Z (A3 (K2 Z Z) Z (A7 ?_)))
 refine k1 ?_
 refine B6 rfl (fun ht=>?_) (fun ht=>?_)
 ·cases ht
 refine k5 (k1 (k2 ?_))
 refine A4 (A3 (A5 Z Z) Z (A3 (A5 Z Z) Z (A3 (E6 (c:=strsC) (ys:=[x,y]) (F3 Z Z Z Z (F3 Z Z Z Z I6)) Z Z Z) Z (C9 (C78 [x,y] (by simp) (by simp;omega)) Z Z Z ?_))));rintro _ rfl;refine A3 (A6 Z Z) Z (A7 ?_)
 refine k1 (k2 ?_)
 refine E1 (by kernel_rfl) (by kernel_rfl) (B0 (A5 Z Z) Z Z (B0 (B4 Z (.pure _ _ _ _) Z (by omega) (show ([x,y].map (F5 (E0 [x,y])))[(0:Int).toNat]?=some (F5 (E0 [x,y]) x) from Z)) Z Z (B0 (C8 Z Z) Z Z (B0 (A5 Z Z) Z Z (B0 (B4 Z (.pure _ _ _ _) Z (by omega) (show ([x,y].map (F5 (E0 [x,y])))[(1:Int).toNat]?=some (F5 (E0 [x,y]) y) from Z)) Z Z (B0 (C8 Z Z) Z Z (B0 (I0 (C44 (F5 (E0 [x,y]) x) (F5 (E0 [x,y]) y) (by omega) (by omega)) Z Z) Z Z (B0 (A5 Z Z) Z Z (B0 (C1 Z Z) Z Z (B0 (C1 Z Z) Z Z (B0 (A6 Z Z) Z Z (B0 (A6 Z Z) Z Z (L4 ?_)))))))))))))
 rw [show M5 (F5 (E0 [x,y]) x) (F5 (E0 [x,y]) y)=U8 x y from rfl]
 refine L1 ?_
 refine M7 [(0,Y3 on),(1,Y3 nn),(4,C0 ctx),(5,J7 (.bool d)),(12,.s (.one (.ref 12 0))),(14,C7 Str 1 K6 x),(16,C7 Str 1 K6 y),(17,C7 (List Int) 1 intsC ([x,y].map (F5 (E0 [x,y])))),(18,C7 Change 4 changeC (U8 x y))] [(12,.box [.p (.v (.string ⟨#[]⟩)),.p (.v (.string ⟨#[]⟩)),.p (.v (.slice none 0 0))])] (J70 ⟨le1 rfl,le1 rfl,le1 rfl,le1 rfl,le1 rfl,le1 rfl,le1 rfl,le1 rfl,le1 rfl,trivial⟩ ⟨rfl,trivial⟩) ?_
 refine A77 [(0,Y3 on),(1,Y3 nn),(4,C0 ctx),(12,.s (.one (.ref 12 0))),(14,C7 Str 1 K6 x),(16,C7 Str 1 K6 y),(18,C7 Change 4 changeC l)] [(12,.box [.p (.v (.string ⟨#[]⟩)),.p (.v (.string ⟨#[]⟩)),.p (.v (.slice none 0 0))])] ?_ ?_
 ·refine k2 ?_
  refine A4 (A3 (A5 Z Z) Z (A7 ?_))
  refine k1 ?_
  refine B6 rfl (fun ht=>?_) (fun ht=>?_)
  ·have hd:d=true:=ht
   have hl2:l=E90 (U8 x y) (F5 (E0 [x,y]) x) (F5 (E0 [x,y]) y):=by rw [hl,hd];rfl
   skip
   refine E1 (by kernel_rfl) (by kernel_rfl) (B0 (A5 Z Z) Z Z (B0 (A5 Z Z) Z Z (B0 (B4 Z (.pure _ _ _ _) Z (by omega) (show ([x,y].map (F5 (E0 [x,y])))[(0:Int).toNat]?=some (F5 (E0 [x,y]) x) from Z)) Z Z (B0 (C8 Z Z) Z Z (B0 (A5 Z Z) Z Z (B0 (B4 Z (.pure _ _ _ _) Z (by omega) (show ([x,y].map (F5 (E0 [x,y])))[(1:Int).toNat]?=some (F5 (E0 [x,y]) y) from Z)) Z Z (B0 (C8 Z Z) Z Z (B0 (I0 (J39 x y (E0 [x,y]) (U8 x y) hs0 (by omega) hxm hym) Z Z) Z Z (B0 (A5 Z Z) Z Z (B0 (C1 Z Z) Z Z (B0 (C1 Z Z) Z Z (B0 (A6 Z Z) Z Z (L4 ?_)))))))))))))
   rw [←hl2]
   refine k1 ?_
   exact J70 ⟨le1 rfl,le1 rfl,le1 rfl,le1 rfl,le1 rfl,le1 rfl,le1 rfl,trivial⟩ ⟨rfl,trivial⟩
  ·have hd:d=false:=ht
   have hl2:l=U8 x y:=by rw [hl,hd];rfl
   rw [←hl2]
   refine k5 (k1 ?_)
   exact J70 ⟨le1 rfl,le1 rfl,le1 rfl,le1 rfl,le1 rfl,le1 rfl,le1 rfl,trivial⟩ ⟨rfl,trivial⟩
 refine k2 ?_
 refine A4 (A3 (A5 Z Z) Z (A3 (A5 Z Z) Z (A3 (E3 Z (.pure _ _ _ _)) Z (A3 (A5 Z Z) Z (A3 (E3 Z (.pure _ _ _ _)) Z (A3 (A5 Z Z) Z (C9 (I69 l x.length y.length ctx (by omega)) Z Z Z ?_)))))));rintro _ rfl;refine A3 (A5 Z Z) Z (A3 (C1 Z Z) Z (A3 (C1 Z Z) Z (A3 (A6 Z Z) Z (A3 (A6 Z Z) Z (A7 ?_)))))
 refine k1 (k2 (k2 ?_))
 by_cases hcx:ctx < 0∨1048576 < ctx
 ·rw [J03 hcx]
  refine A4 (A3 (A5 Z Z) Z (A3 (K2 Z Z) Z (A7 ?_)))
  refine k1 ?_
  refine B6 rfl (fun ht=>?_) (fun ht=>?_)
  ·refine k2 ?_
   refine A4 (A3 (F9 Z) Z (A3 (A5 Z Z) Z (E7 (B2 TySz.out Z Z Z Z Z Z) (A3 (A6 Z Z) Z (A7 ?_)))))
   refine k1 ?_
   refine G6 (J72 PatchHunk 3 phunkC 12 2 Z Z) ?_
   refine k10 (k11 ?_)
   exact B7 (rs:=[pPatch X6,G5 3]) (X7 rfl rfl rfl rfl rfl rfl rfl) (by rw [hmk,if_pos hcx])
  ·cases ht
 rw [J04 hdf hcx]
 rw [if_neg hcx] at hmk
 have hmd:=E91 on nn a b l ctx hn1 hn2 hcx ha0 hb0 (by rw [←hx,←hy];exact hdf)
 have hgo:=E67 hdf.ok (by omega) (ctx:=ctx) l.length (Nat.le_refl _)
 have hgl:=(A15 l x.length ctx l.length).1
 have hho:P8 l x y ctx=(H2 l x.length ctx l.length).map (L6 l x y):=rfl
 obtain ⟨g,hg⟩:∃g,g=H2 l x.length ctx l.length:=⟨_,rfl⟩
 rw [←hg] at hgo hgl hho ⊢
 refine A4 (A3 (A5 Z Z) Z (A3 (K2 Z Z) Z (A7 ?_)))
 refine k1 ?_
 refine B6 rfl (fun ht=>?_) (fun ht=>?_)
 ·cases ht
 refine k5 (k1 (k2 ?_))
 refine A4 (A3 (A5 Z Z) Z (A3 (A5 Z Z) Z (A3 (F9 Z) Z (C5 (E8 21 Z) Z (E7 (B2 TySz.out Z Z Z Z Z Z) (A7 ?_))))))
 refine M7 [(12,.s (.one (.ref 12 0))),(14,C7 Str 1 K6 x),(16,C7 Str 1 K6 y),(18,C7 Change 4 changeC l),(20,C7 Hunk 6 hunkC g),(21,.s (.one (.ref 21 0)))] [(12,.box [.p (.v (.string ⟨#[]⟩)),.p (.v (.string ⟨#[]⟩)),.p (.v (.slice none 0 0))]),(21,.box [.p (.v (.string ⟨on.toArray⟩)),.p (.v (.string ⟨nn.toArray⟩)),.p (.v (.slice none 0 0))])] (J70 ⟨le1 rfl,le1 rfl,le1 rfl,le1 rfl,le1 rfl,le1 rfl,trivial⟩ ⟨rfl,rfl,trivial⟩) ?_
 refine G6 (J75 702 PatchHunk 3 phunkC 29 (kb:=21) (o:=2) Z Z Z) ?_
 refine k2 (k2 ?_)
 refine A4 (A3 (A5 Z Z) Z (A3 (E3 Z (.pure _ _ _ _)) Z (A3 (A5 Z Z) Z (A7 ?_))))
 refine k1 (k3 ?_)
 refine E2 (X:=Nat) (fun k=>([(12,.s (.one (.ref 12 0))),(14,C7 Str 1 K6 x),(16,C7 Str 1 K6 y),(18,C7 Change 4 changeC l),(21,.s (.one (.ref 21 0))),(94,C7 Hunk 6 hunkC g),(95,C0 g.length),(96,C0 k)],[(12,.box [.p (.v (.string ⟨#[]⟩)),.p (.v (.string ⟨#[]⟩)),.p (.v (.slice none 0 0))]),(21,.box [.p (.v (.string ⟨on.toArray⟩)),.p (.v (.string ⟨nn.toArray⟩)),.buf 702 PatchHunk 3 phunkC ((g.take k).map (L6 l x y))]),(702,.spare ((g.take k).map (L6 l x y)).length 3 29)])) (fun k=>k≤g.length) (fun k=>g.length - k) 0 (Nat.zero_le _) (J70 ⟨le1 rfl,le1 rfl,le1 rfl,le1 rfl,le1 rfl,le1 rfl,le1 rfl,le1 rfl,trivial⟩ ⟨rfl,rfl,rfl,trivial⟩) ?_
 intro k hk
 dsimp only at hk ⊢
 refine k2 ?_
 refine A4 (A3 (F0 Z Z) Z (A7 ?_))
 refine k1 (k2 ?_)
 refine B6 rfl (fun ht=>?_) (fun ht=>?_)
 ·have hlt:k < g.length:=by have:=A0 ht;omega
  obtain ⟨q,hqe⟩:∃q,q=g[k]:=⟨_,rfl⟩
  have hv:g[k]?=some q:=by rw [hqe];simp [hlt]
  have hq:=hgo _ (K16 hv)
  have htk:(g.take (k+1)).map (L6 l x y)=(g.take k).map (L6 l x y)++[L6 l x y q]:=by rw [K14 hlt,K19,hqe];rfl
  obtain ⟨hs,hhs⟩:∃hs,hs=(g.take k).map (L6 l x y):=⟨_,rfl⟩
  have hhl:hs.length=k:=by rw [hhs,K29,K22];omega
  rw [←hhs] at htk ⊢
  obtain ⟨z,hz⟩:∃z,z=L6 l x y q:=⟨_,rfl⟩
  refine k5 (k1 (k2 (k3 (k2 ?_))))
  refine A4 (A3 (B4 Z (.pure _ _ _ _) Z (by omega) hv) Z (A3 (D6 Z Z) Z (C5 (E8 23 Z) Z (E7 (B2 TySz.out Z Z Z Z Z Z) (A7 ?_)))))
  refine k1 ?_
  refine E1 (by kernel_rfl) (by kernel_rfl) (B0 (A8 Z) Z Z (B0 (A9 Z Z Z) Z Z (B0 (D1 Z Z Z) Z Z (B0 (A5 Z Z) Z Z (B0 (A5 Z Z) Z Z (B0 (A5 Z Z) Z Z (B0 (I0 (I70 l x y q hdf.ok hq (by omega) (by omega) (by omega)) Z Z) Z Z (B0 (E6 (c:=phunkC) (ys:=[L6 l x y q]) (F3 Z Z Z Z I6) Z Z Z) Z Z (H52 (I9 Z Z Z (.pure _ _ _ _) (by (simp only [K07,K10];omega)) Z) Z Z (B0 (A8 Z) Z Z (B39 (B2 TySz.out Z Z Z Z Z Z) Z (L4 ?_))))))))))))
  rw [←htk]
  refine k4 (k1 ?_)
  refine A4 (A3 (C6 Z Z (by omega)) Z (A3 (A5 Z Z) Z (A7 ?_)))
  refine k1 ?_
  exact ⟨k+1,hlt,by omega,J70 ⟨le1 rfl,le1 rfl,le1 rfl,le1 rfl,le1 rfl,le1 rfl,le1 rfl,le1 rfl,trivial⟩ ⟨rfl,rfl,rfl,trivial⟩⟩
 ·have hk':k=g.length:=by have:=A1 ht;omega
  subst hk'
  rw [K28,←hho]
  have hfit:=hmd.fit
  have hrg:=hmd.rg
  have hwr:=hmd.wr
  rw [←hx,←hy] at hfit hrg hwr
  refine k6 (k2 (k2 ?_))
  refine A4 (A3 (D1 Z Z Z) Z (C9 (G78 ⟨on,nn,P8 l x y ctx⟩ hfit hrg) Z Z Z ?_));rintro _ rfl;refine A3 (R5 Z Z) Z (A7 ?_)
  refine k1 ?_
  refine B6 rfl (fun ht=>?_) (fun ht=>?_)
  ·have h4:=A0 ht
   exact absurd h4 (by omega)
  ·refine k5 (k1 (k2 ?_))
   refine A4 (A3 (D1 Z Z Z) Z (E7 (B2 TySz.out Z Z Z Z Z Z) (A3 (A6 Z Z) Z (A7 ?_))))
   refine k1 (k10 ?_)
   exact B7 (rs:=[pPatch ⟨on,nn,P8 l x y ctx⟩,G5 0]) (X7 rfl rfl rfl rfl rfl rfl rfl) (by rw [hmk])
set_option maxHeartbeats 1000000
end Go.Proofs.YtbiadkkamhpdnaaGreatDoor
namespace Go.Proofs.YtbiadkkamhpdnaaGreatDoor
open Go Go.AL
set_option maxRecDepth 100000
section
variable {P:Program} {nt:Nat} {fr:Fr} {o n:Str} {hs:List PatchHunk}
end
set_option maxHeartbeats 2000000
end Go.Proofs.YtbiadkkamhpdnaaGreatDoor
